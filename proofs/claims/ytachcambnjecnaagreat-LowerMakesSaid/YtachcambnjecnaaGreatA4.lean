/- Part of a proof. -/
import Derived.Test.YtachcambnjecnaaGreatA3
import Derived.Orders

namespace Ax
open Go
variable {P:Program}{w w':World}{G G':bp}{β gZ:List nh}{ρ:Operand->Value}{o:Oper}
variable {S:Nat->Option aH}{so:aK}{vals:List fq}{wl af:Nat}{st bV:aj}{bx gD:bF}{cO:Nat->Nat}{r:fq}
theorem kB.le{cO cO':Nat->Nat}{v:Value}(h:kB w G β st bx cO w' G' gZ bV gD r v)(hc:∀b,cO b<=cO' b):kB w G β st bx cO' w' G' gZ bV gD r v:=
 { h with gu:=λb=>by have h1:=h.gu b;have h2:=hc b;omega,vM:=λb hb=>h.vM b (by have:=hc b;omega) }
theorem Yw{t e:TypeId}{parts:Array (Nat×Operand)}(ho:o.op=.buildSlice t 0 parts)(hu:P.underlying t=some (.slice e)){sz:Nat}(dH:dD P e sz=true)(hp:parts = #[]) :
  (execOp ρ o).run P w=.ok (.value (.slice (some ⟨w.heap.size,0,none⟩) 0 0)) (w.alloc (.cells #[] e)):=by
 obtain⟨i,hi,FL,_⟩:=ni dH;subst hp;have h0:(Array.range 0).map (λ_:Nat=>(default:Value)) = #[]:=by apply Array.ext';simp
 simp[execOp,ho,Instr.buildSlice,run_underlying hu,Go.sizeOf,typeInfo,hi,Instr.fill,newRow];rw[h0]
theorem acV{t:TypeId}{n n' sz:Nat}{parts:Array (Nat×Operand)}{zero:List AV}{qs:List Nat}{mu:Bool}(ho:o.op=.buildSlice t n parts)(Od:n=n')
  (hu:match P.underlying t with
   |some (.slice e)=>(dD P e sz&&decide (n*sz<=16777216)&&sK P e zero&&decide (0<sz)&&(zero.length==sz)&&parts.toList.map (·.1)==qs)=true|_=>False) (hI:jQ w G st) (hB:lH w G β bx)
  (hR:lg w G β vals ((parts.toList.map (·.2)).map ρ)) (hcO:∀b,mD b vals ((parts.toList.map (·.2)).map ρ)<=cO b) (ha:aW wl af (if mu then .Ye sz n' zero qs else .lit sz n' zero qs) vals st bx=some (r,bV,gD)) :
  j9 P ρ o w G β st bx cO none r bV gD:=by
 subst Od;split at hu;rename_i e Hq;simp only[Bool.and_eq_true,decide_eq_true_eq,beq_iff_eq]at hu;obtain⟨⟨⟨⟨⟨dH,KL⟩,hz⟩,Uk⟩,MB⟩,hq⟩:=hu;have GY:(parts.toList.map (·.2)).map ρ=parts.toList.map λp=>ρ p.2:=by simp
 rw[GY]at hR hcO;cases mu with
 |true=>
  simp only[if_true]at ha;unfold aW at ha;simp only at ha;split at ha;rename_i vs Cb;split at ha;rename_i rows tA;split at ha;rename_i hc;simp only[Bool.and_eq_true,decide_eq_true_eq]at hc;cases ha;obtain⟨hv,CC⟩:=hR.Oc Cb;obtain⟨cells,e1,e2,e3,e4,e5,e6⟩:=W6 (w:=w) ho Hq dH KL hz Uk MB hq tA hc.2 hv;obtain⟨G',hA,_⟩:=vO (sz:=sz) (cap:=n) (rows:=rows) (c:=cells) (e:=e) (xs:=cells.toList) (w':=w.alloc (.cells cells e)) (cO:=cO) hI hB rfl rfl rfl e4 (zx hc.1) e2 hc.2 (by omega) (by omega) (by simp)
   (λb=>by have h1:=e3 b;have h2:=hcO b;rw[CC]at h2;omega)
  exact⟨_,_,_,G',β,e1,.inl rfl,hA,gp.refl _ _⟩;cases ha;cases ha;cases ha
 |false=>
  simp only[Bool.false_eq_true,if_false]at ha;unfold aW at ha;simp only at ha;split at ha;rename_i vs Cb;split at ha;rename_i rows tA;split at ha;rename_i hc;simp only[Bool.and_eq_true]at hc;cases ha;obtain⟨hv,CC⟩:=hR.Oc Cb;by_cases hn:n=0;subst hn;rw[if_pos rfl];have Yx:parts = #[]:=by
   cases Pw:parts.toList with
   |nil=>exact Array.toList_eq_nil_iff.1 Pw|cons p l=>
    rw[Pw]at hq;subst hq;simp only[List.map_cons,List.replicate_zero]at tA;cases Xc:AV.cq vs with
    |nil=>rw[Xc]at tA;simp[gv]at tA|cons v l'=>rw[Xc]at tA;simp[gv]at tA
  exact⟨_,_,_,_,β,Yw ho Hq dH Yx,.inl rfl,G5 (w':=w.alloc (.cells #[] e)) rfl rfl rfl none hI hB (.mL _) λb=>by simp[gu],gp.refl _ _⟩;rw[if_neg hn];have TU:0<n:=by omega
  obtain⟨cells,e1,e2,e3,e4,e5,e6⟩:=W6 (w:=w) ho Hq dH KL hz Uk MB hq tA TU hv.view;have jy:∀r∈rows,AV.eZ r=true:=by
   obtain⟨_,_,_,_,_,NU,_⟩:=oF hz w G;have:=zy (sz:=sz) (p:=λc=>c.cD=true) qs (AV.cq vs) _ rows (λr hr c hc=>by
    rw[List.eq_of_mem_replicate hr]at hc;exact(NU c hc).1) (λv hv=>I2 (I3 vs v hv)) tA
   exact λr hr=>(de r).2 (this r hr)
  have Yl:=G6 (G:=G.new w.heap.size (some (rows.length*sz)) []) (w:=w.alloc (.cells cells e)) (cap:=n) (off:=0) e4 (zx hc.2) jy (I1 hc.1) (e2.push (w':=w.alloc (.cells cells e)) rfl _ _) (tu rfl) (by omega) (by omega) (by simp[bp.new]) (λk x hk=>by rw[Nat.zero_add];simpa using hk);exact⟨_,_,_,_,β,e1,.inl rfl,G5 (w':=w.alloc (.cells cells e)) rfl rfl rfl (some (rows.length*sz)) hI hB Yl.view λb=>by simp[gu],gp.refl _ _⟩;cases ha;cases ha;cases ha
 exact hu.elim
theorem Qn{α:Type}{l:List α}(h:l.length=2):∃x y,l=[x,y]:=by
 match l,h with
 |[x,y],_=>exact⟨x,y,rfl⟩
theorem Cj{sz:Nat}{vals:List fq}(wl af:Nat):aW wl af (.indexAddr sz) vals st bx=aW 0 0 (.indexAddr sz) vals st bx:=rfl
theorem acW{w:World}{G:bp}{b:Bool}{v:Value}(h:bC w G (.bool b) v):v=.bool b:=h.jT
theorem Yy(hm:mOp S P o so=true)(hI:jQ w G st)(hB:lH w G β bx)(hX:∀b,cO b+gW b β bx+cA b G.ls st<=1)
  (hA:∀xs,iF xs so.args=true->lg w G β vals (xs.map ρ)/\∀b,mD b vals (xs.map ρ)<=cO b)(ha:aW wl af so.op vals st bx=some (r,bV,gD)) :
  j9 P ρ o w G β st bx cO so.op.bg r bV gD:=by
 unfold mOp at hm;rw[Bool.and_eq_true]at hm;replace hm:=hm.2;generalize hso:so.op=sop at hm ha;split at hm;rename_i x ho;obtain⟨hR,hc⟩:=hA _ hm;unfold aW at ha;simp only at ha;split at ha;cases ha;exact j9.nR hI hB (u:=ρ x) (by simp[execOp,ho]) hR.1 λb=>by have:=hc b;simp only[List.map_cons,mD]at this;omega
 cases ha;rename_i x ho;obtain⟨hR,hc⟩:=hA _ hm;unfold aW at ha;simp only at ha;split at ha;cases ha;exact j9.nR hI hB (u:=ρ x) (by simp[execOp,ho]) hR.1 λb=>by have:=hc b;simp only[List.map_cons,mD]at this;omega
 cases ha;rename_i c x y ho;obtain⟨hR,hc⟩:=hA _ hm;unfold aW at ha;simp only at ha;split at ha;rename_i b x' y';cases ha;obtain⟨h1,h2,h3,_⟩:=hR;have hb:=acW h1;refine j9.nR hI hB (u:=if b then ρ x else ρ y) (by simp[execOp,ho,hb,asBool]) ?_ λd=>?_;cases b;exact h3;exact h2;have:=hc d;simp only[List.map_cons,mD]at this;cases b;simp;omega;simp;omega;cases ha;rename_i op t x y yt op' ho;simp only[Bool.and_eq_true,beq_iff_eq]at hm;obtain⟨rfl,hm⟩:=hm;obtain⟨hR,hc⟩:=hA _ hm;unfold aW at ha;simp only at ha;split at ha;split at ha;rename_i v hv;cases ha;obtain⟨u,e1,e2,e3⟩:=acz ho hv hR.1 hR.2.1;exact j9.cD hI hB e1 e2 e3;cases ha;cases ha;rename_i op t x y yt k neg ho;simp only[Bool.and_eq_true,beq_iff_eq]at hm;obtain⟨⟨rfl,hm⟩,ht⟩:=hm;obtain⟨hR,hc⟩:=hA _ hm;unfold aW at ha;simp only at ha;split at ha;split at ha;rename_i b hb;cases ha;obtain⟨u,e1,e2⟩:=acA ho ht hb hR.1 hR.2.1;exact j9.cD hI hB e1 e2 rfl;cases ha;cases ha;rename_i op t x y yt neg ho;simp only[Bool.and_eq_true,beq_iff_eq]at hm;obtain⟨⟨rfl,hm⟩,ht⟩:=hm;obtain⟨hR,hc⟩:=hA _ hm;unfold aW at ha;simp only at ha;split at ha;rename_i id cz;split at ha;rename_i v sz rows iu;split at ha;rename_i lp;cases ha;exact j9.cD hI hB (Ua ho ht hI iu lp hR.1 hR.2.1) (.bool _) rfl;cases ha;cases ha;cases ha;rename_i op t x op' ho;simp only[Bool.and_eq_true,beq_iff_eq]at hm;obtain⟨rfl,hm⟩:=hm;obtain⟨hR,hc⟩:=hA _ hm;unfold aW at ha;simp only at ha;split at ha;split at ha;rename_i v hv;cases ha;obtain⟨u,e1,e2,e3⟩:=agU ho hv hR.1;exact j9.cD hI hB e1 e2 e3;cases ha;cases ha;rename_i s d x k ho;simp only[Bool.and_eq_true]at hm;obtain⟨hm,ht⟩:=hm;obtain⟨hR,hc⟩:=hA _ hm;unfold aW at ha;simp only at ha;split at ha;cases ha;split at ht;rename_i k1 k2 h1 h2;simp only[beq_iff_eq]at ht;subst ht;exact j9.cD hI hB (Yj ho h1 h2 hR.1) (.int _ _) rfl;cases ht;cases ha;rename_i x ho;obtain⟨hR,hc⟩:=hA _ hm;unfold aW at ha;simp only at ha;split at ha;cases ha;obtain⟨g,b,h1,h2,h3⟩:=hR.1;exact j9.nR hI hB (yE ho h3) ⟨g,b,h1,h2,h3⟩ λd=>by simp[cM]
 split at ha;cases ha;have hp:∃a,ρ x=.pointer (some a):=by
  have h:=hR.1;simp only[kQ]at h;cases h with|ptr _ _ _ _ _ _ hp=>exact hp
 obtain⟨a,hp⟩:=hp;exact j9.nR hI hB (yE ho hp) hR.1 λd=>by simp[cM,gu]
 cases ha;have hp:∃a,ρ x=.pointer (some a):=by
  have h:=hR.1;simp only[kQ]at h;generalize ρ x=v at h;cases h;exact⟨_,rfl⟩
 obtain⟨a,hp⟩:=hp;exact j9.nR hI hB (yE ho hp) hR.1 λd=>by simp[cM,gu]
 cases ha;cases ha;rename_i x i j ho;simp only[Bool.and_eq_true,beq_iff_eq]at hm;obtain⟨rfl,hm⟩:=hm;obtain⟨hR,hc⟩:=hA _ hm;unfold aW at ha;simp only at ha;split at ha;split at ha;rename_i v hv;cases ha;obtain⟨u,e1,e2,e3⟩:=NT ho hv hR.1;exact j9.nR hI hB e1 e2 λb=>by have h1:=hc b;have h2:=e3 b;simp only[List.map_cons,mD,cM]at h1 ⊢;omega
 cases ha;cases ha;rename_i t x f off n agg ho;simp only[Bool.and_eq_true]at hm;obtain⟨hm,ht⟩:=hm;obtain⟨hR,hc⟩:=hA _ hm;split at ht;rename_i fs hu;split at ht;rename_i fd hf;simp only[Bool.and_eq_true,beq_iff_eq]at ht;obtain⟨⟨h1,h2⟩,h3⟩:=ht;unfold aW at ha;simp only at ha;split at ha;split at ha;rename_i cs Qk;split at ha;rename_i v hv;cases ha;obtain⟨u,e1,e2,e3⟩:=Ud ho hu hf h1 h2 h3 Qk hv hR.1;exact j9.nR hI hB e1 e2 λb=>by have h1:=hc b;have h2:=e3 b;simp only[List.map_cons,mD,cM]at h1 ⊢;omega
 cases ha;cases ha;cases ha;cases ht;cases ht;rename_i t parts zero qs ho;simp only[Bool.and_eq_true]at hm;obtain⟨⟨hm,hz⟩,ht⟩:=hm;obtain⟨hR,hc⟩:=hA _ hm;have GY:(parts.toList.map (·.2)).map ρ=parts.toList.map λp=>ρ p.2:=by simp
 rw[GY]at hR hc;split at ht;rename_i fs hu;split at ht;rename_i is FL;unfold aW at ha;simp only at ha;split at ha;rename_i vs Cb;split at ha;rename_i cs tA;cases ha;obtain⟨hv,CC⟩:=hR.Oc Cb;obtain⟨u,e1,e2,e3⟩:=Ue ho hu FL hz ht tA hv;exact j9.nR hI hB e1 e2 λb=>by have h1:=hc b;have h2:=e3 b;have h3:=CC b;simp only[cM];omega
 cases ha;cases ha;cases ht;cases ht;rename_i t n parts sz n' zero qs ho;simp only[Bool.and_eq_true,beq_iff_eq]at hm;obtain⟨⟨hn,hm⟩,ht⟩:=hm;obtain⟨hR,hc⟩:=hA _ hm;refine acV (mu:=false) ho hn ?_ hI hB hR hc ha;split at ht;rename_i he;rw[he];simpa using ht;cases ht;rename_i t x f off ho;simp only[Bool.and_eq_true]at hm;obtain⟨hm,ht⟩:=hm;obtain⟨hR,hc⟩:=hA _ hm;split at ht;rename_i fs hu;split at ht;rename_i fd hf;simp only[Bool.and_eq_true,beq_iff_eq]at ht;obtain⟨h1,h2⟩:=ht;subst h1;split at h2;rename_i i hi;have hs:i.size≠0:=by simpa using h2
 unfold aW at ha;simp only at ha;split at ha;rename_i j k;cases ha;obtain⟨g,b,g1,g2,g3⟩:=hR.1;refine j9.nR hI hB (vK ho hu hf hi hs g3) ⟨g,b,g1,g2,?_⟩ λd=>by simp[cM]
 rw[mO];rename_i id cz i' k;cases ha;obtain⟨a,e1,e2⟩:=yd hR.1 (.inl ⟨id,cz,i',k,rfl,rfl⟩);exact j9.cD hI hB (vK ho hu hf hi hs e1) e2 rfl;rename_i sz rows i' k;cases ha;obtain⟨a,e1,e2⟩:=yd hR.1 (.inr ⟨sz,rows,i',k,rfl,rfl⟩);exact j9.cD hI hB (vK ho hu hf hi hs e1) e2 rfl;cases ha;cases h2;cases ht;cases ht;rename_i t x y sz ho;simp only[Bool.and_eq_true]at hm;obtain⟨hm,ht⟩:=hm;obtain⟨hR,hc⟩:=hA _ hm;split at ht;rename_i e hu;rw[Cj]at ha;have yL:=ha;unfold aW at ha;simp only at ha;split at ha;obtain⟨rfl,rfl,p,u,rfl,e1,e2,e3⟩:=II ho hu ht hI yL hR.1 (bC.jP hR.2.1);exact j9.cD hI hB e1 e2 e3;cases ha;cases ht;rename_i t x y ho;simp only[Bool.and_eq_true]at hm;obtain⟨hm,ht⟩:=hm;obtain⟨hR,hc⟩:=hA _ hm;split at ht;rename_i hu;unfold aW at ha;simp only at ha;split at ha;split at ha;rename_i h0;split at ha;rename_i b hb;cases ha;exact j9.cD hI hB (Uh ho hu h0 hb hR.1 (bC.jP hR.2.1)) (.int _ _) rfl;cases ha;cases ha;cases ha;cases ht;rename_i t x lo hi mx wV l h m sz ho;simp only[Bool.and_eq_true,beq_iff_eq]at hm;obtain⟨⟨⟨⟨⟨hm,rfl⟩,rfl⟩,rfl⟩,Yv⟩,ht⟩:=hm;obtain⟨hR,hc⟩:=hA _ hm;refine Uw ho (λh=>by rw[h]at Yv;simpa using Yv) ?_ hI hB hR hc ha;split at ht;rename_i he;rw[he];exact ht;rename_i he;rw[he];exact ht;cases ht;rename_i t x agg n take ho;simp only[Bool.and_eq_true]at hm;obtain⟨⟨⟨hm,hn⟩,sN⟩,mh⟩:=hm;obtain⟨hR,hc⟩:=hA _ hm;have MF:nN P t=some agg:=by simpa using sN
 have MG:agg=false->n=1:=λh=>by subst h;simpa using mh
 have yL:=ha;unfold aW at ha;simp only at ha;split at ha;rename_i p;cases take with
 |true=>
  obtain⟨v,e1,e2⟩:=KR ho hn MF MG hI hB hX hR.1 yL;exact⟨_,_,_,_,_,e1,.inl rfl,e2,gp.refl _ _⟩
 |false=>
  split at ha;rename_i cs Dk;simp only[Bool.false_eq_true,if_false]at ha;split at ha;rename_i v hv;cases ha;obtain⟨b,off,xs,h1,h2,h3,h4⟩:=IJ hI Dk hR.1;obtain⟨u,e1,e2,e3⟩:=G4 ho hn MF MG h1 h2 h3.view h4 hv;exact j9.nR hI hB e1 e2 λd=>by
   simp only[cM,e3 d];rw[eF d _ _ (gG cs)];omega
  cases ha;cases ha
 cases ha;rename_i t x j agg n take ho;simp only[Bool.and_eq_true]at hm;obtain⟨⟨⟨hm,hn⟩,sN⟩,mh⟩:=hm;obtain⟨hR,hc⟩:=hA _ hm;have MF:nN P t=some agg:=by simpa using sN
 have MG:agg=false->n=1:=λh=>by subst h;simpa using mh
 have yL:=ha;unfold aW at ha;simp only at ha;split at ha;obtain⟨v,e1,e2⟩:=Ur ho hn MF MG hI hB hX hR.1 yL;exact⟨_,_,_,_,_,e1,.inl rfl,e2,gp.refl _ _⟩;cases ha;rename_i t x y n ho;simp only[Bool.and_eq_true]at hm;obtain⟨hm,hn⟩:=hm;obtain⟨hR,hc⟩:=hA _ hm;have yL:=ha;unfold aW at ha;simp only at ha;split at ha;obtain⟨w',G',e1,e2⟩:=Up ho hn hI hB hX hR.1 hR.2.1 (λb=>by have:=hc b;simp only[List.map_cons,mD,cM]at this;omega) yL;exact⟨_,_,_,_,_,e1,.inr ⟨rfl,rfl⟩,e2,gp.refl _ _⟩;cases ha;rename_i t x y j n ho;simp only[Bool.and_eq_true]at hm;obtain⟨hm,hn⟩:=hm;obtain⟨hR,hc⟩:=hA _ hm;have yL:=ha;unfold aW at ha;simp only at ha;split at ha;obtain⟨w',G',gZ,e1,e2,e3⟩:=Qj ho hn hI hB hX hR.1 hR.2.1 (λb=>by have:=hc b;simp only[List.map_cons,mD]at this;simp only[cM]at this ⊢;omega) yL;exact⟨_,_,_,_,_,e1,.inr ⟨rfl,rfl⟩,e2,e3⟩;cases ha;rename_i t zero ho;simp only[Bool.and_eq_true]at hm;obtain⟨_,hz⟩:=hm;obtain⟨i,z,hi,Uf,pe,NU,Yn⟩:=oF hz w G;unfold aW at ha;simp only at ha;split at ha;cases ha;obtain⟨G',MH⟩:=NZ (t:=t) (cO:=cO) hI hB pe NU Yn;exact⟨_,_,_,_,_,MA ho hi Uf,.inl rfl,MH,gp.refl _ _⟩;cases ha;rename_i t j zero ho;simp only[Bool.and_eq_true]at hm;obtain⟨_,hz⟩:=hm;obtain⟨i,z,hi,Uf,pe,NU,Yn⟩:=oF hz w G;unfold aW at ha;simp only at ha;split at ha;split at ha;rename_i hj;cases ha;have hb:j<β.length:=by rw[hB.len];exact hj
 refine⟨_,_,_,_,_,MA ho hi Uf,.inl rfl,Mz (c:=z.cells) (e:=t) (w':=w.alloc (.cells z.cells t)) hI hB rfl rfl rfl hj pe Yn (λb=>by rw[FO NU];omega),?_⟩;exact gp.set (List.getElem?_eq_getElem hb) λh=>absurd rfl h;cases ha;cases ha;rename_i t x n ho;obtain⟨hR,hc⟩:=hA _ hm;unfold aW at ha;simp only at ha;split at ha;split at ha;rename_i lp;simp only[Bool.and_eq_true,decide_eq_true_eq]at lp;cases ha;obtain⟨G',MH⟩:=P6 (t:=t) (cO:=cO) hI hB hR.1 lp.1 lp.2 (λb=>by have:=hc b;simp only[List.map_cons,mD,cM]at this;omega);exact⟨_,_,_,_,_,W5 ho,.inl rfl,MH,gp.refl _ _⟩;cases ha;cases ha;rename_i t x j n ho;obtain⟨hR,hc⟩:=hA _ hm;unfold aW at ha;simp only at ha;split at ha;split at ha;rename_i lp;simp only[Bool.and_eq_true,decide_eq_true_eq]at lp;cases ha;have hb:j<β.length:=by rw[hB.len];exact lp.1.1
 obtain⟨CC,Mt⟩:=bC.cells hR.1;refine⟨_,_,_,_,_,W5 ho,.inl rfl,Mz (c:=(ρ x).cells) (e:=t) (w':=w.alloc (.cells (ρ x).cells t)) hI hB rfl rfl rfl lp.1.1 CC lp.2 (λb=>by have:=hc b;simp only[List.map_cons,mD,cM]at this;rw[Mt];omega),?_⟩;exact gp.set (List.getElem?_eq_getElem hb) λh=>absurd rfl h;cases ha;cases ha;rename_i t x y sz bytes zero mt ho;simp only[Bool.and_eq_true]at hm;obtain⟨hm,ht⟩:=hm;obtain⟨hR,hc⟩:=hA _ hm;split at ht;rename_i e hu;simp only[Bool.and_eq_true,decide_eq_true_eq]at ht;obtain⟨⟨⟨⟨h1,h2⟩,h3⟩,h4⟩,h5⟩:=ht;unfold aW at ha;simp only at ha;split at ha;rename_i n c;split at ha;rename_i lp;obtain⟨c1,c2,c3,c4⟩:=lp;have hcm:c<=9223372036854775807:=by
  have:c*1<=c*bytes:=Int.mul_le_mul_of_nonneg_left (by omega) (by omega);simp only[cT]at c3;omega
 obtain⟨cells,e1,e2,e3,e4⟩:=P7 (w:=w) (G:=G) ho hu h1 h2 h3 h4 c4 (bC.jP hR.1) (bC.jP hR.2.1) c1 c2 c3 hcm;obtain⟨_,_,_,_,_,NU,Yn⟩:=oF h3 w G;have hle:n.toNat*sz<=c.toNat*sz:=Nat.mul_le_mul_right _ (by omega);have cL:bL sz (List.replicate n.toNat zero)=true:=dg.2 λr hr=>by rw[List.eq_of_mem_replicate hr,c4]
 have kC:∀r∈List.replicate n.toNat zero,AV.bq r=true:=λr hr=>by rw[List.eq_of_mem_replicate hr];exact Yn
 have hx:∀(k:Nat) x,(cells.toList.take (n.toNat*sz))[k]?=some x->cells[k]?=some x:=λk x hk=>by
  rw[List.getElem?_take]at hk;split at hk;simpa using hk;cases hk
 split at ha;cases ha;by_cases yJ:c.toNat=0;have TU:n.toNat=0:=by omega
 rw[TU,yJ]at e1;rw[TU];have hA0:kB w G β st bx cO (w.alloc (.cells cells e)) (G.new w.heap.size (some 0) [⟨some ⟨w.heap.size,0,none⟩,0,0,sz,0,false,[]⟩]) β (st++[.rows 0 sz []]) bx (.val (.mu st.length 0)) (.slice (some ⟨w.heap.size,0,none⟩) 0 0):=by
  have hl:(G.new w.heap.size (some 0) [⟨some ⟨w.heap.size,0,none⟩,0,0,sz,0,false,[]⟩]).ls[st.length]?=some ⟨some ⟨w.heap.size,0,none⟩,0,0,sz,0,false,[]⟩:=by
   simp only[bp.new];rw[List.getElem?_append_right (by rw[hI.len];exact Nat.le_refl _),hI.len];simp
  exact sC (w':=w.alloc (.cells cells e)) (ao:=.rows 0 sz []) (ob:=.cells cells e) rfl rfl rfl hI hB ⟨rfl,rfl,by simp[bL],by simp,rfl,rfl,rfl,λi r xs h=>by simp at h,.inl ⟨rfl,rfl,rfl⟩⟩ (.mu _ _ _ _ ⟨_,_,_,rfl⟩ hl (Nat.le_refl _) λ_=>rfl) rfl λb=>by simp[je,mC.jF,iP]
 exact⟨_,_,_,_,_,e1,.inl rfl,hA0,gp.refl _ _⟩;obtain⟨G',MH,_⟩:=vO (sz:=sz) (cap:=c.toNat) (rows:=List.replicate n.toNat zero) (c:=cells) (e:=e) (xs:=cells.toList.take (n.toNat*sz)) (w':=w.alloc (.cells cells e)) (cO:=cO) hI hB rfl rfl rfl cL kC e3 (by omega) (by omega) (by simp;omega) hx (λb=>by rw[e4];omega);rw[List.length_replicate]at MH;exact⟨_,_,_,_,_,e1,.inl rfl,MH,gp.refl _ _⟩;split at ha;rename_i hpz;cases ha;obtain⟨G',MH⟩:=G7 (sz:=sz) (cap:=c.toNat) (rows:=List.replicate n.toNat zero) (c:=cells) (e:=e) (xs:=cells.toList.take (n.toNat*sz)) (w':=w.alloc (.cells cells e)) (cO:=cO) hI hB rfl rfl rfl cL kC
  (λr hr=>by rw[List.eq_of_mem_replicate hr];exact(de zero).2 λc hc=>(NU c hc).1) (λr hr=>by rw[List.eq_of_mem_replicate hr];exact hpz) e3 (by omega) (by simp;omega) hx
 rw[List.length_replicate]at MH;exact⟨_,_,_,_,_,e1,.inl rfl,MH,gp.refl _ _⟩;cases ha;cases ha;cases ha;cases ht;rename_i t ho;unfold aW at ha;simp only at ha;split at ha;cases ha;obtain⟨G',MH⟩:=Ul (cO:=cO) hI hB;exact⟨_,_,_,_,_,by simp only[execOp,ho,Option.map_none,Sem.run_bind,show (Instr.makeMap t none).run P w=.ok (.map (some w.heap.size)) (w.alloc (.map #[] 0)) from rfl,Result.andThen_ok,Sem.run_pure],.inl rfl,MH,gp.refl _ _⟩;cases ha;rename_i t m k x kk ho;simp only[Bool.and_eq_true]at hm;obtain⟨hm,ht⟩:=hm;obtain⟨hR,hc⟩:=hA _ hm;split at ht;rename_i kt et hu;have yL:=ha;unfold aW at ha;simp only at ha;split at ha;obtain⟨w',G',e1,e2⟩:=BB (.inl ho) hu ht hI hB hX hR.1 hR.2.1 hR.2.2.1 yL;exact⟨_,_,_,_,_,e1,.inr ⟨rfl,rfl⟩,e2,gp.refl _ _⟩;cases ha;cases ht;rename_i t m k x kk ho;simp only[Bool.and_eq_true]at hm;obtain⟨hm,ht⟩:=hm;obtain⟨hR,hc⟩:=hA _ hm;split at ht;rename_i kt et hu;have yL:=ha;unfold aW at ha;simp only at ha;split at ha;obtain⟨w',G',e1,e2⟩:=BB (.inr ho) hu ht hI hB hX hR.1 hR.2.1 hR.2.2.1 yL;exact⟨_,_,_,_,_,e1,.inr ⟨rfl,rfl⟩,e2,gp.refl _ _⟩;cases ha;cases ht;rename_i t m k ok kk zero ok' ho;simp only[Bool.and_eq_true,beq_iff_eq]at hm;obtain⟨⟨rfl,hm⟩,ht⟩:=hm;obtain⟨hR,hc⟩:=hA _ hm;split at ht;rename_i kt et hu;simp only[Bool.and_eq_true]at ht;obtain⟨ht,hz⟩:=ht;split at hz;rename_i ie hie;split at hz;rename_i z hzz;unfold aW at ha;simp only at ha;split at ha;rename_i am ak;split at ha;cases ha;rename_i es jR;split at ha;split at ha;cases ha;rename_i bz hf;cases ha;have ag6:(am=.gn/\es=[])\/∃id,am=.map id/\st[id]?=some (.map es):=by
  split at jR;cases jR;exact .inl ⟨rfl,rfl⟩;rename_i id;split at jR;rename_i iu;cases jR;exact .inr ⟨id,rfl,iu⟩;cases jR;cases jR
 obtain⟨u,e1,e2,e3⟩:=P2 ho hu ht hie hzz hz hI ag6 hf hR.1 hR.2.1;refine j9.cD hI hB e1 e2 ?_;cases ok;exact e3;simp[AV.cD,AV.eZ,e3];cases ha;cases ha;cases hz;cases hz;cases ht;rename_i f first lK f' n ho
 simp only[Bool.and_eq_true,beq_iff_eq,decide_eq_true_eq]at hm;obtain⟨⟨⟨rfl,hm⟩,rfl⟩,hf⟩:=hm;obtain⟨hR,hc⟩:=hA _ hm;unfold aW at ha;simp only at ha;split at ha;rename_i vs Cb;cases ha;obtain⟨hv,CC⟩:=hR.Oc Cb;obtain⟨e1,e2⟩:=KI (P:=P) hf ho hv;exact j9.cD hI hB e1 e2 rfl;cases ha;rename_i c k ho;simp only[Bool.and_eq_true,beq_iff_eq]at hm;obtain⟨⟨hm,dH⟩,ht⟩:=hm;obtain⟨hR,hc⟩:=hA _ hm;obtain⟨x,hx⟩:∃x,c.args.toList=[x]:=List.length_eq_one_iff.1 (by simpa using dH);rw[hx]at hR hc;split at ht;rename_i t vW hty;unfold aW at ha;simp only at ha;split at ha;split at ha;rename_i n hn;cases ha;refine j9.cD hI hB (acB ho vW hx hty (k:=k) ?_ hI hn hR.1) (.int _ _) rfl;split at ht
 assumption
 exact⟨_,by assumption⟩;exact⟨_,_,by assumption⟩;cases ht;cases ha;cases ha;cases ht;rename_i c sz bytes ho;simp only[Bool.and_eq_true,beq_iff_eq]at hm;obtain⟨⟨⟨hm,dH⟩,Yz⟩,ht⟩:=hm;obtain⟨hR,hc⟩:=hA _ hm;obtain⟨x,y,hx⟩:∃x y,c.args.toList=[x,y]:=Qn (by simpa using dH);rw[hx]at hR hc;split at ht;rename_i t u vW Uy I4;simp only[Bool.and_eq_true]at ht;obtain⟨I5,Uz⟩:=ht;split at I5;rename_i e hu;simp only[Bool.and_eq_true,decide_eq_true_eq]at I5;obtain⟨⟨⟨⟨h1,h2⟩,h3⟩,h4⟩,h5⟩:=I5;split at h5;rename_i i hi;split at h5;rename_i z hz;simp only[beq_iff_eq]at h5;have hT:KM P t u e sz bytes i z:=by
  refine⟨hu,hi,hz,?_,?_,h5,h3,h4,?_⟩;obtain⟨i',rW,FL,_⟩:=ni h1;rw[hi]at rW;cases rW;exact FL;simpa [w6,hi] using h2;split at Uz;exact .inl ⟨_,by assumption⟩;exact .inr (by assumption);cases Uz
 have yL:=ha;unfold aW at ha;simp only at ha;split at ha;obtain⟨v,w',G',e1,e2⟩:=Qa (ty:=o.type) hT hI hB hX hR.1 hR.2.1 (λb=>by have:=hc b;simp only[List.map_cons,mD,cM]at this;omega) yL;refine⟨_,_,_,_,_,?_,.inl rfl,e2,gp.refl _ _⟩;simp only[execOp,ho,resolve,vW,Sem.run_bind,Sem.run_pure,Result.andThen_ok,invoke,builtin,C9 hx,F0 Yz Uy I4];simp[e1];cases ha;cases h5;cases h5;cases I5;cases ht;rename_i c sz bytes ho;simp only[Bool.and_eq_true,beq_iff_eq]at hm;obtain⟨⟨⟨hm,dH⟩,Yz⟩,ht⟩:=hm;obtain⟨hR,hc⟩:=hA _ hm;obtain⟨x,y,hx⟩:∃x y,c.args.toList=[x,y]:=Qn (by simpa using dH);rw[hx]at hR hc;split at ht;rename_i t u vW Uy I4;simp only[Bool.and_eq_true]at ht;obtain⟨I5,Uz⟩:=ht;split at I5;rename_i e hu;simp only[Bool.and_eq_true,decide_eq_true_eq]at I5;obtain⟨⟨⟨⟨h1,h2⟩,h3⟩,h4⟩,h5⟩:=I5;split at h5;rename_i i hi;split at h5;rename_i z hz;simp only[beq_iff_eq]at h5;have hT:KM P t u e sz bytes i z:=by
  refine⟨hu,hi,hz,?_,?_,h5,h3,h4,?_⟩;obtain⟨i',rW,FL,_⟩:=ni h1;rw[hi]at rW;cases rW;exact FL;simpa [w6,hi] using h2;split at Uz;exact .inl ⟨_,by assumption⟩;exact .inr (by assumption);cases Uz
 have yL:=ha;unfold aW at ha;simp only at ha;split at ha;obtain⟨v,w',G',e1,e2⟩:=N9 (ty:=o.type) hT hI hB hX hR.1 hR.2.1 yL;refine⟨_,_,_,_,_,?_,.inl rfl,e2,gp.refl _ _⟩;simp only[execOp,ho,resolve,vW,Sem.run_bind,Sem.run_pure,Result.andThen_ok,invoke,builtin,C9 hx,F0 Yz Uy I4];simp[e1];cases ha;cases h5;cases h5;cases I5;cases ht;unfold aW at ha;cases ha;unfold aW at ha;cases ha;have h0:so.args=[]:=by simpa using hm
 have hv:=(hA [] (by rw[h0];rfl)).1;cases vals with
 |nil=>unfold aW at ha;simp at ha|cons a l=>simp[lg]at hv
 cases hm
end Ax
namespace Ax
open Go
variable {P:Program}{w w':World}{G G':bp}{β gZ:List nh}
theorem vY(d:Nat)(e:fq)(t:Nat):∀env:p0,dj (zh env d e) t=if t=d then e else dj env t
 |[]=>by
  simp only[zh,dj];by_cases h:d=t;rw[if_pos h,if_pos h.symm];rw[if_neg h,if_neg (show ¬t=d from λe=>h e.symm)]
 |(k,x)::r=>by
  have ih:=vY d e t r;unfold zh;split;simp only[dj];by_cases h:d=t;rw[if_pos h,if_pos h.symm];rw[if_neg h,if_neg (show ¬t=d from λe=>h e.symm)];split;rename_i hk;subst hk;simp only[dj];by_cases h:d=t;rw[if_pos h,if_pos h.symm];rw[if_neg h,if_neg (show ¬t=d from λe=>h e.symm),if_neg h];simp only[dj,ih];by_cases h:k=t;rw[if_pos h,if_pos h,if_neg (by omega)];rw[if_neg h,if_neg h]
theorem Dr(d t:Nat):∀env:p0,dj (IC env d) t=if t=d then .none else dj env t
 |[]=>by simp[IC,dj]|(k,x)::r=>by
  have ih:=Dr d t r;unfold IC;split;rename_i h;rw[ih];simp only[dj];by_cases h2:t=d;rw[if_pos h2,if_pos h2];rw[if_neg h2,if_neg h2,if_neg (by omega)];simp only[dj,ih];by_cases h2:t=d;rw[if_pos h2,if_pos h2];rw[if_neg (by omega)];rw[if_neg h2,if_neg h2]
def qv:List Src->List Nat
 |[]=>[]
 |.tmp t true::r=>t::qv r|_::r=>qv r
theorem tC(t:Nat):∀(ss:List Src)(env:p0),dj (ss.foldl oB env) t=if t∈qv ss then .none else dj env t
 |[],env=>by simp[qv]|.tmp u true::r,env=>by
  simp only[List.foldl_cons,oB,qv,tC t r,Dr,List.mem_cons];by_cases h1:t∈qv r;simp[h1];by_cases h2:t=u;simp[h2];simp[h1,h2]
 |.tmp u false::r,env=>by rw[List.foldl_cons,tC t r];rfl|.const a::r,env=>by rw[List.foldl_cons,tC t r];rfl
theorem um(t:Nat):∀(l:List Nat)(env:p0),dj (jI l env) t=if t∈l then .none else dj env t
 |[],env=>by simp[jI]|u::l,env=>by
  simp only[jI,um t l,Dr,List.mem_cons];by_cases h1:t∈l;simp[h1];by_cases h2:t=u;simp[h2];simp[h1,h2]
theorem F1(t:Nat):∀(k:Nat)(l:List AV),dj (FE k l) t=if k<=t then (match l[t-k]? with|some v=>.val v|none=>.none) else .none
 |k,[]=>by simp[FE,dj]|k,v::r=>by
  simp only[FE,dj,F1 t (k+1) r];by_cases h:k=t;subst h;simp;rw[if_neg h];by_cases h2:k<=t;rw[if_pos h2,if_pos (by omega),show t-k=(t-(k+1))+1 by omega];simp;rw[if_neg h2,if_neg (by omega)]
theorem Ds{j:Nat}:∀{env:p0},mc j env=true->∀t,(dj env t).pH j=true
 |[],_,_=>rfl|(k,x)::r,h,t=>by
  simp only[mc,List.all_cons,Bool.and_eq_true]at h;simp only[dj];split;exact h.1;exact Ds (env:=r) (by simpa [mc] using h.2) t
def gY(f:Nat->Nat):Nat->Nat
 |0=>0|n+1=>gY f n+f n
theorem oH{f g:Nat->Nat}:∀{n:Nat},(∀t,t<n->f t=g t)->gY f n=gY g n
 |0,_=>rfl|n+1,h=>by simp only[gY];rw[oH λt ht=>h t (by omega),h n (by omega)]
theorem CD{f g:Nat->Nat}:∀{n:Nat},(∀t,t<n->f t<=g t)->gY f n<=gY g n
 |0,_=>Nat.le_refl _|n+1,h=>by
  simp only[gY];have h1:=CD (f:=f) (g:=g) (n:=n) λt ht=>h t (by omega);have h2:=h n (by omega);omega
theorem tD{f g:Nat->Nat}{d:Nat}:∀{n:Nat},d<n->(∀t,t≠d->f t=g t)->gY f n+g d=gY g n+f d
 |0,h,_=>by omega|n+1,h,he=>by
  simp only[gY];by_cases hd:d=n;subst hd;rw[oH (f:=f) (g:=g) λt ht=>he t (by omega)];omega;have:=tD (f:=f) (g:=g) (n:=n) (d:=d) (by omega) he;rw[he n λe=>hd e.symm];omega
theorem vZ{f:Nat->Nat}{t n:Nat}(h:t<n):f t<=gY f n:=by
 have:=tD (f:=λu=>if u=t then 0 else f u) (g:=f) (d:=t) h λu hu=>if_neg hu;simp only[if_true]at this;omega
theorem F2{n:Nat}:gY (λ_=>0) n=0:=by
 induction n with
 |zero=>rfl|succ n ih=>simp[gY,ih]
def p6(f:Nat->Nat):List Nat->Nat
 |[]=>0|t::l=>f t+p6 f l
theorem zz{f:Nat->Nat}{n:Nat}(hf:∀t,n<=t->f t=0):∀(l:List Nat),l.Nodup->p6 f l+gY (λt=>if t∈l then 0 else f t) n<=gY f n
 |[],_=>by simp[p6]|t::l,h=>by
  have ih:=zz hf l (List.nodup_cons.1 h).2;have hn:=(List.nodup_cons.1 h).1;simp only[p6];by_cases ht:t<n;have:=tD (f:=λu=>if u∈t::l then 0 else f u) (g:=λu=>if u∈l then 0 else f u) (d:=t) ht λu hu=>by simp[hu]
  simp only[List.mem_cons,true_or,if_true,if_neg hn]at this;simp only[List.mem_cons];omega;rw[hf t (by omega)];rw[oH (f:=λu=>if u∈t::l then 0 else f u) (g:=λu=>if u∈l then 0 else f u) λu hu=>by simp[show u≠t by omega]];omega
mutual
def AV.under(n:Nat):AV->Bool
 |.mu i _|.ptr i _ _ _|.map i=>decide (i<n)|.agg cs|.fm cs=>AV.oI n cs|.fn _ a b=>AV.oI n a&&AV.oI n b|_=>true
def AV.oI(n:Nat):List AV->Bool
 |[]=>true|v::r=>v.under n&&AV.oI n r
end
theorem g9(n:Nat):∀cs:List AV,AV.oI n cs=true↔∀c∈cs,c.under n=true
 |[]=>by simp[AV.oI]|c::cs=>by simp[AV.oI,g9 n cs]
mutual
theorem jf(n:Nat):∀a:AV,a.ax=true->a.under n=true
 |.mu _ _,h=>by simp[AV.ax]at h|.ptr _ _ _ _,h=>by simp[AV.ax]at h|.map _,h=>by simp[AV.ax]at h|.agg cs,h=>by simp only[AV.ax,AV.under]at *;exact pM n cs h|.fm cs,h=>by simp only[AV.ax,AV.under]at *;exact pM n cs h|.fn _ a b,h=>by simp only[AV.ax,AV.under,Bool.and_eq_true]at *;exact⟨pM n a h.1,pM n b h.2⟩|.undef,_|.gone,_|.bool _,_|.int _ _,_|.str _,_|.fF,_|.U,_|.gn,_|.jc,_|.kg,_|.dM _ _,_|.iO _ _,_|.raw _ _,_|.mL,_|.qg _ _ _ _,_=>by simp[AV.under]
theorem pM(n:Nat):∀cs:List AV,AV.ai cs=true->AV.oI n cs=true
 |[],_=>rfl|c::cs,h=>by
  simp only[AV.ai,Bool.and_eq_true]at h;simp only[AV.oI,jf n c h.1,pM n cs h.2,Bool.and_self]
end
mutual
theorem KT{m n:Nat}(YA:m<=n):∀a:AV,a.under m=true->a.under n=true
 |.mu _ _,h|.ptr _ _ _ _,h|.map _,h=>by simp only[AV.under,decide_eq_true_eq]at *;omega|.agg cs,h=>by simp only[AV.under]at *;exact pN YA cs h|.fm cs,h=>by simp only[AV.under]at *;exact pN YA cs h|.fn _ a b,h=>by simp only[AV.under,Bool.and_eq_true]at *;exact⟨pN YA a h.1,pN YA b h.2⟩|.undef,_|.gone,_|.bool _,_|.int _ _,_|.str _,_|.fF,_|.U,_|.gn,_|.jc,_|.kg,_|.dM _ _,_|.iO _ _,_|.raw _ _,_|.mL,_|.qg _ _ _ _,_=>by simp[AV.under]
theorem pN{m n:Nat}(YA:m<=n):∀cs:List AV,AV.oI m cs=true->AV.oI n cs=true
 |[],_=>rfl|c::cs,h=>by
  simp only[AV.oI,Bool.and_eq_true]at *;exact⟨KT YA c h.1,pN YA cs h.2⟩
end
theorem bC.zA{a:AV}{v:Value}(h:bC w G a v):a.under G.ls.length=true:=by
 induction h with
 |agg cs vs hl h ih=>
  simp only[AV.under];refine(g9 _ cs).2 λc hc=>?_;obtain⟨i,hi,rfl⟩:=List.mem_iff_getElem.1 hc;have rW:i<vs.size:=by omega
  exact ih i cs[i] vs[i] (List.getElem?_eq_getElem hi) (by simp[rW])
 |fm cs vs hl h ih=>
  simp only[AV.under];refine(g9 _ cs).2 λc hc=>?_;obtain⟨i,hi,rfl⟩:=List.mem_iff_getElem.1 hc;have rW:i<vs.size:=by omega
  exact ih i cs[i] vs[i] (List.getElem?_eq_getElem hi) (by simp[rW])
 |mu id cz v loc hp hl hv he=>simpa [AV.under] using (List.getElem?_eq_some_iff.1 hl).1|ptr id cz i k v loc hp hl hv he=>simpa [AV.under] using (List.getElem?_eq_some_iff.1 hl).1|map id loc b hl hm hb=>simpa [AV.under] using (List.getElem?_eq_some_iff.1 hl).1|fn f first lK vf vc hl hm hn h k ih ik=>
  simp only[AV.under,Bool.and_eq_true];refine⟨(g9 _ first).2 λc hc=>?_,(g9 _ lK).2 λc hc=>?_⟩;obtain⟨i,hi,rfl⟩:=List.mem_iff_getElem.1 hc;have rW:i<vf.size:=by omega
  exact ih i first[i] vf[i] (List.getElem?_eq_getElem hi) (by simp[rW])
  obtain⟨i,hi,rfl⟩:=List.mem_iff_getElem.1 hc;have rW:i<vc.size:=by omega
  exact ik i lK[i] vc[i] (List.getElem?_eq_getElem hi) (by simp[rW])
 |_=>simp[AV.under]
def bp.cut(G:bp)(n:Nat):bp:=⟨G.ls.take n,G.mN⟩
theorem CE{n i:Nat}{loc:mC}(h:G.ls[i]?=some loc)(hi:i<n):(G.cut n).ls[i]?=some loc:=by
 simp only[bp.cut];rw[List.getElem?_take,if_pos hi];exact h
theorem bC.Dt{n:Nat}{a:AV}{v:Value}(h:bC w G a v):a.under n=true->bC w (G.cut n) a v:=by
 induction h with
 |undef=>exact λ_=>.undef|gone v h=>exact λ_=>.gone v h|bool b=>exact λ_=>.bool b|int k n=>exact λ_=>.int k n|str l s h=>exact λ_=>.str l s h|fF=>exact λ_=>.fF|U=>exact λ_=>.U|gn=>exact λ_=>.gn|jc=>exact λ_=>.jc|kg=>exact λ_=>.kg|agg cs vs hl h ih=>exact λhb=>.agg cs vs hl λi c v h1 h2=>ih i c v h1 h2 ((g9 n cs).1 (by simpa [AV.under] using hb) c (dn h1))|fm cs vs hl h ih=>exact λhb=>.fm cs vs hl λi c v h1 h2=>ih i c v h1 h2 ((g9 n cs).1 (by simpa [AV.under] using hb) c (dn h1))|dM sz rows a cap nF g8 cL jy qL wW hc hr ih=>
  exact λ_=>.dM sz rows a cap nF g8 cL jy qL wW hc λi r j c v h1 h2 h3=>ih i r j c v h1 h2 h3 (jf n c ((gH r).1 (qL r (dn h1)) c (dn h2)))
 |iO sz rows a cap nF g8 cL jy qL wW hc hr jz gT ih=>
  exact λ_=>.iO sz rows a cap nF g8 cL jy qL wW hc (λi r j c v h1 h2 h3=>ih i r j c v h1 h2 h3 (jf n c ((gH r).1 (qL r (dn h1)) c (dn h2)))) jz gT
 |raw sz rows a cap nF g8 cL jy qL wW hc hr jz gT ih=>
  exact λ_=>.raw sz rows a cap nF g8 cL jy qL wW hc (λi r j c v h1 h2 h3=>ih i r j c v h1 h2 h3 (jf n c ((gH r).1 (qL r (dn h1)) c (dn h2)))) jz gT
 |mL a=>exact λ_=>.mL a|mu id cz v loc hp hl hv he=>exact λhb=>.mu id cz v loc hp (CE hl (by simpa [AV.under] using hb)) hv he|ptr id cz i k v loc hp hl hv he=>exact λhb=>.ptr id cz i k v loc hp (CE hl (by simpa [AV.under] using hb)) hv he|qg sz rows i k a cap hs ih=>exact λ_=>.qg sz rows i k a cap (ih (by simp[AV.under]))|map id loc b hl hm hb=>exact λoG=>.map id loc b (CE hl (by simpa [AV.under] using oG)) hm hb|fn f first lK vf vc hl hm hn h k ih ik=>
  intro hb;simp only[AV.under,Bool.and_eq_true]at hb;exact .fn f first lK vf vc hl hm hn (λi c v h1 h2=>ih i c v h1 h2 ((g9 n first).1 hb.1 c (dn h1))) λi c v h1 h2=>ik i c v h1 h2 ((g9 n lK).1 hb.2 c (dn h1))
def dz.under(n:Nat):dz->Bool
 |.rows _ _ rs=>rs.all (AV.oI n)|.map es=>es.all λe=>e.1.under n&&e.2.under n
theorem qZ.Dt{n:Nat}{ob:dz}{loc:mC}(h:qZ w G ob loc)(hb:ob.under n=true):qZ w (G.cut n) ob loc:=by
 cases ob with
 |rows cz sz rows=>
  obtain⟨h1,h2,h3⟩:=h;simp only[dz.under,List.all_eq_true]at hb;refine⟨h1,h2,h3.FJ,h3.E5,h3.len,h3.size,h3.tq,λi r xs e1 e2=>?_,h3.sM⟩;obtain⟨a1,a2⟩:=h3.uc i r xs e1 e2;exact⟨a1,λj c v g1 g2=>(a2 j c v g1 g2).Dt ((g9 n r).1 (hb r (dn e1)) c (dn g1))⟩
 |map es=>
  obtain⟨h1,h2,b,vE,clock,h3,h4,h5,h6,h7⟩:=h;simp only[dz.under,List.all_eq_true,Bool.and_eq_true]at hb;refine⟨h1,h2,b,vE,clock,h3,h4,h5,h6,λi k v e e1 e2=>?_⟩;obtain⟨g1,g2,g3,g4⟩:=h7 i k v e e1 e2;have:=hb (k,v) (dn e1);exact⟨g1.Dt this.1,g2.Dt this.2,g3,g4⟩
theorem qZ.zA{ob:dz}{loc:mC}(h:qZ w G ob loc):ob.under G.ls.length=true:=by
 cases ob with
 |rows cz sz rows=>
  obtain⟨h1,h2,h3⟩:=h;simp only[dz.under,List.all_eq_true];intro r hr;obtain⟨i,hi,rfl⟩:=List.mem_iff_getElem.1 hr;have rW:i<loc.vals.length:=by rw[h3.tq];exact hi
  obtain⟨a1,a2⟩:=h3.uc i rows[i] loc.vals[i] (List.getElem?_eq_getElem hi) (List.getElem?_eq_getElem rW);refine(g9 _ _).2 λc hc=>?_;obtain⟨j,hj,rfl⟩:=List.mem_iff_getElem.1 hc;have hj':j<loc.vals[i].length:=by omega
  exact(a2 j _ _ (List.getElem?_eq_getElem hj) (List.getElem?_eq_getElem hj')).zA
 |map es=>
  obtain⟨h1,h2,b,vE,clock,h3,h4,h5,h6,h7⟩:=h;simp only[dz.under,List.all_eq_true,Bool.and_eq_true];intro x hx;obtain⟨i,hi,rfl⟩:=List.mem_iff_getElem.1 hx;have rW:i<vE.size:=by omega
  obtain⟨g1,g2,_,_⟩:=h7 i es[i].1 es[i].2 vE[i] (List.getElem?_eq_getElem hi) (by simp[rW]);exact⟨g1.zA,g2.zA⟩
def F3(l:Nat)(st:aj):Prop:=∀(id:Nat) ob,id<l->st[id]?=some ob->ob.under l=true
theorem jQ.acX{st:aj}(h:jQ w G st):F3 st.length st:=by
 intro id ob _ hob;obtain⟨loc,hl,hr⟩:=h.loc hob;rw[<-h.len];exact hr.zA
theorem jQ.Dt{st:aj}{n:Nat}(h:jQ w G st)(hl:F3 n st):jQ w (G.cut n) (st.take n) where
 len:=by simp[bp.cut,h.len]
 aU:=λid ob loc h1 h2=>by
  simp only[bp.cut]at h2;rw[List.getElem?_take]at h1 h2;split at h1;rename_i Kp;rw[if_pos Kp]at h2;exact(h.aU id ob loc h1 h2).Dt (hl id ob Kp h1);cases h1
 nO:=h.nO
theorem UA{n:Nat}(h:sJ w G w' G')(hn:G.ls.length<=n):sJ w G w' (G'.cut n) where
 PW:=h.PW
 Mp:=λid loc hl=>by
  obtain⟨loc',a1,a2,a3⟩:=h.Mp id loc hl;exact⟨loc',CE a1 (by have:=(List.getElem?_eq_some_iff.1 hl).1;omega),a2,a3⟩
theorem F4(b:Nat):∀(n:Nat)(ls:List mC)(st:aj),cA b (ls.take n) (st.take n)<=cA b ls st
 |0,ls,st=>by simp[cA]|n+1,[],st=>by simp[cA]|n+1,l::ls,[]=>by simp[cA]|n+1,l::ls,o::st=>by
  have:=F4 b n ls st;simp only[List.take_succ_cons,cA];omega
end Ax
namespace Ax
open Go
structure dQ (wl af:Nat)(st bV:aj):Prop where
 len:st.length<=bV.length
 low:∀id,id<wl->id<st.length->bV[id]?=st[id]?
 af:∀l,l<=af->l<=st.length->F3 l st->F3 l bV
variable {wl af:Nat}{st bV NO:aj}
theorem dQ.refl(wl af:Nat)(st:aj):dQ wl af st st:=⟨Nat.le_refl _,λ_ _ _=>rfl,λ_ _ _ h=>h⟩
theorem dQ.trans(h:dQ wl af st bV)(k:dQ wl af bV NO):dQ wl af st NO:=
 ⟨Nat.le_trans h.len k.len,λid h1 h2=>(k.low id h1 (Nat.lt_of_lt_of_le h2 h.len)).trans (h.low id h1 h2),λl h1 h2 h3=>k.af l h1 (Nat.le_trans h2 h.len) (h.af l h1 h2 h3)⟩
theorem dQ.push(wl af:Nat)(st:aj)(ob:dz):dQ wl af st (st++[ob]) where
 len:=by simp
 low:=λid _ h=>by rw[List.getElem?_append_left h]
 af:=λl _ h1 h2 id Ir h3 h4=>h2 id Ir h3 (by rwa [List.getElem?_append_left (by omega)]at h4)
theorem dQ.set{id:Nat}{ob Ir:dz}(iu:st[id]?=some ob)(hw:wl<=id)(h:∀l,l<=af->id<l->ob.under l=true->Ir.under l=true):dQ wl af st (st.set id Ir) where
 len:=by simp
 low:=λi h1 _=>by rw[List.getElem?_set,if_neg (by omega)]
 af:=λl h1 h2 h3 i Yp h4 h5=>by
  rw[List.getElem?_set]at h5;split at h5;rename_i e;subst e;split at h5;cases h5;exact h l h1 h4 (h3 _ ob h4 iu);cases h5;exact h3 i Yp h4 h5
theorem uo{l cz sz:Nat}{rs:List (List AV)}:(dz.rows cz sz rs).under l=true↔∀r∈rs,∀c∈r,c.under l=true:=by
 simp only[dz.under,List.all_eq_true];exact⟨λh r hr=>(g9 l r).1 (h r hr),λh r hr=>(g9 l r).2 (h r hr)⟩
theorem Oe{α:Type}{as vs:List α}{k:Nat}{x:α}(h:k+vs.length<=as.length)(hx:x∈ag as k vs):x∈as\/x∈vs:=by
 rw[jU _ _ _ h]at hx;rcases List.mem_append.1 hx with hx|hx;rcases List.mem_append.1 hx with hx|hx;exact .inl (List.mem_of_mem_take hx);exact .inr hx;exact .inl (List.mem_of_mem_drop hx)
theorem uq{p:AV}{cells:List AV}(h:cu wl af st p cells=some bV)(hc:∀id cz i k,p=.ptr id cz i k->True:=λ_ _ _ _ _=>trivial):dQ wl af st bV:=by
 unfold cu at h;split at h;split at h;rename_i v sz rows iu;split at h;rename_i lp;simp only[Bool.and_eq_true,decide_eq_true_eq,aQ,Bool.or_eq_true]at lp;obtain⟨_,hw,hl⟩:=lp;split at h;rename_i r hr;split at h;rename_i cL;cases h;refine dQ.set iu hw λl h1 h2 h3=>?_;rw[uo]at h3 ⊢;intro r' xU c Iq;rcases List.mem_or_eq_of_mem_set xU with h4|h4;exact h3 r' h4 c Iq;subst h4;rcases Oe cL Iq with h5|h5;exact h3 r (dn hr) c h5;rcases hl with hl|hl;omega;exact jf l c ((gH cells).1 hl c h5);cases h;cases h;cases h;cases h;cases h
theorem Du{sz bytes:Nat}{s:AV}{new:List (List AV)}{bx gD:bF}{r:fq}(h:vD wl af sz bytes s new st bx=some (r,bV,gD)):dQ wl af st bV:=by
 unfold vD at h;split at h;split at h;split at h;cases h;exact dQ.refl _ _ _;split at h;cases h;exact dQ.push _ _ _ _;cases h;split at h;cases h;exact dQ.push _ _ _ _;cases h;split at h;rename_i iu;split at h;rename_i hc;simp only[Bool.and_eq_true,decide_eq_true_eq,Bool.or_eq_true,List.all_eq_true]at hc;cases h;refine dQ.set iu hc.1.2 λl h1 h2 h3=>?_;rw[uo]at h3 ⊢;intro r hr c TW;rcases List.mem_append.1 hr with h4|h4;exact h3 r h4 c TW;rcases hc.2 with h5|h5;omega;exact jf l c ((gH r).1 (h5 r h4) c TW);cases h;cases h;cases h;cases h
theorem KU{op:eE}{vals:List fq}{bx gD:bF}{r:fq}(h:aW wl af op vals st bx=some (r,bV,gD)):dQ wl af st bV:=by
 cases op
 case load agg n take=>
  unfold aW at h;simp only at h;split at h;split at h;split at h;split at h;rename_i hw _;cases h;exact uq hw;cases h;split at h;cases h;exact dQ.refl _ _ _;cases h;cases h;cases h
 case store n=>
  unfold aW at h;simp only at h;split at h;split at h;split at h;rename_i hw;cases h;exact uq hw;cases h;cases h;cases h
 case CX sz=>
  unfold aW at h;simp only at h;split at h;split at h;rename_i iu;split at h;rename_i hc;simp only[Bool.and_eq_true,decide_eq_true_eq]at hc;cases h;refine dQ.set iu hc.2 λl _ _ h3=>?_;rw[uo]at h3 ⊢;exact λr hr=>h3 r (List.mem_of_mem_take hr);cases h;cases h;cases h
 case jx sz bytes=>
  unfold aW at h;simp only at h;split at h;split at h;cases h;exact Du h;cases h
 case Cw sz bytes zero=>
  unfold aW at h;simp only at h;split at h;split at h;exact Du h;cases h;cases h
 case copy sz=>
  unfold aW at h;simp only at h;split at h;split at h;rename_i iu vk;split at h;rename_i hc;simp only[Bool.and_eq_true,decide_eq_true_eq,Bool.or_eq_true,List.all_eq_true]at hc;cases h;refine dQ.set iu hc.1.2 λl h1 h2 h3=>?_;rw[uo]at h3 ⊢;intro r hr c TW;rcases List.mem_append.1 hr with h4|h4;rcases hc.2 with h5|h5;omega;exact jf l c ((gH r).1 (h5 r h4) c TW);exact h3 r (List.mem_of_mem_drop h4) c TW;cases h;cases h;cases h
 case mapUpdate kk=>
  unfold aW at h;simp only at h;split at h;rename_i id k v;split at h;rename_i es iu;split at h;rename_i hc;simp only[Bool.and_eq_true,aQ,decide_eq_true_eq,Bool.or_eq_true]at hc;split at h;rename_i vE Oa;cases h;refine dQ.set iu hc.2.1 λl h1 h2 h3=>?_;have hk:k.under l=true:=by
   have:=hc.1;unfold FD at this;split at this<;>first|rfl|cases this
  have hv:v.view.under l=true:=by
   rcases hc.2.2 with h5|h5;omega;simp only[AV.ai,Bool.and_true]at h5;exact jf l _ (vR v h5)
  clear iu;simp only[dz.under,List.all_eq_true,Bool.and_eq_true]at h3 ⊢;have key:∀(es vE:List (AV×AV)),(∀x∈es,x.1.under l=true/\x.2.under l=true)->Fg kk k v.view es=some vE->∀x∈vE,x.1.under l=true/\x.2.under l=true:=by
   intro es;induction es with
   |nil=>intro vE _ h x hx;simp[Fg]at h;subst h;simp at hx;subst hx;exact⟨hk,hv⟩|cons c es ih=>
    intro vE jR h;obtain⟨a,u⟩:=c;simp only[Fg]at h;split at h;cases h;intro x hx;rcases List.mem_cons.1 hx with rfl|hx;exact⟨hk,hv⟩;exact jR x (by simp[hx]);split at h;rename_i r' xU;cases h;intro x hx;rcases List.mem_cons.1 hx with rfl|hx;exact jR _ (by simp);exact ih r' (λx hx=>jR x (by simp[hx])) xU x hx;cases h;cases h
  exact key es vE h3 Oa;cases h;cases h;cases h;cases h
 all_goals
  unfold aW at h;simp only at h;repeat' split at h
 all_goals first
  |(cases h;exact dQ.refl _ _ _)
  |(cases h;exact dQ.push _ _ _ _)
  |cases h
structure rz (O:lE):Prop where
 call:∀wl af f args st v bV,O.call wl af f args st=some (v,bV)->dQ wl af st bV
 loop:∀wl af rs c s x s',O.loop wl af rs c s=some (x,s')->dQ wl af s.st s'.st
variable {O:lE}
theorem Of(hO:rz O){op:eE}{vals:List fq}{bx gD:bF}{r:fq}(h:tV O wl af op vals st bx=some (r,bV,gD)):dQ wl af st bV:=by
 have call:∀x,gm O wl af x st bx=some (r,bV,gD)->dQ wl af st bV:=by
  intro x h;unfold gm at h;split at h;split at h;rename_i hc;cases h;exact hO.call _ _ _ _ _ _ _ hc;cases h;cases h
 unfold tV at h;split at h;exact call _ h;exact call _ h;exact KU h
theorem zB(hO:rz O){o:aK}{s s':St}(h:jd O wl af o s=some s'):dQ wl af s.st s'.st:=by
 unfold jd at h;split at h;cases h;cases h;exact dQ.refl _ _ _;split at h;cases h;rename_i ha;have hk:=Of hO ha;split at h;cases h;exact hk;split at h;cases h;exact hk;cases h
theorem yh(hO:rz O):∀{l:List aK}{s s':St},gw O wl af l s=some s'->dQ wl af s.st s'.st
 |[],s,s',h=>by simp only[gw,Option.some.injEq]at h;subst h;exact dQ.refl _ _ _|o::l,s,s',h=>by
  simp only[gw]at h;split at h;rename_i s1 h1;exact(zB hO h1).trans (yh hO h);cases h
theorem yl(hO:rz O):∀{l:List aK}{s s':St}{ga:List St},dS O wl af l s=some (s',ga)->dQ wl af s.st s'.st
 |[],s,s',ga,h=>by simp only[dS,Option.some.injEq,Prod.mk.injEq]at h;obtain⟨rfl,_⟩:=h;exact dQ.refl _ _ _|o::l,s,s',ga,h=>by
  simp only[dS]at h;split at h;rename_i s1 h1;split at h;rename_i h2;cases h;exact(zB hO h1).trans (yl hO h2);cases h;cases h
theorem Dv(hO:rz O){l:List aK}{cn:List (Nat×Nat)}{s s':St}(h:iB O wl af l cn s=some s'):dQ wl af s.st s'.st:=by
 unfold iB at h;split at h;cases h;rename_i hr;split at h;cases h;exact yl hO hr;cases h
theorem Fo{a a':AV}(h:me wl a st=some (a',bV)):dQ wl af st bV:=by
 unfold me at h;split at h;split at h;rename_i iu;split at h;rename_i hc;simp only[Bool.and_eq_true,decide_eq_true_eq]at hc;cases h;exact dQ.set iu hc.2 λl _ _ _=>by simp[dz.under]
 cases h;cases h;split at h;cases h;exact dQ.refl _ _ _;cases h
theorem ym:∀{l l':List AV}{st bV:aj},ku wl l st=some (l',bV)->dQ wl af st bV
 |[],l',st,bV,h=>by simp only[ku,Option.some.injEq,Prod.mk.injEq]at h;obtain⟨_,rfl⟩:=h;exact dQ.refl _ _ _|a::l,l',st,bV,h=>by
  simp only[ku]at h;split at h;rename_i h1;split at h;rename_i h2;cases h;exact(Fo h1).trans (ym h2);cases h;cases h
theorem v7:∀{l l':List (List AV)}{st bV:aj},kO wl l st=some (l',bV)->dQ wl af st bV
 |[],l',st,bV,h=>by simp only[kO,Option.some.injEq,Prod.mk.injEq]at h;obtain⟨_,rfl⟩:=h;exact dQ.refl _ _ _|a::l,l',st,bV,h=>by
  simp only[kO]at h;split at h;rename_i h1;split at h;rename_i h2;cases h;exact(ym h1).trans (v7 h2);cases h;cases h
theorem sQ{a a':AV}(h:jm wl a st=some (a',bV)):dQ wl af st bV:=by
 unfold jm at h;split at h;split at h;rename_i iu;split at h;rename_i hc;simp only[Bool.and_eq_true,decide_eq_true_eq]at hc;split at h;rename_i hl;cases h;exact(dQ.set (af:=af) iu hc.2 λl _ _ _=>by simp[dz.under]).trans (v7 hl);cases h;cases h;cases h;cases h;exact dQ.refl _ _ _;cases h
theorem Fp{a a':AV}(h:o9 wl a st=some (a',bV)):dQ wl af st bV:=by
 unfold o9 at h;split at h;cases h;exact dQ.push _ _ _ _;exact sQ h
theorem jW(hO:rz O){rs:List iE}:∀{c:bw}{s:St}{x:Ex}{s':St},iW O wl af rs c s=some (x,s')->dQ wl af s.st s'.st
 |.skip,s,x,s',h=>by simp only[iW,Option.some.injEq,Prod.mk.injEq]at h;obtain⟨_,rfl⟩:=h;exact dQ.refl _ _ _|.region dJ draw dm,s,x,s',h=>by
  simp only[iW]at h;split at h;rename_i s1 h1;cases h;show dQ wl af s.st s1.st;cases draw with
  |none=>exact yh hO (by simpa only using h1)|some cn=>exact Dv hO (by simpa only using h1)
  cases h
 |.seq a b,s,x,s',h=>by
  simp only[iW]at h;split at h;rename_i s1 h1;exact(jW hO h1).trans (jW hO h);exact jW hO h
 |.cond c ca a cb b,s,x,s',h=>by
  simp only[iW]at h;split at h;have:=jW (c:=a) hO h;exact this;have:=jW (c:=b) hO h;exact this;cases h
 |.block id c,s,x,s',h=>by
  simp only[iW]at h;split at h;rename_i h1;split at h<;>(cases h;exact jW hO h1);exact jW hO h
 |.loop c,s,x,s',h=>by simp only[iW]at h;exact hO.loop _ _ _ _ _ _ _ h|.exit id,s,x,s',h=>by simp only[iW,Option.some.injEq,Prod.mk.injEq]at h;obtain⟨_,rfl⟩:=h;exact dQ.refl _ _ _|.ret,s,x,s',h=>by
  simp only[iW]at h;split at h;cases h;exact dQ.refl _ _ _;cases h
 |.TR t,s,x,s',h=>by
  simp only[iW]at h;split at h;split at h;rename_i hf;cases h;exact sQ hf;cases h;cases h
 |.Ff j k,s,x,s',h=>by
  simp only[iW]at h;split at h;split at h;split at h;rename_i hf;cases h;exact sQ hf;cases h;cases h;cases h
 |.vg t off,s,x,s',h=>by
  obtain⟨_,id,cz,i,k,v,v',kM,kP,_,_,g3,g4,rfl⟩:=C1 h;exact(Fp g3).trans (uq g4)
theorem KW:∀m:Mode,m=.pure\/m=.kh\/m=.zi:=by
 intro m;cases m<;>simp
theorem Ck(hO:rz O){sf:aH}{args:List AV}{v:AV}(h:ff O wl af sf args st=some (v,bV)):dQ wl af st bV:=by
 unfold ff at h;split at h;split at h;rename_i x s hs;split at h;rename_i u hu;have hk:=jW hO hs;simp only[pI]at hk;rcases KW sf.mode with hm|hm|hm;rw[hm]at h;simp only[Mode.lG]at h;split at h;cases h;exact dQ.refl _ _ _;cases h;rw[hm]at h hk;simp only[Mode.lG]at h;simp only[Mode.vh,Mode.oC]at hk;split at h;cases h;refine⟨by rw[List.length_take];have:=hk.len;omega,λid h1 h2=>?_,λl h1 h2 h3 id ob h4 h5=>?_⟩;rw[List.getElem?_take,if_pos h2];exact hk.low id h1 h2;rw[List.getElem?_take]at h5;split at h5;exact hk.af l h2 h2 h3 id ob h4 h5;cases h5;cases h;rw[hm]at h hk;simp only[Mode.lG]at h;cases h;exact hk;cases h;cases h;cases h
theorem Dw(hO:rz O){sf:aH}{args:List AV}{v:AV}(h:fQ O wl af sf args st=some (v,bV)):dQ wl af st bV:=by
 unfold fQ at h;split at h;simp only[Option.map_eq_some_iff]at h;obtain⟨x,_,hx⟩:=h;cases hx;exact dQ.refl _ _ _;exact Ck hO h
theorem F5(S:Nat->Option aH):∀n,rz (qo S n)
 |0=>⟨λ_ _ _ _ _ _ _ h=>by simp[qo]at h,λ_ _ _ _ _ _ _ h=>by simp[qo]at h⟩
 |n+1=>by
  have ih:=F5 S n;refine⟨λwl af f args st v bV h=>?_,λwl af rs c s x s' h=>?_⟩;simp only[qo]at h;split at h;exact Dw ih h;cases h;simp only[qo]at h;split at h;rename_i s1 h1;exact(jW ih h1).trans (ih.loop _ _ _ _ _ _ _ h);exact jW ih h
end Ax
namespace Ax
open Go
variable {P:Program}{w w':World}{G G':bp}{β gZ:List nh}
abbrev lR(a:Act)(t:Nat):Value:=a.tmps.getD t undef
structure FS (w:World)(G:bp)(β:List nh)(a:Act)(η:Nat->fq)(bx:bF)(st:aj)(n:Nat):Prop where
 I6:a.defers=[]
 size:n<=a.tmps.size
 tW:∀t,kQ w G β (η t) (lR a t)
 lt:∀t,n<=t->η t=.none
 inv:jQ w G st
 box:lH w G β bx
def uV(β:List nh)(a:Act)(η:Nat->fq)(bx:bF)(st:aj)(G:bp)(n:Nat)(b:Nat):Nat:=
 gY (λt=>cM b (η t) (lR a t)) n+gW b β bx+cA b G.ls st
structure Mv (w:World)(G:bp)(A:Nat->Nat)(w':World)(G':bp)(A':Nat->Nat):Prop where
 jK:sJ w G w' G'
 gu:∀b,b<w.heap.size->A' b<=A b
 one:∀b,A' b<=1
 vM:∀b,b<w.heap.size->A b=0->eS w G w' G' b
 size:w.heap.size<=w'.heap.size
 os:w'.os=w.os
 out:w'.output=w.output
theorem Mv.refl{A:Nat->Nat}(h:∀b,A b<=1):Mv w G A w G A:=⟨sJ.refl w G,λ_ _=>Nat.le_refl _,h,λ_ _ _=>⟨rfl,rfl⟩,Nat.le_refl _,rfl,rfl⟩
theorem eS.trans{w1 w2 w3:World}{G1 G2 G3:bp}{b:Nat}(h:eS w1 G1 w2 G2 b)(k:eS w2 G2 w3 G3 b):eS w1 G1 w3 G3 b:=⟨k.1.trans h.1,k.2.trans h.2⟩
theorem Mv.trans{A A' A'':Nat->Nat}{w'':World}{G'':bp}(h:Mv w G A w' G' A')(k:Mv w' G' A' w'' G'' A''):Mv w G A w'' G'' A'' where
 jK:=h.jK.trans k.jK
 gu:=λb hb=>Nat.le_trans (k.gu b (Nat.lt_of_lt_of_le hb h.size)) (h.gu b hb)
 one:=k.one
 vM:=λb hb h0=>(h.vM b hb h0).trans (k.vM b (Nat.lt_of_lt_of_le hb h.size) (by have:=h.gu b hb;omega))
 size:=Nat.le_trans h.size k.size
 os:=k.os.trans h.os
 out:=k.out.trans h.out
theorem Mv.Qo{A A' B B':Nat->Nat}(h:Mv w G A w' G' A')(hB:∀b,A b<=B b)(hc:∀b,b<w.heap.size->B' b<=B b)(ho:∀b,B' b<=1):Mv w G B w' G' B':=
 ⟨h.jK,hc,ho,λb hb h0=>h.vM b hb (by have:=hB b;omega),h.size,h.os,h.out⟩
theorem F6{e:fq}{v:Value}{b:Nat}(h:kQ w G β e v)(hb:0<cM b e v):b<w.heap.size:=by
 cases e with
 |none=>simp[cM]at hb|fp j k=>simp[cM]at hb|val a=>exact bC.held h hb
section
variable {a:Act}{η:Nat->fq}{bx:bF}{st:aj}{n:Nat}
theorem FS.held(h:FS w G β a η bx st n){b:Nat}(hb:0<uV β a η bx st G n b):b<w.heap.size:=by
 unfold uV at hb;by_cases h1:0<gW b β bx;exact h.box.held h1;by_cases h2:0<cA b G.ls st;exact h.inv.held h2;have h3:0<gY (λt=>cM b (η t) (lR a t)) n:=by omega
 have key:∀n,0<gY (λt=>cM b (η t) (lR a t)) n->∃t,0<cM b (η t) (lR a t):=by
  intro n;induction n with
  |zero=>intro h;simp[gY]at h|succ n ih=>
   intro h;simp only[gY]at h;by_cases h0:0<cM b (η n) (lR a n);exact⟨n,h0⟩;exact ih (by omega)
 obtain⟨t,ht⟩:=key n h3;exact F6 (h.tW t) ht
end
theorem kQ.bx{e:fq}{v:Value}{nb:Option Nat}(h:kQ w G β e v)(hb:gp nb β gZ)(hn:∀j,nb=some j->e.pH j=true):kQ w G gZ e v:=by
 cases e with
 |none=>trivial|val a=>exact h|fp j k=>
  obtain⟨g,b,h1,h2,h3⟩:=h;obtain⟨g',a1,a2⟩:=hb j g h1;refine⟨g',b,a1,(a2 λe=>?_).trans h2,h3⟩;have:=hn j e;simp[fq.pH]at this
theorem kQ.jK{e:fq}{v:Value}(h:kQ w G β e v)(hs:sJ w G w' G')(hu:∀b,0<cM b e v->eS w G w' G' b):kQ w' G' β e v:=by
 cases e with
 |none=>trivial|val a=>exact bC.jK h hs hu|fp j k=>exact h
def AK(η:Nat->fq):Src->fq
 |.tmp t true=>η t|.tmp t false=>(η t).view|.const a=>.val a
theorem CF(env:p0)(s:Src):Kz env s=AK (dj env) s:=by
 cases s with
 |tmp t mv=>cases mv<;>rfl|const a=>rfl
def ur(η:Nat->fq):Option (Nat×Bool)->Option Bool
 |none=>some true|some (t,b)=>match η t with
  |.val (.bool c)=>some (c==b)|.val .undef=>some false|_=>none
theorem F7(env:p0)(g:Option (Nat×Bool)):o8 env g=ur (dj env) g:=by
 cases g with
 |none=>rfl|some x=>rfl
def kD(η:Nat->fq)(dst:Option Nat)(e:fq):Nat->fq:=λt=>if dst=some t then e else η t
def jL(η:Nat->fq)(l:List Nat):Nat->fq:=λt=>if t∈l then .none else η t
theorem MI{a:Act}{η:Nat->fq}(hr:∀t,kQ w G β (η t) (lR a t)):∀{x:Operand}{s:Src},KC x s=true->kQ w G β (AK η s) (a.eval x)/\∀b,cM b (AK η s) (a.eval x)<=p6 (λt=>cM b (η t) (lR a t)) (qv [s])
 |.tmp t,.tmp u true,h=>by
  simp only[KC,beq_iff_eq]at h;subst h;exact⟨hr t,λb=>by simp only[qv,p6,AK];exact Nat.le_refl _⟩
 |.tmp t,.tmp u false,h=>by
  simp only[KC,beq_iff_eq]at h;subst h;exact⟨(hr t).view,λb=>by simp only[AK,FI];omega⟩
 |.const v,.const c,h=>by
  simp only[KC]at h;obtain⟨h1,h2,_⟩:=yD h w G;exact⟨h1,λb=>by simp only[AK,cM,fz b c _ h2];omega⟩
 |.func f,.const (.fn g [] []),h=>by
  simp only[KC,Bool.and_eq_true,beq_iff_eq,decide_eq_true_eq]at h;obtain⟨rfl,hf⟩:=h;exact⟨bC.fn f [] [] #[] #[] rfl rfl ⟨rfl,rfl,hf⟩ (λi c v h=>by simp at h) (λi c v h=>by simp at h),λb=>by simp[AK,cM,gu]⟩
theorem Qp(s:Src)(r:List Src):qv (s::r)=qv [s]++qv r:=by
 cases s with
 |tmp t mv=>cases mv<;>rfl|const a=>rfl
theorem BF(f:Nat->Nat):∀(l m:List Nat),p6 f (l++m)=p6 f l+p6 f m
 |[],m=>by simp[p6]|t::l,m=>by simp only[List.cons_append,p6,BF f l m];omega
theorem I7{a:Act}{η:Nat->fq}(hr:∀t,kQ w G β (η t) (lR a t)):∀{xs:List Operand}{ss:List Src},iF xs ss=true->lg w G β (ss.map (AK η)) (xs.map a.eval)/\
  ∀b,mD b (ss.map (AK η)) (xs.map a.eval)<=p6 (λt=>cM b (η t) (lR a t)) (qv ss)
 |[],[],_=>⟨trivial,λb=>by simp[mD]⟩
 |x::xs,s::ss,h=>by
  simp only[iF,Bool.and_eq_true]at h;obtain⟨h1,h2⟩:=MI hr h.1;obtain⟨h3,h4⟩:=I7 hr h.2;refine⟨⟨h1,h3⟩,λb=>?_⟩;have e1:=h2 b;have e2:=h4 b;rw[Qp,BF];simp only[List.map_cons,mD];omega
 |[],_::_,h=>by simp[iF]at h|_::_,[],h=>by simp[iF]at h
def KX(dJ:Array Oper)(o:Oper)(so:aK):Bool:=
 match o.guard,so.guard with
 |none,none=>true|some (j,b),some (t,c)=>b==c&&(match dJ[j]? with|some q=>q.dst==some t|none=>false)|_,_=>false
def v8:List Nat->Bool
 |[]=>true|t::l=>!(l.contains t)&&v8 l
theorem xd:∀{l:List Nat},v8 l=true->l.Nodup
 |[],_=>List.nodup_nil|t::l,h=>by
  simp only[v8,Bool.and_eq_true,Bool.not_eq_true',List.contains_eq_mem,decide_eq_false_iff_not]at h;exact List.nodup_cons.2 ⟨h.1,xd h.2⟩
def F8(S:Nat->Option aH)(P:Program)(dJ:Array Oper)(n:Nat)(o:Oper)(so:aK):Bool:=
 mOp S P o so&&KX dJ o so&&(match so.dst with|some d=>decide (d<n)|none=>true)&&v8 (qv so.args)
theorem Og{dJ:Array Oper}{o:Oper}{so:aK}{a:Act}{η:Nat->fq}{n:Nat}(hg:KX dJ o so=true)(hr:∀t,kQ w G β (η t) (lR a t))(aX:∀t,n<=t->η t=.none)(dH:n<=a.tmps.size){b:Bool}
  (hw:ur η so.guard=some b):Region.wanted o (yielded dJ a.tmps)=b:=by
 unfold KX at hg;split at hg;rename_i h1 h2;rw[h2]at hw;simp only[ur]at hw;cases hw;simp[Region.wanted,h1];rename_i j b1 t c h1 h2;simp only[Bool.and_eq_true,beq_iff_eq]at hg;obtain⟨rfl,hg⟩:=hg;split at hg;rename_i q hq;simp only[beq_iff_eq]at hg;rw[h2]at hw;simp only[ur]at hw;have hy:yielded dJ a.tmps j=match a.tmps[t]? with|some (.bool b)=>some b|_=>none:=by
  simp only[yielded,hq,Option.bind_some,hg]
  rfl
 have Fq:=hr t;split at hw;rename_i c hc;cases hw;have ht:t<n:=by
  rcases Nat.lt_or_ge t n with h|h;exact h;rw[aX t h]at hc;cases hc
 rw[hc]at Fq;have hv:=bC.jT Fq;have ht':a.tmps[t]?=some (.bool c):=by
  have hs:t<a.tmps.size:=by omega
  have:a.tmps.getD t undef=a.tmps[t]:=by simp[Array.getD,hs]
  rw[<-hv,lR,this];simp[hs]
 simp only[Region.wanted,h1,hy,ht']
 rfl
 rename_i hc;cases hw;have ht:t<n:=by
  rcases Nat.lt_or_ge t n with h|h;exact h;rw[aX t h]at hc;cases hc
 rw[hc]at Fq;have hv:lR a t=undef:=by
  generalize lR a t=v at Fq;cases Fq;rfl
 have ht':a.tmps[t]?=some undef:=by
  have hs:t<a.tmps.size:=by omega
  have:a.tmps.getD t undef=a.tmps[t]:=by simp[Array.getD,hs]
  rw[<-hv,lR,this];simp[hs]
 simp only[Region.wanted,h1,hy,ht']
 rfl
 cases hw;cases hg;cases hg
end Ax
namespace Ax
open Go
variable {P:Program}{w w':World}{G G':bp}{β gZ:List nh}
def Oh (P : Program) (f : FuncId) : Prop := ∃ fn, P.funcs[f]? = some fn ∧ (fn.name == "runtime.NumGoroutine") = false ∧ fn.body.isNone = false
def jX(S:Nat->Option aH)(P:Program)(O:lE):Prop:=
 ∀wl af f args st v bV,O.call wl af f args st=some (v,bV)->∃sf,S f=some sf/\Oh P sf.eO/\(f<100000->sf.eO=f)/\
  ∀(w:World) (G:bp) (vs:List Value),cG w G args vs->jQ w G st->(∀b,cv b args vs+cA b G.ls st<=1)->
   Calls P sf.eO vs.toArray w λe w'=>∃u G',e=.returned u/\bC w' G' v u/\jQ w' G' bV/\
    Mv w G (λb=>cv b args vs+cA b G.ls st) w' G' (λb=>gu b v u+cA b G'.ls bV)
theorem Dx{f:FuncId}(h:Oh P f)(args:Array Value)(w:World):(callFunc f args).run P w=.ok (.enter f args) w:=by
 obtain⟨fn,h1,h2,h3⟩:=h;have h4 : ¬ fn.name = "runtime.NumGoroutine" := by simpa using h2
 have h5:¬fn.body=none:=by intro h;rw[h]at h3;simp at h3
 simp[callFunc,h1,h4,h5]
theorem F9{ρ:Operand->Value}{o:Oper}{c:Call}{f:FuncId}{vf vc:Array Value}{x:Operand}(ho:o.op=.call c)(hc:c.callee=.value x)(hx:ρ x=.func (.func f) vf vc)(hf:Oh P f)(w:World) :
  (execOp ρ o).run P w=.ok (.enter f (vf++c.args.map ρ++vc)) w:=by
 simp only[execOp,ho,resolve,hc,hx,Deferred.ofValue,Sem.run_bind,Sem.run_pure,Result.andThen_ok,invoke,Dx hf]
theorem Oi{l:List fq}{x:Nat×List AV}(h:mM .qX l=some x):∃f first lK l' vs,l=.val (.fn f first lK)::l'/\jt l'=some vs/\x=(f,first++vs++lK):=by
 unfold mM at h;split at h;rename_i heq;cases heq;rename_i f first lK l' _
 split at h;rename_i vs Cb;cases h;exact⟨f,first,lK,l',vs,rfl,Cb,rfl⟩;cases h;cases h
section
variable {S:Nat->Option aH}{O:lE}{dJ:Array Oper}{n:Nat}{o:Oper}{so:aK}{a:Act}{η:Nat->fq}{bx gD:bF}{st bV:aj}{wl af:Nat}{e:fq}
theorem FS.after(hs:FS w G β a η bx st n)(h1:∀b,uV β a η bx st G n b<=1){cO:Nat->Nat}(hcO:∀b,cO b=p6 (λt=>cM b (η t) (lR a t)) (qv so.args))(YB:(qv so.args).Nodup)(hd:∀d,so.dst=some d->d<n){v:Value}
  (hA:kB w G β st bx cO w' G' gZ bV gD e v)(hB:gp so.op.bg β gZ)(Mu:∀j,so.op.bg=some j->∀t,so.dst≠some t->t ∉ qv so.args->(η t).pH j=true) :
  FS w' G' gZ (a.put so.dst v) (kD (jL η (qv so.args)) so.dst e) gD bV n/\Mv w G (uV β a η bx st G n) w' G' (uV gZ (a.put so.dst v) (kD (jL η (qv so.args)) so.dst e) gD bV G' n):=by
 have Oa:∀t,lR (a.put so.dst v) t=if so.dst=some t then (if t<n then v else lR (a.put so.dst v) t) else lR a t:=by
  intro t;cases AS:so.dst with
  |none=>simp[Act.put]|some d=>
   have hdn:=hd d AS;have hdt:d<a.tmps.size:=Nat.lt_of_lt_of_le hdn hs.size;by_cases ht:d=t;subst ht;simp[Act.put,lR,hdn,hdt];simp[ht,Act.put,lR]
 have Qq:∀t,t<n->so.dst=some t->lR (a.put so.dst v) t=v:=λt h1 h2=>by rw[Oa t,if_pos h2,if_pos h1]
 have I8:∀t,so.dst≠some t->lR (a.put so.dst v) t=lR a t:=λt h=>by rw[Oa t,if_neg h]
 have DA:∀b,cO b+gY (λt=>if t∈qv so.args then 0 else cM b (η t) (lR a t)) n<=gY (λt=>cM b (η t) (lR a t)) n:=λb=>by
  rw[hcO];exact zz (λt ht=>by rw[hs.lt t ht];rfl) _ YB
 have mh:∀b t,so.dst≠some t->t ∉ qv so.args->0<cM b (η t) (lR a t)->cO b+gW b β bx+cA b G.ls st=0:=by
  intro b t h2 h3 h4;have htn:t<n:=by
   rcases Nat.lt_or_ge t n with h|h;exact h;rw[hs.lt t h]at h4;simp[cM]at h4
  have h5:=vZ (f:=λt=>if t∈qv so.args then 0 else cM b (η t) (lR a t)) htn;simp only[if_neg h3]at h5;have h6:=DA b;have h7:=h1 b;unfold uV at h7;omega
 have fR:∀t,so.dst≠some t->t ∉ qv so.args->kQ w' G' gZ (η t) (lR a t):=λt h2 h3=>
  ((hs.tW t).jK hA.jK λb hb=>hA.vM b (mh b t h2 h3 hb) (F6 (hs.tW t) hb)).bx hB λj hj=>Mu j hj t h2 h3
 have hFS:FS w' G' gZ (a.put so.dst v) (kD (jL η (qv so.args)) so.dst e) gD bV n:=by
  refine⟨?_,?_,λt=>?_,λt ht=>?_,hA.inv,hA.box⟩;cases AS:so.dst<;>simp[Act.put,hs.I6];cases AS:so.dst<;>simp[Act.put,hs.size];simp only[kD,jL];by_cases h2:so.dst=some t;rw[if_pos h2,Qq t (hd t h2) h2];exact hA.tW;rw[if_neg h2,I8 t h2];by_cases h3:t∈qv so.args;rw[if_pos h3];trivial;rw[if_neg h3];exact fR t h2 h3;simp only[kD,jL];rw[if_neg (λh=>by have:=hd t h;omega)];rw[hs.lt t ht];simp
 have KK:∀b,uV gZ (a.put so.dst v) (kD (jL η (qv so.args)) so.dst e) gD bV G' n b<=uV β a η bx st G n b+(if w.heap.size<=b then 1 else 0):=by
  intro b;have h2:=hA.gu b;have h3:=DA b;have h4:gY (λt=>cM b (kD (jL η (qv so.args)) so.dst e t) (lR (a.put so.dst v) t)) n<=gY (λt=>if t∈qv so.args then 0 else cM b (η t) (lR a t)) n+cM b e v:=by
   cases AS:so.dst with
   |none=>
    rw[AS]at I8;have:gY (λt=>cM b (kD (jL η (qv so.args)) none e t) (lR (a.put none v) t)) n=gY (λt=>if t∈qv so.args then 0 else cM b (η t) (lR a t)) n:=oH λt _=>by
     rw[I8 t (by simp)];simp only[kD,jL];rw[if_neg (by simp)];split<;>rfl
    rw[this];omega
   |some d=>
    rw[AS]at I8 Qq;have h5:=tD (f:=λt=>cM b (kD (jL η (qv so.args)) (some d) e t) (lR (a.put (some d) v) t)) (g:=λt=>if t∈qv so.args then 0 else cM b (η t) (lR a t)) (d:=d) (hd d AS) λt ht=>by
     rw[I8 t (by simpa using λh=>ht h.symm)];simp only[kD,jL];rw[if_neg (by simpa using λh=>ht h.symm)];split<;>rfl
    have h6:cM b (kD (jL η (qv so.args)) (some d) e d) (lR (a.put (some d) v) d)=cM b e v:=by
     rw[Qq d (hd d AS) rfl];simp[kD]
    rw[h6]at h5;omega
  unfold uV;omega
 refine⟨hFS,hA.jK,λb hb=>?_,λb=>?_,λb hb h0=>hA.vM b ?_ hb,hA.size,hA.os,hA.out⟩;have:=KK b;rw[if_neg (by omega)]at this;exact this;have h2:=KK b;by_cases hb:w.heap.size<=b;rw[if_pos hb]at h2;have h3:uV β a η bx st G n b=0:=by
  rcases Nat.eq_zero_or_pos (uV β a η bx st G n b) with h|h;exact h;have:=hs.held h;omega
 omega;rw[if_neg hb]at h2;have:=h1 b;omega;have h2:=DA b;unfold uV at h0;omega
theorem Qr{v:AV}{u:Value}{args:List AV}{vs:List Value}{cO:Nat->Nat}(hB:lH w G β bx)(hX:∀b,cO b+gW b β bx+cA b G.ls st<=1)(hc:∀b,cv b args vs<=cO b)(hr:bC w' G' v u)(hI':jQ w' G' bV)
  (hM:Mv w G (λb=>cv b args vs+cA b G.ls st) w' G' (λb=>gu b v u+cA b G'.ls bV)):kB w G β st bx cO w' G' β bV bx (.val v) u where
 jK:=hM.jK
 inv:=hI'
 box:=ny hB hM.jK λb hb=>hM.vM b (hB.held hb) (by have h1:=hX b;have h2:=hc b;omega)
 tW:=hr
 gu:=λb=>by
  simp only[cM];by_cases hb:w.heap.size<=b;rw[if_pos hb];have h1:=hM.one b;have h2:gW b β bx=0:=by
   rcases Nat.eq_zero_or_pos (gW b β bx) with h|h;exact h;have:=hB.held h;omega
  omega;rw[if_neg hb];have h1:=hM.gu b (by omega);have h2:=hc b;omega
 vM:=λb h0 hb=>hM.vM b hb (by have:=hc b;omega)
 size:=hM.size
 os:=hM.os
 out:=hM.out
theorem MJ{Q:Exit->Act->World->Prop}{i:Nat}(hi:dJ[i]?=some o)(hm:F8 S P dJ n o so=true)(hO:jX S P O)(hs:FS w G β a η bx st n)(h1:∀b,uV β a η bx st G n b<=1){K:Act->World->Prop}{b:Bool}
  (hw:ur η so.guard=some b)
  (jy:b=false->∀(a':Act),FS w G β a' (kD η so.dst (.val .undef)) bx st n->Mv w G (uV β a η bx st G n) w G (uV β a' (kD η so.dst (.val .undef)) bx st G n)->K a' w)
  (ag8:b=true->∃e bV gD,tV O wl af so.op (so.args.map (AK η)) st bx=some (e,bV,gD)/\(∀j,so.op.bg=some j->∀t,so.dst≠some t->t ∉ qv so.args->(η t).pH j=true)/\
   ∀(w':World) (G':bp) (gZ:List nh) (a':Act),FS w' G' gZ a' (kD (jL η (qv so.args)) so.dst e) gD bV n->Mv w G (uV β a η bx st G n) w' G' (uV gZ a' (kD (jL η (qv so.args)) so.dst e) gD bV G' n)->K a' w') :
  wpOp P dJ Q i K a w:=by
 unfold F8 at hm;simp only[Bool.and_eq_true]at hm;obtain⟨⟨⟨hm,hg⟩,hd0⟩,YB⟩:=hm;have hd:∀d,so.dst=some d->d<n:=λd hd=>by rw[hd]at hd0;simpa using hd0
 have YB:=xd YB;have AS:o.dst=so.dst:=by
  unfold mOp at hm;rw[Bool.and_eq_true]at hm;have:=hm.1;split at this;rename_i h1 h2;simp only[beq_iff_eq]at this;rw[h1,h2,this];rename_i h1 h2;rw[h1,h2];cases this
 have ac0:=Og hg hs.tW hs.lt hs.size hw;unfold wpOp;rw[hi];simp only[ac0];cases b with
 |false=>
  simp only[Bool.false_eq_true,if_false];rw[AS];have hA:kB w G β st bx (λb=>p6 (λt=>cM b (η t) (lR a t)) (qv ([]:List Src))) w G β st bx (.val .undef) undef:=kB.nR hs.inv hs.box .undef λb=>by simp[cM,gu]
  obtain⟨f1,f2⟩:=FS.after (so:=⟨so.dst,.move,[],none⟩) hs h1 (λb=>rfl) List.nodup_nil hd hA (gp.refl _ _) (λj hj=>by simp[eE.bg]at hj);have hk:jL η (qv ([]:List Src))=η:=by funext t;simp[jL,qv]
  simp only[hk]at f1 f2;exact jy rfl _ f1 f2
 |true=>
  obtain⟨e,bV,gD,ha,Mu,hK⟩:=ag8 rfl;simp only[if_true];refine .inl ?_;have hX:∀b,p6 (λt=>cM b (η t) (lR a t)) (qv so.args)+gW b β bx+cA b G.ls st<=1:=λb=>by
   have h2:=zz (f:=λt=>cM b (η t) (lR a t)) (n:=n) (λt ht=>by rw[hs.lt t ht];rfl) _ YB;have h3:=h1 b;unfold uV at h3;omega
  have hA:∀xs,iF xs so.args=true->lg w G β (so.args.map (AK η)) (xs.map a.eval)/\∀b,mD b (so.args.map (AK η)) (xs.map a.eval)<=p6 (λt=>cM b (η t) (lR a t)) (qv so.args):=λxs hxs=>I7 hs.tW hxs;have plain:aW wl af so.op (so.args.map (AK η)) st bx=some (e,bV,gD)->o.wp P a w K Q:=by
   intro ha;obtain⟨nx,v,w',G',gZ,e1,e2,e3,e4⟩:=Yy hm hs.inv hs.box hX hA ha;obtain⟨f1,f2⟩:=FS.after hs h1 (λb=>rfl) YB hd e3 e4 Mu;have hk:=hK w' G' gZ _ f1 f2;unfold Oper.wp;rw[e1];rcases e2 with rfl|⟨rfl,rfl⟩;rw[Oper.upon_value,AS];exact hk;rw[Oper.upon_skip,AS];exact hk
  have call:∀(f i:Nat) (vs:List AV) (us:List Value) (G0:Prop),gm O wl af (some (i,vs)) st bx=some (e,bV,gD)->cG w G vs us->(∀b,cv b vs us<=p6 (λt=>cM b (η t) (lR a t)) (qv so.args))->so.op.bg=none->
    (∀sf,S i=some sf->(i<100000->sf.eO=i)->sf.eO=f)->(Oh P f->(execOp a.eval o).run P w=.ok (.enter f us.toArray) w)->o.wp P a w K Q:=by
   intro f i vs us _ hc fR Mt Qs hsf hex;unfold gm at hc;simp only at hc;split at hc;rename_i v kM ct;cases hc;obtain⟨sf,s1,s2,s3,s4⟩:=hO _ _ _ _ _ _ _ ct;have hf:=hsf sf s1 s3;rw[hf]at s2 s4;have YC:=s4 w G us fR hs.inv λb=>by have h2:=hX b;have h3:=Mt b;omega
   unfold Oper.wp;rw[hex s2,Oper.upon_enter];refine YC.mono λen w' hen=>?_;obtain⟨u,G',rfl,r1,r2,r3⟩:=hen;have hA1:=Qr hs.box hX Mt r1 r2 r3;obtain⟨f1,f2⟩:=FS.after hs h1 (λb=>rfl) YB hd hA1 (gp.refl _ _) Mu;have hk:=hK w' G' β _ f1 f2;simp only;rw[AS];exact hk;cases hc
  unfold tV at ha;split at ha;rename_i i Xd;unfold mOp at hm;rw[Bool.and_eq_true]at hm;replace hm:=hm.2;rw[Xd]at hm;simp only[mM]at ha;cases Cb:jt (so.args.map (AK η)) with
  |none=>rw[Cb]at ha;simp[gm]at ha|some vs=>
   rw[Cb]at ha;split at hm<;>first|(rename_i h1 h2;cases h2;done)|(rename_i h2;cases h2;done)|(rename_i h1 h2;cases h1;done)|skip
   rename_i c i' Qt heq;cases heq;split at hm;rename_i f vW;simp only[Bool.and_eq_true]at hm;obtain⟨hms,hmf⟩:=hm;obtain⟨hR,hC⟩:=hA _ hms;obtain⟨r1,r2⟩:=hR.Oc Cb;refine call f i vs _ True ha r1 (λb=>by rw[<-r2];exact hC b) (by rw[Xd];rfl) (λsf h1 h2=>?_) λhF=>?_;rw[h1]at hmf;simpa using hmf;have:=F9 (ρ:=a.eval) Qt vW (show a.eval (.func f)=.func (.func f) #[] #[] from rfl) hF w;rw[this];congr 2;apply Array.ext';simp;cases hm;cases hm
  ·rename_i Xd;unfold mOp at hm;rw[Bool.and_eq_true]at hm;replace hm:=hm.2;rw[Xd]at hm;split at hm<;>first|(rename_i h1 h2;cases h2;done)|(rename_i h2;cases h2;done)|(rename_i h1 h2;cases h1;done)|skip
   ·rename_i c Qt heq;split at hm
    ·rename_i x vW;obtain⟨hR,hC⟩:=hA _ hm;cases CC:mM .qX (so.args.map (AK η)) with
     |none=>rw[CC]at ha;simp[gm]at ha|some y=>
      rw[CC]at ha;obtain⟨f,first,lK,l,vs,Xc,Cb,rfl⟩:=Oi CC;rw[Xc]at hR hC;simp only[List.map_cons]at hR hC;obtain⟨hR0,Ux⟩:=hR;obtain⟨r1,r2⟩:=lg.Oc Ux Cb;simp only[kQ]at hR0;generalize KE:a.eval x=xv at hR0 hC;cases hR0 with
      |fn _ _ _ vf vc hl hm' hn hh KN=>
      refine call f f (first++vs++lK) (vf.toList++c.args.toList.map a.eval++vc.toList) True ha ((cG.append ⟨by simpa using hl,λi c v e1 e2=>hh i c v e1 (by simpa using e2)⟩ r1).append ⟨by simpa using hm',λi c v e1 e2=>KN i c v e1 (by simpa using e2)⟩) (λb=>?_) (by rw[Xd];rfl) (λsf h1 h2=>h2 hn.2.2) λhF=>?_;rw[gK b _ _ _ _ (by simp only[List.length_append,hl,r1.1];simp),gK b _ _ _ _ (by simpa using hl),eF b _ _ hn.1,eF b _ _ hn.2.1];have h2:=hC b;have h3:=r2 b;simp only[mD]at h2;omega;have:=F9 (ρ:=a.eval) Qt vW KE hF w;rw[this];congr 2;apply Array.ext';simp
    cases hm
   cases hm
  exact plain ha
end
end Ax
namespace Ax
open Go
variable {P:Program}{w w':World}{G G':bp}{β gZ:List nh}
variable {S:Nat->Option aH}{O:lE}{a:Act}{bx:bF}{st:aj}{n wl af:Nat}{s s':St}{η:Nat->fq}
abbrev FT(w:World)(G:bp)(β:List nh)(a:Act)(s:St)(n:Nat):Prop:=FS w G β a (dj s.env) s.bx s.st n
abbrev hJ(β:List nh)(a:Act)(s:St)(G:bp)(n:Nat):Nat->Nat:=uV β a (dj s.env) s.bx s.st G n
theorem FS.congr{Px:Nat->fq}(h:FS w G β a η bx st n)(he:∀t,Px t=η t):FS w G β a Px bx st n:=by
 have:Px=η:=funext he;rw[this];exact h
theorem FS.Qu{Px:Nat->fq}(h:FS w G β a η bx st n)(he:∀t,Px t=η t\/Px t=.none):FS w G β a Px bx st n/\∀b,uV β a Px bx st G n b<=uV β a η bx st G n b:=by
 refine⟨⟨h.I6,h.size,λt=>?_,λt ht=>?_,h.inv,h.box⟩,λb=>?_⟩;rcases he t with e|e;rw[e];exact h.tW t;rw[e];trivial;rcases he t with e|e;rw[e];exact h.lt t ht;exact e;unfold uV;have:=CD (f:=λt=>cM b (Px t) (lR a t)) (g:=λt=>cM b (η t) (lR a t)) (n:=n) λt _=>by
  rcases he t with e|e;rw[e];exact Nat.le_refl _;rw[e];simp[cM]
 omega
theorem ki(env:p0)(dst:Option Nat)(e:fq):dj (zj env dst e)=kD (dj env) dst e:=by
 funext t;cases dst with
 |none=>simp[zj,kD]|some d=>
  simp only[zj,kD,vY,Option.some.injEq];by_cases h:t=d;rw[if_pos h,if_pos h.symm];rw[if_neg h,if_neg λe=>h e.symm]
theorem uu(env:p0)(ss:List Src):dj (ss.foldl oB env)=jL (dj env) (qv ss):=by
 funext t;rw[tC]
 rfl
theorem Oj{dJ:Array Oper}{o:Oper}{so:aK}{Q:Exit->Act->World->Prop}{i:Nat}(hi:dJ[i]?=some o)(hm:F8 S P dJ n o so=true)(hO:jX S P O)(hs:FT w G β a s n)(h1:∀b,hJ β a s G n b<=1){K:Act->World->Prop}
  (he:jd O wl af so s=some s')(hK:∀(w':World)(G':bp)(gZ:List nh)(a':Act),FT w' G' gZ a' s' n->Mv w G (hJ β a s G n) w' G' (hJ gZ a' s' G' n)->K a' w'):wpOp P dJ Q i K a w:=by
 unfold jd at he;rw[F7]at he;split at he;cases he;rename_i hw;cases he;refine MJ (wl:=wl) (af:=af) hi hm hO hs h1 hw (λ_ a' f1 f2=>?_) (λh=>by cases h);refine hK w G β a' ?_ ?_;rw[FT,ki];exact f1;rw[show hJ β a' { s with env:=zj s.env so.dst (.val .undef) } G n=uV β a' (kD (dj s.env) so.dst (.val .undef)) s.bx s.st G n by rw[hJ,ki]];exact f2;rename_i hw;have yc:so.args.map (Kz s.env)=so.args.map (AK (dj s.env)):=List.map_congr_left λx _=>CF s.env x;rw[yc]at he;split at he;cases he;rename_i e bV gD ha;have lG:∀(w':World) (G':bp) (gZ:List nh) (a':Act),s'=⟨zj (so.args.foldl oB s.env) so.dst e,gD,bV⟩->FS w' G' gZ a' (kD (jL (dj s.env) (qv so.args)) so.dst e) gD bV n->
   Mv w G (uV β a (dj s.env) s.bx s.st G n) w' G' (uV gZ a' (kD (jL (dj s.env) (qv so.args)) so.dst e) gD bV G' n)->K a' w':=by
  intro w' G' gZ a' Cg f1 f2;subst Cg;refine hK w' G' gZ a' ?_ ?_;rw[FT,ki,uu];exact f1;rw[show hJ gZ a' ⟨zj (so.args.foldl oB s.env) so.dst e,gD,bV⟩ G' n=uV gZ a' (kD (jL (dj s.env) (qv so.args)) so.dst e) gD bV G' n by rw[hJ,ki,uu]];exact f2
 split at he;rename_i Qs;cases he;exact MJ hi hm hO hs h1 hw (λh=>by cases h) λ_=>⟨e,bV,gD,ha,(λj hj=>by rw[Qs]at hj;cases hj),λw' G' gZ a' f1 f2=>lG w' G' gZ a' rfl f1 f2⟩;rename_i j Qs;split at he;rename_i Mu;cases he;refine MJ hi hm hO hs h1 hw (λh=>by cases h) λ_=>⟨e,bV,gD,ha,λj' hj t I4 Yt=>?_,λw' G' gZ a' f1 f2=>lG w' G' gZ a' rfl f1 f2⟩;rw[Qs]at hj;cases hj;have:=Ds Mu t;rw[ki,uu]at this;simp only[kD,jL]at this;rw[if_neg I4,if_neg Yt]at this;exact this;cases he
def rA(S:Nat->Option aH)(P:Program)(dJ:Array Oper)(n:Nat):List Oper->List aK->Bool
 |[],[]=>true|o::l,so::m=>F8 S P dJ n o so&&rA S P dJ n l m|_,_=>false
theorem DB{dJ:Array Oper}{Q:Exit->Act->World->Prop}(hO:jX S P O):∀(l:List Oper)(m:List aK)(k:Nat)(w:World)(G:bp)(β:List nh)(a:Act)(s:St),dJ.toList.drop k=l->rA S P dJ n l m=true->
  FT w G β a s n->(∀b,hJ β a s G n b<=1)->gw O wl af m s=some s'->(∀(w':World) (G':bp) (gZ:List nh) (a':Act),FT w' G' gZ a' s' n->Mv w G (hJ β a s G n) w' G' (hJ gZ a' s' G' n)->Q .normal a' w')->
  wpOps P dJ Q (List.range' k l.length) a w
 |[],[],k,w,G,β,a,s,hl,hm,hs,h1,he,hQ=>by
  simp only[gw,Option.some.injEq]at he;subst he;simp only[List.length_nil,List.range'_zero,wpOps];exact hQ w G β a hs (Mv.refl h1)
 |o::l,so::m,k,w,G,β,a,s,hl,hm,hs,h1,he,hQ=>by
  simp only[rA,Bool.and_eq_true]at hm;simp only[gw]at he;split at he;rename_i s1 I5;simp only[List.length_cons,List.range'_succ];rw[wpOps_cons];have hi:dJ[k]?=some o:=by
   have:(dJ.toList.drop k)[0]?=some o:=by rw[hl];rfl
   rw[List.getElem?_drop]at this;simpa using this
  refine Oj hi hm.1 hO hs h1 I5 λw1 G1 β1 a1 f1 f2=>?_;refine DB hO l m (k+1) w1 G1 β1 a1 s1 ?_ hm.2 f1 f2.one he λw2 G2 Qv a2 g1 g2=>hQ w2 G2 Qv a2 g1 (f2.trans g2);rw[show k+1=k+1 from rfl,<-List.drop_drop,hl]
  rfl
  cases he
 |[],_::_,_,_,_,_,_,_,_,hm,_,_,_,_=>by simp[rA]at hm|_::_,[],_,_,_,_,_,_,_,hm,_,_,_,_=>by simp[rA]at hm
def yM(P:Program):List ResultVar->List iE->Bool
 |[],[]=>true|.tmp t::l,.tmp u _::m=>t==u&&yM P l m|.cell t ty::l,.box u _ n agg::m=>t==u&&dD P ty n&&nN P ty==some agg&&(agg||n==1)&&yM P l m|.cell t ty::l,.cell u n agg::m=>t==u&&dD P ty n&&nN P ty==some agg&&(agg||n==1)&&yM P l m|_,_=>false
def oJ:List iE->List Nat
 |[]=>[]
 |.tmp t true::l=>t::oJ l|_::l=>oJ l
def DC:List iE->List Nat
 |[]=>[]
 |.box _ j _ _::l=>j::DC l|_::l=>DC l
end Ax
namespace Ax
open Go
variable {P:Program}{w w':World}{G G':bp}{β gZ:List nh}
variable {a:Act}{bx:bF}{st:aj}{n:Nat}{s:St}
def DD(tmps:Array Value):ResultVar->Sem Value
 |.tmp t=>pure (tmps.getD t undef)|.cell c t=>do loadVar t (<-asAddr (tmps.getD c undef))
def Ok(us:List Value):Value:=match us with | [u]=>u|_=>.tuple us.toArray
theorem I9{fn:Func}{tmps:Array Value}{us:List Value}(h:(fn.results.toList.mapM (DD tmps)).run P w=.ok us w):(results fn tmps).run P w=.ok (Ok us) w:=by
 have h2:(fn.results.mapM (DD tmps)).run P w=.ok us.toArray w:=by
  have e:fn.results.mapM (DD tmps)=List.toArray <$> fn.results.toList.mapM (DD tmps):=by
   rw[Array.mapM_eq_mapM_toList]
  rw[e,map_eq_pure_bind,Sem.run_bind,h]
  rfl
 have e3:results fn tmps=(fn.results.mapM (DD tmps)).bind λvs=>Pure.pure (if h:vs.size=1 then vs[0] else .tuple vs):=rfl;rw[e3];show Sem.run P (fn.results.mapM (DD tmps) >>= λvs=>Pure.pure (if h:vs.size=1 then vs[0] else .tuple vs)) w=_;rw[Sem.run_bind,h2];simp only[Result.andThen_ok,Sem.run_pure];congr 1;match us with
 |[]=>simp[Ok]|[u]=>simp[Ok]|_::_::_=>simp[Ok]
def tE(b:Nat)(β:List nh)(bx:bF)(j:Nat):Nat:=match β[j]?,bx[j]? with|some g,some r=>cv b r g.vals|_,_=>0
theorem Ja(b:Nat):∀(β:List nh)(bx:bF),gY (tE b β bx) bx.length<=gW b β bx
 |β,[]=>by simp[gY]|[],r::bx=>by
  have:gY (tE b [] (r::bx)) (r::bx).length=gY (λ_=>0) (r::bx).length:=oH λt _=>by simp[tE]
  rw[this,F2];omega
 |g::β,r::bx=>by
  have ih:=Ja b β bx;have shift:∀m,gY (tE b (g::β) (r::bx)) (m+1)=tE b (g::β) (r::bx) 0+gY (tE b β bx) m:=by
   intro m;induction m with
   |zero=>simp[gY]|succ m ih=>
    have:gY (tE b (g::β) (r::bx)) (m+1+1)=gY (tE b (g::β) (r::bx)) (m+1)+tE b (g::β) (r::bx) (m+1):=rfl;rw[this,ih];have e:tE b (g::β) (r::bx) (m+1)=tE b β bx m:=(by simp[tE]);rw[e];simp only[gY];omega
  simp only[List.length_cons];rw[shift];have e:tE b (g::β) (r::bx) 0=cv b r g.vals:=by simp[tE]
  rw[e];simp only[gW];omega
theorem cG.cons{a:AV}{as:List AV}{x:Value}{xs:List Value}(h:bC w G a x)(k:cG w G as xs):cG w G (a::as) (x::xs):=
 ⟨by simp[k.1],λi c v e1 e2=>by
  cases i with
  |zero=>simp at e1 e2;subst e1;subst e2;exact h|succ i=>exact k.2 i c v (by simpa using e1) (by simpa using e2)⟩
theorem BG{t:TypeId}{n:Nat}{agg:Bool}(hn:dD P t n=true)(sN:nN P t=some agg){b off:Nat}{xs:List Value}(hlen:xs.length=n)(mh:agg=false->n=1)
  (hc:∀(j:Nat) x,xs[j]?=some x->w.cell? ⟨b,off+j,none⟩=some x):(loadVar t ⟨b,off,none⟩).run P w=.ok (if agg then .agg xs.toArray else xs.headD undef) w:=by
 have:=Da (P:=P) hn sN hlen mh hc;simpa [Instr.loadAt,Instr.sureAddr] using this
theorem Ga(hs:FT w G β a s n):∀(l:List ResultVar)(rs:List iE)(vs:List AV),yM P l rs=true->yC s rs=some vs->
  ∃us,(l.mapM (DD a.tmps)).run P w=.ok us w/\cG w G vs us/\∀b,cv b vs us<=p6 (λt=>cM b (dj s.env t) (lR a t)) (oJ rs)+p6 (tE b β s.bx) (DC rs)
 |[],[],vs,_,hr=>by
  simp only[yC,Option.some.injEq]at hr;subst hr;exact⟨[],rfl,⟨rfl,λi c v h=>by simp at h⟩,λb=>by simp[cv]⟩
 |x::l,r::rs,vs,hm,hr=>by
  simp only[yC]at hr;split at hr;rename_i v vs' DE YD;cases hr;have one:∃u,(DD a.tmps x).run P w=.ok u w/\bC w G v u/\yM P l rs=true/\∀b,gu b v u+(p6 (λt=>cM b (dj s.env t) (lR a t)) (oJ rs)+p6 (tE b β s.bx) (DC rs))<=
    p6 (λt=>cM b (dj s.env t) (lR a t)) (oJ (r::rs))+p6 (tE b β s.bx) (DC (r::rs)):=by
   cases x with
   |tmp t=>
    cases r with
    |tmp u mv=>
     simp only[yM,Bool.and_eq_true,beq_iff_eq]at hm;obtain⟨rfl,hm⟩:=hm;simp only[CY]at DE;rw[CF]at DE;split at DE;rename_i v' hv;cases DE;have Fq:=hs.tW t;refine⟨lR a t,by simp[DD],?_,hm,λb=>?_⟩;cases mv with
     |true=>simp only[AK]at hv;rw[hv]at Fq;exact Fq|false=>have:=Fq.view;simp only[AK]at hv;rw[hv]at this;exact this
     cases mv with
     |true=>simp only[AK]at hv;simp only[oJ,DC,p6,hv,cM];omega|false=>
      simp only[AK]at hv;have h0:=FI b (dj s.env t) (lR a t);rw[hv]at h0;simp only[cM]at h0;simp only[oJ,DC];omega
     cases DE
    |box u j m agg=>simp[yM]at hm|cell u m agg=>simp[yM]at hm
   |cell t ty=>
    cases r with
    |tmp u mv=>simp[yM]at hm|box u j m agg=>
     simp only[yM,Bool.and_eq_true,beq_iff_eq]at hm;obtain⟨⟨⟨⟨rfl,hn⟩,sN⟩,mh⟩,hm⟩:=hm;simp only[CY]at DE;split at DE;rename_i i row Mu cZ;split at DE;rename_i Cf;simp only[Bool.and_eq_true,decide_eq_true_eq]at Cf;obtain⟨rfl,hlen⟩:=Cf;have hp:=hs.tW t;rw[Mu]at hp;obtain⟨g,b0,c,e,hg,gT,He,vm,iC,hle,jz,fA⟩:=Hh hs.box hp cZ;obtain⟨u,hu,k1,k2,_⟩:=Cz DE vm.tW;have hl:=BG (P:=P) hn sN (by rw[<-vm.tW.1];exact hlen) (λh=>by subst h;simpa using mh) (b:=b0) (off:=0) (λj x hx=>by rw[Nat.zero_add];exact fA j x hx);refine⟨u,?_,k1,hm,λb=>?_⟩;simp only[DD,Sem.run_bind];rw[show a.tmps.getD t undef=.pointer (some ⟨b0,0,none⟩) from He];simp only[asAddr,Sem.run_pure,Result.andThen_ok,hl,hu];rw[k2 b];simp only[oJ,DC,p6,tE,hg,cZ];omega;cases DE;cases DE
    |cell u m agg=>
     simp only[yM,Bool.and_eq_true,beq_iff_eq]at hm;obtain⟨⟨⟨⟨rfl,hn⟩,sN⟩,mh⟩,hm⟩:=hm;simp only[CY]at DE;split at DE;rename_i p Uk;split at DE;rename_i cs Dk;have hp:=hs.tW t;rw[Uk]at hp;obtain⟨b0,off,xs,g1,g2,g3,g4⟩:=IJ hs.inv Dk hp;obtain⟨u,hu,k1,k2,_⟩:=Cz DE g3.view;have hl:=BG (P:=P) hn sN g2 (λh=>by subst h;simpa using mh) g4;refine⟨u,?_,k1,hm,λb=>?_⟩;simp only[DD,Sem.run_bind];rw[show a.tmps.getD t undef=.pointer (some ⟨b0,off,none⟩) from g1];simp only[asAddr,Sem.run_pure,Result.andThen_ok,hl,hu];rw[k2 b,eF b _ _ (gG cs)];simp only[oJ,DC];omega;cases DE;cases DE
  obtain⟨u,h1,h2,h3,h4⟩:=one;obtain⟨us,k1,k2,k3⟩:=Ga hs l rs vs' h3 YD;refine⟨u::us,?_,cG.cons h2 k2,λb=>?_⟩;rw[List.mapM_cons];simp only[Sem.run_bind,h1,Result.andThen_ok,k1,Sem.run_pure];have e1:=h4 b;have e2:=k3 b;simp only[cv];omega;cases hr
 |[],_::_,_,hm,_=>by simp[yM]at hm|x::_,[],_,hm,_=>by cases x<;>simp[yM]at hm
end Ax
namespace Ax
open Go
section
variable {K V:Type}
def pO(init:K->V)(ze:Nat->K->Option V)(D:Nat->Bool):Nat->K->V
 |0,x=>init x|k+1,x=>if D k then (ze k x).getD (pO init ze D k x) else pO init ze D k x
variable {init:K->V}{ze:Nat->K->Option V}
theorem nA{D D':Nat->Bool}{x:K}:∀{N:Nat},(∀k,k<N->D k≠D' k->ze k x=none)->pO init ze D N x=pO init ze D' N x
 |0,_=>rfl|N+1,h=>by
  have ih:=nA (N:=N) λk hk=>h k (by omega);have hN:=h N (by omega);simp only[pO,ih];cases h1:D N<;>cases h2:D' N
  rfl
  rw[hN (by rw[h1,h2];simp)];simp;rw[hN (by rw[h1,h2];simp)];simp
  rfl
theorem AT{D:Nat->Bool}{x:K}{j:Nat}:∀{N:Nat},j<=N->(∀k,j<=k->k<N->D k=true->ze k x=none)->pO init ze D N x=pO init ze D j x
 |0,hj,_=>by
  have:j=0:=by omega
  subst this;rfl
 |N+1,hj,h=>by
  by_cases hjN:j=N+1;subst hjN;rfl;have ih:=AT (N:=N) (j:=j) (by omega) λk h1 h2=>h k h1 (by omega);simp only[pO];cases hD:D N;simpa using ih;rw[h N (by omega) (by omega) hD];simpa using ih
theorem Jb{D D':Nat->Bool}{x:K}{j N:Nat}(hj:j<N)(hD:D j=false)(hD':∀k,D' k=if k=j then true else D k)(h:∀k,j<k->k<N->D k=true->ze j x≠none->ze k x=none) :
  pO init ze D' N x=(ze j x).getD (pO init ze D N x):=by
 cases he:ze j x with
 |none=>
  simp only[Option.getD_none];refine nA λk hk jn=>?_;have:=hD' k;by_cases hkj:k=j;subst hkj;exact he;rw[if_neg hkj]at this;exact absurd this jn
 |some v=>
  simp only[Option.getD_some];have h1:pO init ze D' N x=pO init ze D' (j+1) x:=AT (by omega) λk h1 h2 h3=>by
   refine h k (by omega) h2 ?_ (by rw[he];simp);have:=hD' k;rw[if_neg (by omega)]at this;rw[<-this];exact h3
  rw[h1];have Yu:D' j=true:=by rw[hD' j,if_pos rfl]
  simp only[pO,Yu,if_true,he,Option.getD_some]
theorem AU{st:Nat->K->V}{N:Nat}(h0:∀x,st 0 x=init x)(hs:∀k,k<N->∀x,st (k+1) x=(ze k x).getD (st k x)):∀{j:Nat},j<=N->∀x,pO init ze (λk=>decide (k<j)) N x=st j x:=by
 have key:∀m,m<=N->∀x,pO init ze (λ_=>true) m x=st m x:=by
  intro m;induction m with
  |zero=>intro _ x;exact(h0 x).symm|succ m ih=>
   intro hm x;simp only[pO,if_true];rw[ih (by omega) x,hs m (by omega) x]
 intro j hj x;rw[AT (j:=j) hj λk h1 h2 h3=>by simp at h3;omega];rw[nA (D':=λ_=>true) λk hk jn=>by simp[hk]at jn];exact key j hj x
end
end Ax
namespace Ax
open Go
def eE.pZ(S:Nat->Option aH):eE->Bool
 |.Ye .. | .alloc _|.box _|.store _|.jx .. | .Cw .. | .makeMap|.mapUpdate _|.CX _|.copy _|.qX=>true|.load _ _ take=>take|.sH _ _ _ mt=>mt|.call f=>match S f with|some sf=>(match sf.mode with|.pure=>false|_=>true)|none=>true
 |_=>false
def eE.KY:eE->Bool
 |.move|.pick|.rV _|.qn .. | .un _|.conv _|.KA _|.nilCheck|.extract _|.field .. | .build .. | .lit .. | .fieldAddr _|.index|.fD .. | .jH .. | .bT .. | .qW .. | .append .. | .makeFunc .. | .GQ .. | .Yf=>true|.sH _ _ _ mt=>!mt|_=>false
def eE.bA:eE->Option Nat
 |.fD j _ _ _|.jH j _|.bT j _|.qW j _=>some j|_=>none
def eE.bW:eE->Option Nat
 |.fD j _ _ take=>if take then some j else none
 |.jH j _|.bT j _|.qW j _=>some j|_=>none
variable {wl af:Nat}{st bV:aj}{bx gD:bF}{vals:List fq}{e:fq}{S:Nat->Option aH}{O:lE}{op:eE}
theorem Qw(hw:op.pZ S=false)(h:aW wl af op vals st bx=some (e,bV,gD)):bV=st:=by
 cases op
 case load agg n take=>
  simp only[eE.pZ]at hw;subst hw;unfold aW at h;simp only[Bool.false_eq_true,if_false]at h;repeat' split at h
  all_goals first|(cases h;rfl)|cases h
 case sH sz bytes zero mt=>
  simp only[eE.pZ]at hw;subst hw;unfold aW at h;simp only[Bool.false_eq_true,if_false]at h;repeat' split at h
  all_goals first|(cases h;rfl)|cases h
 all_goals first
  |(simp[eE.pZ]at hw;done)
  |(unfold aW at h;simp only at h;repeat' split at h)
 all_goals first|(cases h;rfl)|cases h
theorem Qx(hn:op.KY=true)(kP:aj):aW wl af op vals kP bx=(aW wl af op vals st bx).map λx=>(x.1,kP,x.2.2):=by
 cases op
 case sH sz bytes zero mt=>
  simp only[eE.KY,Bool.not_eq_true']at hn;subst hn;unfold aW;simp only[Bool.false_eq_true,if_false];repeat' split
  all_goals rfl
 all_goals first
  |(simp[eE.KY]at hn;done)
  |(unfold aW;(try unfold vD);simp only;repeat' split)
 all_goals first|rfl|simp_all
theorem Jc(hb:op.bA=none)(yN:bF):aW wl af op vals st yN=(aW wl af op vals st bx).map λx=>(x.1,x.2.1,yN):=by
 cases op;all_goals first
  |(simp[eE.bA]at hb;done)
  |(unfold aW;(try unfold vD);simp only;repeat' split)
 all_goals first|rfl|simp_all
structure BH (S:Nat->Option aH)(O:lE):Prop where
 call:∀wl af f args st v bV sf,O.call wl af f args st=some (v,bV)->S f=some sf->sf.mode=.pure->bV=st
theorem Jd(S:Nat->Option aH)(n:Nat):BH S (qo S n):=by
 refine⟨λwl af f args st v bV sf h hS hm=>?_⟩;cases n with
 |zero=>simp[qo]at h|succ n=>
  simp only[qo,hS]at h;unfold fQ at h;split at h;simp only[Option.map_eq_some_iff]at h;obtain⟨x,_,hx⟩:=h;cases hx
  rfl
  unfold ff at h;split at h;split at h;split at h;rw[hm]at h;simp only[Mode.lG]at h;split at h;cases h;rfl;cases h;cases h;cases h;cases h
theorem MK(hO:BH S O)(hw:op.pZ S=false)(h:tV O wl af op vals st bx=some (e,bV,gD)):bV=st:=by
 unfold tV at h;split at h;rename_i f;simp only[eE.pZ]at hw;split at hw;rename_i sf hsf;split at hw;rename_i hm;unfold gm at h;split at h;rename_i f' vs hc;have hf:f'=f:=by
  simp only[mM]at hc;split at hc;cases hc;rfl;cases hc
 subst hf;split at h;rename_i ct;cases h;exact hO.call _ _ _ _ _ _ _ _ ct hsf hm;cases h;cases h;cases hw;cases hw;simp[eE.pZ]at hw;exact Qw hw h
theorem UB(hn:op.KY=true)(kP:aj)(h:tV O wl af op vals st bx=some (e,bV,gD)):tV O wl af op vals kP bx=some (e,kP,gD):=by
 unfold tV at h ⊢;split at h;simp[eE.KY]at hn;simp[eE.KY]at hn;rename_i h1 h2;rw[Qx hn kP,h];rfl
theorem Hr(hb:op.bA=none)(yN:bF)(h:tV O wl af op vals st bx=some (e,bV,gD)):gD=bx/\tV O wl af op vals st yN=some (e,bV,yN):=by
 have call:∀x,gm O wl af x st bx=some (e,bV,gD)->gD=bx/\gm O wl af x st yN=some (e,bV,yN):=by
  intro x h;unfold gm at h ⊢;split at h;rename_i f vs;cases hc:O.call wl af f vs st with
  |none=>rw[hc]at h;cases h|some y=>rw[hc]at h;cases h;exact⟨rfl,rfl⟩
  cases h
 unfold tV at h ⊢;split at h;exact call _ h;exact call _ h;rename_i h1 h2;have e1:=Jc (wl:=wl) (af:=af) (vals:=vals) (st:=st) (bx:=bx) hb bx;rw[h]at e1;simp only[Option.map_some,Option.some.injEq,Prod.mk.injEq,true_and]at e1;refine⟨e1,?_⟩;rw[Jc hb yN,h];rfl
theorem Je{yN:bF}(hl:yN.length=bx.length)(ha:∀b,op.bA=some b->yN[b]?=bx[b]?)(h:tV O wl af op vals st bx=some (e,bV,gD)) :
  ∃UC,tV O wl af op vals st yN=some (e,bV,UC)/\gD.length=bx.length/\UC.length=yN.length/\(∀b,op.bW=some b->UC[b]?=gD[b]?)/\(∀b,op.bW≠some b->UC[b]?=yN[b]?)/\(∀b,op.bW≠some b->gD[b]?=bx[b]?):=by
 cases hb:op.bA with
 |none=>
  obtain⟨rfl,e2⟩:=Hr hb yN h;refine⟨yN,e2,rfl,rfl,λb h=>?_,λ_ _=>rfl,λ_ _=>rfl⟩;cases op<;>simp_all [eE.bA,eE.bW]
 |some j=>
  have hj:=ha j hb;have ML:∀(row:List AV),j<bx.length->(bx.set j row).length=bx.length/\(yN.set j row).length=yN.length/\(yN.set j row)[j]?=(bx.set j row)[j]?/\(∀b,j≠b->(yN.set j row)[b]?=yN[b]?)/\(∀b,j≠b->(bx.set j row)[b]?=bx[b]?):=by
   intro row aX;refine⟨by simp,by simp,?_,λb hb=>?_,λb hb=>?_⟩;rw[List.getElem?_set,List.getElem?_set,if_pos rfl,if_pos rfl,if_pos aX,if_pos (by omega)];rw[List.getElem?_set,if_neg hb];rw[List.getElem?_set,if_neg hb]
  cases op<;>simp only[eE.bA]at hb<;>try cases hb
  case some.fD.refl agg n take=>
   simp only[tV]at h ⊢;unfold aW at h ⊢;simp only at h ⊢;split at h;rename_i j' k;split at h;rename_i Yu;subst Yu;split at h;rename_i row cZ;have aX:=(List.getElem?_eq_some_iff.1 cZ).1;rw[if_pos rfl,hj,cZ];simp only;split at h;rename_i cs Qk;cases take with
   |true=>
    simp only[if_true]at h ⊢;split at h;rename_i v hv;cases h;obtain⟨a1,a2,a3,a4,a5⟩:=ML (ag row k (cs.map AV.di)) aX;exact⟨_,rfl,a1,a2,λb hb=>by simp[eE.bW]at hb;subst hb;exact a3,λb hb=>a4 b (by simpa [eE.bW] using hb),λb hb=>a5 b (by simpa [eE.bW] using hb)⟩;cases h
   |false=>
    simp only[Bool.false_eq_true,if_false]at h ⊢;split at h;rename_i v hv;cases h;exact⟨_,rfl,rfl,rfl,λb hb=>by simp[eE.bW]at hb,λ_ _=>rfl,λ_ _=>rfl⟩;cases h
   cases h;cases h;cases h;cases h
  case some.jH.refl n=>
   simp only[tV]at h ⊢;unfold aW at h ⊢;simp only at h ⊢;split at h;rename_i j' k v;split at h;rename_i hc;have Yu:j=j':=(by simp only[Bool.and_eq_true,decide_eq_true_eq]at hc;exact hc.1.1);split at h;rename_i row cZ;have aX:=(List.getElem?_eq_some_iff.1 cZ).1;rw[if_pos hc,hj,cZ];simp only;split at h;rename_i cL;cases h;rw[if_pos cL];obtain⟨a1,a2,a3,a4,a5⟩:=ML (ag row k v.cells) aX;exact⟨_,rfl,a1,a2,λb hb=>by simp[eE.bW]at hb;subst hb;exact a3,λb hb=>a4 b (by simpa [eE.bW] using hb),λb hb=>a5 b (by simpa [eE.bW] using hb)⟩;cases h;cases h;cases h;cases h
  case some.bT.refl zero=>
   simp only[tV]at h ⊢;unfold aW at h ⊢;simp only at h ⊢;split at h;split at h;rename_i aX;cases h;rw[if_pos (by omega)];obtain⟨a1,a2,a3,a4,a5⟩:=ML zero aX;exact⟨_,rfl,a1,a2,λb hb=>by simp[eE.bW]at hb;subst hb;exact a3,λb hb=>a4 b (by simpa [eE.bW] using hb),λb hb=>a5 b (by simpa [eE.bW] using hb)⟩;cases h;cases h
  case some.qW.refl n=>
   simp only[tV]at h ⊢;unfold aW at h ⊢;simp only at h ⊢;split at h;rename_i v;split at h;rename_i hc;have Iq:=hc;simp only[Bool.and_eq_true,decide_eq_true_eq]at Iq;cases h;rw[if_pos (by simp only[Bool.and_eq_true,decide_eq_true_eq];exact⟨⟨by omega,Iq.1.2⟩,Iq.2⟩)];obtain⟨a1,a2,a3,a4,a5⟩:=ML v.cells Iq.1.1;exact⟨_,rfl,a1,a2,λb hb=>by simp[eE.bW]at hb;subst hb;exact a3,λb hb=>a4 b (by simpa [eE.bW] using hb),λb hb=>a5 b (by simpa [eE.bW] using hb)⟩;cases h;cases h
theorem YE{b:Nat}(h:tV O wl af op vals st bx=some (e,bV,gD))(hv:∀x∈vals,x.pH b=true)(hn:op.bg≠some b):e.pH b=true:=by
 have call:∀x,gm O wl af x st bx=some (e,bV,gD)->e.pH b=true:=by
  intro x h;unfold gm at h;repeat' split at h
  all_goals first|(cases h;rfl)|cases h
 have val:∀a:AV,(fq.val a).pH b=true:=λ_=>rfl;unfold tV at h;split at h;exact call _ h;exact call _ h
 ·cases op
  case move=>
   unfold aW at h;simp only at h;split at h;cases h;exact hv _ (by simp);cases h
  case pick=>
   unfold aW at h;simp only at h;split at h;rename_i c x y;cases h;cases c;exact hv _ (by simp);exact hv _ (by simp);cases h
  case nilCheck=>
   unfold aW at h;simp only at h;split at h;cases h;exact hv _ (by simp);split at h<;>first|(cases h;rfl)|cases h
   cases h
  case fieldAddr off=>
   unfold aW at h;simp only at h;split at h;rename_i j k;cases h;have:=hv (.fp j k) (by simp);simpa [fq.pH] using this;cases h;rfl;cases h;rfl;cases h
  case bT j zero=>
   unfold aW at h;simp only at h;split at h;split at h;cases h;simp only[eE.bg,ne_eq,Option.some.injEq]at hn;simpa [fq.pH] using hn;cases h;cases h
  case qW j n=>
   unfold aW at h;simp only at h;split at h;split at h;cases h;simp only[eE.bg,ne_eq,Option.some.injEq]at hn;simpa [fq.pH] using hn;cases h;cases h
  all_goals
   unfold aW at h
   (try unfold vD at h)
   simp only at h;repeat' split at h
  all_goals first|(cases h;rfl)|cases h
end Ax
namespace Ax
open Go
def oK(o:Oper):List Nat:=(o.after.toList.filter (Region.binds .any)).map (·.on)
def bms:List Oper->List Nat->List Nat
 |[],acc=>acc|o::l,acc=>bms l (acc++[(oK o).foldl (λm p=>m ||| (1 <<< p) ||| acc.getD p 0) 0])
def bef(bm:List Nat)(i j:Nat):Bool:=(bm.getD j 0).testBit i
def rB(so:aK):List Nat:=so.dst.toList++qv so.args
def UD:List Src->List Nat
 |[]=>[]
 |.tmp t _::l=>t::UD l|_::l=>UD l
def yO(so:aK):List Nat:=UD so.args++(match so.guard with|some (t,_)=>[t]|none=>[])
def lu(S:Nat->Option aH)(cn:List (Nat×Nat))(i j:Nat)(a b:aK):Bool:=
 (rB a).all (λt=>!(yO b).contains t && !(rB b).contains t)&&(rB b).all (λt=>!(yO a).contains t) &&
 (match a.op.bW with|some x=>b.op.bA != some x|none=>true)&&(match b.op.bW with|some x=>a.op.bA != some x|none=>true) &&
 (!(a.op.pZ S&&b.op.pZ S)||cn.contains (100000+i,j))&&(a.op.KY || !(b.op.pZ S)||a.op.pZ S||cn.contains (i,j))&&(b.op.KY || !(a.op.pZ S)||b.op.pZ S||cn.contains (j,i))
def DF(n:Nat)(f:Nat->Nat->Bool):Bool:=(List.range n).all λj=>(List.range j).all λi=>f i j
def CG:eE->Bool
 |.store _=>true|_=>false
def Xe(S:Nat->Option aH)(m:List aK)(cn:List (Nat×Nat)):Nat×Nat->Bool
 |(c,q)=>if 100000<=c&&decide (c<200000) then
   let p:=c-100000
   (match m[p]?,m[q]? with|some a,some b=>CG a.op&&CG b.op&&a.guard.isNone&&b.guard.isNone|_,_=>false) &&
   decide (p<q)&&(List.range (q-p-1)).all (λd=>match m[p+1+d]? with|some o=>!(o.op.pZ S)|none=>false) &&
   cn.all (λx=>decide (100000<=x.1) || !(x.2==p||x.2==q)||cn.contains (100000*(x.1+2)+p,q)) &&
   cn.all (λx=>!(decide (100000<=x.1)&&decide (x.1<200000))||(x.1==c&&x.2==q))
  else true
def MM(S:Nat->Option aH)(P:Program)(dJ:Array Oper)(n:Nat)(m:List aK)(cn:List (Nat×Nat)):Bool:=
 let bm:=bms dJ.toList []
 P.follows .mixedOrders&&rA S P dJ n dJ.toList m&&(decide (dJ.size<100000)&&cn.all (Xe S m cn)) &&
 (List.range dJ.size).all (λj=>match dJ[j]? with
  |some o=>(oK o).all (λp=>decide (p<j))&&(List.range dJ.size).all λi=>!bef bm i j||(oK o).any λp=>i==p||bef bm i p
  |none=>true) &&
 DF dJ.size (λi j=>match m[i]?,m[j]? with
  |some a,some b=>(bef bm i j||lu S cn i j a b)&&(match a.op.bg,b.op.bg with|some x,some y=>x != y|_,_=>true)|_,_=>true)
theorem v9{n:Nat}{f:Nat->Nat->Bool}(h:DF n f=true){i j:Nat}(h1:i<j)(h2:j<n):f i j=true:=by
 simp only[DF,List.all_eq_true,List.mem_range]at h;exact h j h2 i h1
end Ax
namespace Ax
open Go
variable {S:Nat->Option aH}{P:Program}{dJ:Array Oper}{n:Nat}{m:List aK}{cn:List (Nat×Nat)}
theorem DG:∀{l:List Oper}{m:List aK},rA S P dJ n l m=true->l.length=m.length/\∀(i:Nat) o so,l[i]?=some o->m[i]?=some so->F8 S P dJ n o so=true
 |[],[],_=>⟨rfl,λi o so h=>by simp at h⟩
 |o::l,so::m,h=>by
  simp only[rA,Bool.and_eq_true]at h;obtain⟨e1,e2⟩:=DG h.2;refine⟨by simp[e1],λi o' so' h1 h2=>?_⟩;cases i with
  |zero=>simp at h1 h2;subst h1;subst h2;exact h.1|succ i=>exact e2 i o' so' (by simpa using h1) (by simpa using h2)
 |[],_::_,h=>by simp[rA]at h|_::_,[],h=>by simp[rA]at h
def Qy(dJ:Array Oper)(D:Nat->Bool):Prop:=∀(j:Nat) o,dJ[j]?=some o->D j=true->∀p∈oK o,D p=true
structure Xf (S:Nat->Option aH)(P:Program)(dJ:Array Oper)(n:Nat)(m:List aK)(cn:List (Nat×Nat)):Prop where
 fol:P.follows .mixedOrders=true
 len:m.length=dJ.size
 get:∀(i:Nat) o so,dJ[i]?=some o->m[i]?=some so->F8 S P dJ n o so=true
 lt:∀(j:Nat) o,dJ[j]?=some o->∀p∈oK o,p<j
 apA:∀(D:Nat->Bool),Qy dJ D->∀(j:Nat) o,dJ[j]?=some o->(∀p∈oK o,D p=true)->∀(k:Nat) a b,k<j->D k=false->m[k]?=some a->m[j]?=some b->lu S cn k j a b=true
 apB:∀(D:Nat->Bool),Qy dJ D->∀(j k:Nat) a b,j<k->D j=false->D k=true->m[j]?=some a->m[k]?=some b->lu S cn j k a b=true
 Gb:m.length<100000
 xt:∀p q,p<100000->(100000+p,q)∈cn->p<q/\(∃a b,m[p]?=some a/\m[q]?=some b/\CG a.op=true/\CG b.op=true/\a.guard=none/\b.guard=none)/\(∀(j:Nat) o,p<j->j<q->m[j]?=some o->o.op.pZ S=false)/\
  (∀k w,(k,w)∈cn->k<100000->w=p\/w=q->(100000*(k+2)+p,q)∈cn)/\∀i j,i<100000->(100000+i,j)∈cn->i=p/\j=q
 Xg:∀(i j:Nat) a b x,i<j->m[i]?=some a->m[j]?=some b->a.op.bg=some x->b.op.bg≠some x
theorem Qz(h:MM S P dJ n m cn=true):Xf S P dJ n m cn:=by
 unfold MM at h;simp only[Bool.and_eq_true,List.all_eq_true,List.mem_range]at h;obtain⟨⟨⟨⟨h1,h2⟩,h5,h6⟩,h3⟩,h4⟩:=h;obtain⟨e1,e2⟩:=DG h2;have hlen:m.length=dJ.size:=by rw[<-e1];simp
 have aX:∀(j:Nat) o,dJ[j]?=some o->∀p∈oK o,p<j:=λj o ho p hp=>by
  have:=h3 j (Array.getElem?_eq_some_iff.1 ho).1;rw[ho]at this;simp only[Bool.and_eq_true,List.all_eq_true,decide_eq_true_eq]at this;exact this.1 p hp
 have Ms:∀(D:Nat->Bool),Qy dJ D->∀(j:Nat) o,dJ[j]?=some o->(∀p∈oK o,D p=true)->∀i,i<dJ.size->bef (bms dJ.toList []) i j=true->D i=true:=by
  intro D hD j;induction j using Nat.strongRecOn with
  |_ j ih=>
   intro o ho hp i hi hb;have:=h3 j (Array.getElem?_eq_some_iff.1 ho).1;rw[ho]at this;simp only[Bool.and_eq_true,List.all_eq_true,List.mem_range,Bool.or_eq_true,Bool.not_eq_true',List.any_eq_true,beq_iff_eq]at this;rcases this.2 i hi with h5|⟨p,UE,h6⟩;rw[hb]at h5;cases h5;rcases h6 with rfl|h6;exact hp i UE;have hpj:=aX j o ho p UE;have QA:p<dJ.size:=(by have:=(Array.getElem?_eq_some_iff.1 ho).1;omega);have Xd:dJ[p]?=some dJ[p]:=(by simp[QA]);exact ih p hpj dJ[p] Xd (λq hq=>hD p dJ[p] Xd (hp p UE) q hq) i hi h6
 refine⟨h1,hlen,λi o so ho hso=>e2 i o so (by simpa using ho) hso,aX,λD hD j o ho hp k a b hk hDk ha hb=>?_,λD hD j k a b tX hDj hDk ha hb=>?_,by rw[hlen];simpa using h5,λp q hp TT=>?_,λi j a b x Cf ha hb hx hy=>?_⟩;have hj:=(Array.getElem?_eq_some_iff.1 ho).1;have:=v9 h4 hk hj;rw[ha,hb]at this;simp only[Bool.and_eq_true,Bool.or_eq_true]at this;rcases this.1 with h5|h5;rw[Ms D hD j o ho hp k (by omega) h5]at hDk;cases hDk;exact h5;have hk:k<dJ.size:=by rw[<-hlen];exact(List.getElem?_eq_some_iff.1 hb).1
 have:=v9 h4 tX hk;rw[ha,hb]at this;simp only[Bool.and_eq_true,Bool.or_eq_true]at this;have Gc:dJ[k]?=some dJ[k]:=by simp[hk]
 rcases this.1 with h5|h5;rw[Ms D hD k dJ[k] Gc (hD k dJ[k] Gc hDk) j (by omega) h5]at hDj;cases hDj;exact h5;have:=h6 _ TT;simp only[Xe]at this;rw[if_pos (by simp;omega)]at this;simp only[Nat.add_sub_cancel_left,Bool.and_eq_true,decide_eq_true_eq,List.all_eq_true,List.mem_range,Bool.or_eq_true,Bool.not_eq_true',Bool.or_eq_false_iff,List.contains_eq_mem,Prod.forall,Bool.and_eq_false_iff,beq_iff_eq,beq_eq_false_iff_ne,decide_eq_false_iff_not]at this;obtain⟨⟨⟨⟨t1,t2⟩,t3⟩,t4⟩,t5⟩:=this;refine⟨t2,?_,λj o vo DH ho=>?_,λk w hk Py hw=>?_,λi j hi Cf=>?_⟩;split at t1;rename_i a b ha hb;simp only[Bool.and_eq_true,Option.isNone_iff_eq_none]at t1;exact⟨a,b,ha,hb,t1.1.1.1,t1.1.1.2,t1.1.2,t1.2⟩;cases t1;have:=t3 (j-p-1) (by omega);rw[show p+1+(j-p-1)=j by omega,ho]at this;simpa using this;rcases t4 k w hk with (h|h)|h;omega;exfalso;rcases hw with e|e
 exact h.1 e;exact h.2 e;exact h;rcases t5 _ _ Cf with h|h;omega;exact⟨by omega,h.2⟩;have hj:j<dJ.size:=by rw[<-hlen];exact(List.getElem?_eq_some_iff.1 hb).1
 have:=v9 h4 Cf hj;rw[ha,hb]at this;simp only[Bool.and_eq_true]at this;have h5:=this.2;rw[hx,hy]at h5;simp at h5
end Ax
namespace Ax
open Go
variable {S:Nat->Option aH}{P:Program}{O:lE}{wl af:Nat}
theorem BI:∀{m:List aK}{s e:St}{ga:List St},dS O wl af m s=some (e,ga)->
  ga.length=m.length+1/\ga[0]?=some s/\ga[m.length]?=some e/\∀(i:Nat) so,m[i]?=some so->∃x y,ga[i]?=some x/\ga[i+1]?=some y/\jd O wl af so x=some y
 |[],s,e,ga,h=>by
  simp only[dS,Option.some.injEq,Prod.mk.injEq]at h;obtain⟨rfl,rfl⟩:=h;exact⟨rfl,rfl,rfl,λi so h=>by simp at h⟩
 |o::m,s,e,ga,h=>by
  simp only[dS]at h;split at h;rename_i s1 I5;split at h;rename_i e' l' hr;cases h;obtain⟨h1,h2,h3,h4⟩:=BI hr;refine⟨by simp[h1],rfl,by simpa using h3,λi so hi=>?_⟩;cases i with
  |zero=>simp at hi;subst hi;exact⟨s,s1,rfl,by simpa using h2,I5⟩|succ i=>
   obtain⟨x,y,a1,a2,a3⟩:=h4 i so (by simpa using hi);exact⟨x,y,by simpa using a1,by simpa using a2,a3⟩
  cases h;cases h
structure YF (S:Nat->Option aH)(O:lE)(wl af:Nat)(so:aK)(s t:St):Prop where
 vM:∀u,u ∉ rB so->dj t.env u=dj s.env u
 ahd:∀b,so.op.bW≠some b->t.bx[b]?=s.bx[b]?
 UF:t.bx.length=s.bx.length
 YG:so.op.pZ S=false->t.st=s.st
 non:o8 s.env so.guard=some false->dj t.env=kD (dj s.env) so.dst (.val .undef)/\t.bx=s.bx/\t.st=s.st
 yes:o8 s.env so.guard=some true->∃e,tV O wl af so.op (so.args.map (Kz s.env)) s.st s.bx=some (e,t.st,t.bx)/\dj t.env=kD (jL (dj s.env) (qv so.args)) so.dst e
 wan:o8 s.env so.guard≠none
theorem ahe{so:aK}{s t:St}(hO:BH S O)(h:jd O wl af so s=some t):YF S O wl af so s t:=by
 unfold jd at h;split at h;cases h;rename_i hw;cases h;refine⟨λu hu=>?_,λ_ _=>rfl,rfl,λ_=>rfl,λ_=>⟨ki _ _ _,rfl,rfl⟩,λh=>(by rw[hw]at h;cases h),(by rw[hw];simp)⟩;simp only[rB,List.mem_append,Option.mem_toList,not_or]at hu;rw[ki];simp only[kD];rw[if_neg hu.1];rename_i hw;split at h;cases h;rename_i e bV gD ha;have lG:t=⟨zj (so.args.foldl oB s.env) so.dst e,gD,bV⟩->YF S O wl af so s t:=by
  intro ht;subst ht;have he:dj (zj (so.args.foldl oB s.env) so.dst e)=kD (jL (dj s.env) (qv so.args)) so.dst e:=by rw[ki,uu]
  have hb:(∀b,so.op.bW≠some b->gD[b]?=s.bx[b]?)/\gD.length=s.bx.length:=by
   obtain⟨yN,h1,h2,h3,h4,h5,h6⟩:=Je (yN:=s.bx) rfl (λ_ _=>rfl) ha;exact⟨h6,h2⟩
  refine⟨λu hu=>?_,hb.1,hb.2,λhW=>MK hO hW ha,λh=>(by rw[hw]at h;cases h),λ_=>⟨e,ha,he⟩,(by rw[hw];simp)⟩;simp only[rB,List.mem_append,Option.mem_toList,not_or]at hu;show dj (zj (so.args.foldl oB s.env) so.dst e) u=_;rw[he];simp only[kD,jL];rw[if_neg hu.1,if_neg hu.2]
 split at h;cases h;exact lG rfl;split at h;cases h;exact lG rfl;cases h
structure Text (S:Nat->Option aH)(O:lE)(wl af:Nat)(m:List aK)(T:Nat->St):Prop where
 one:∀(i:Nat) so,m[i]?=some so->YF S O wl af so (T i) (T (i+1))
def KZ(m:List aK)(T:Nat->St)(k:Nat)(t:Nat):Option fq:=match m[k]? with
 |some so=>if t∈rB so then some (dj (T (k+1)).env t) else none
 |none=>none
def K0(m:List aK)(T:Nat->St)(k:Nat)(b:Nat):Option (Option (List AV)):=match m[k]? with
 |some so=>if so.op.bW=some b then some ((T (k+1)).bx[b]?) else none
 |none=>none
def K1(S:Nat->Option aH)(m:List aK)(T:Nat->St)(k:Nat)(_:Unit):Option aj:=match m[k]? with
 |some so=>if so.op.pZ S=true then some (T (k+1)).st else none
 |none=>none
abbrev vT(m:List aK)(T:Nat->St)(D:Nat->Bool)(t:Nat):fq:=pO (dj (T 0).env) (KZ m T) D m.length t
abbrev vB(m:List aK)(T:Nat->St)(D:Nat->Bool)(b:Nat):Option (List AV):=pO (λb=>(T 0).bx[b]?) (K0 m T) D m.length b
abbrev vS(S:Nat->Option aH)(m:List aK)(T:Nat->St)(D:Nat->Bool):aj:=pO (λ_=>(T 0).st) (K1 S m T) D m.length ()
section
variable {m:List aK}{T:Nat->St}
theorem QB(h:Text S O wl af m T){j:Nat}(hj:j<=m.length)(t:Nat):vT m T (λk=>decide (k<j)) t=dj (T j).env t:=by
 refine AU (st:=λk t=>dj (T k).env t) (λ_=>rfl) (λk hk x=>?_) hj t;have hs:m[k]?=some m[k]:=List.getElem?_eq_getElem hk;simp only[KZ,hs];split
 rfl
 rename_i hx;exact(h.one k _ hs).vM x hx
theorem QC(h:Text S O wl af m T){j:Nat}(hj:j<=m.length)(b:Nat):vB m T (λk=>decide (k<j)) b=(T j).bx[b]?:=by
 refine AU (st:=λk b=>(T k).bx[b]?) (λ_=>rfl) (λk hk x=>?_) hj b;have hs:m[k]?=some m[k]:=List.getElem?_eq_getElem hk;simp only[K0,hs];split
 rfl
 rename_i hx;exact(h.one k _ hs).ahd x hx
theorem QD(h:Text S O wl af m T){j:Nat}(hj:j<=m.length):vS S m T (λk=>decide (k<j))=(T j).st:=by
 refine AU (st:=λk (_:Unit)=>(T k).st) (λ_=>rfl) (λk hk x=>?_) hj ();have hs:m[k]?=some m[k]:=List.getElem?_eq_getElem hk;simp only[K1,hs];split
 rfl
 rename_i hx;exact(h.one k _ hs).YG (by simpa using hx)
theorem MN(D:Nat->Bool):∀(N:Nat),N<=m.length->∃p,p<=N/\pO (λ_=>(T 0).st) (K1 S m T) D N ()=(T p).st/\
  (p=0\/∃q so,p=q+1/\m[q]?=some so/\D q=true/\so.op.pZ S=true)/\∀(j:Nat) so,p<=j->j<N->m[j]?=some so->so.op.pZ S=true->D j=false
 |0,_=>⟨0,Nat.le_refl _,rfl,.inl rfl,λj so h1 h2=>by omega⟩
 |N+1,hN=>by
  obtain⟨p,h1,h2,h3,h4⟩:=MN D N (by omega);have hs:m[N]?=some m[N]:=List.getElem?_eq_getElem (by omega);by_cases hD:D N=true/\(m[N]).op.pZ S=true;refine⟨N+1,Nat.le_refl _,?_,.inr ⟨N,m[N],rfl,hs,hD.1,hD.2⟩,λj so h5 h6=>by omega⟩;simp only[pO,hD.1,K1,hs,if_true,hD.2,Option.getD_some];refine⟨p,by omega,?_,h3,λj so h5 h6 h7 h8=>?_⟩;simp only[pO];cases hDN:D N with
  |false=>simpa using h2|true=>
   have:¬(m[N]).op.pZ S=true:=λh=>hD ⟨hDN,h⟩;simp only[K1,hs,if_true];rw[if_neg this];simpa using h2
  by_cases hj:j=N;subst hj;rw[hs]at h7;cases h7;cases hDN:D j with
  |false=>rfl|true=>exact absurd ⟨hDN,h8⟩ hD
  exact h4 j so h5 (by omega) h7 h8
theorem zD(h:Text S O wl af m T){p:Nat}:∀(d:Nat),p+d<=m.length->(∀(j:Nat) so,p<=j->j<p+d->m[j]?=some so->so.op.pZ S=false)->(T (p+d)).st=(T p).st
 |0,_,_=>rfl|d+1,hd,hn=>by
  have hs:m[p+d]?=some m[p+d]:=List.getElem?_eq_getElem (by omega);have e:=(h.one (p+d) _ hs).YG (hn (p+d) _ (by omega) (by omega) hs);rw[show p+(d+1)=p+d+1 by omega,e];exact zD h d (by omega) λj so h1 h2=>hn j so h1 (by omega)
theorem MO(S:Nat->Option aH)(m:List aK)(p:Nat):∀(d:Nat),p+d<=m.length->(∀(j:Nat) so,p<=j->j<p+d->m[j]?=some so->so.op.pZ S=false)\/
  ∃(w:Nat) (so:aK),p<=w/\w<p+d/\m[w]?=some so/\so.op.pZ S=true/\∀(j:Nat) so,p<=j->j<w->m[j]?=some so->so.op.pZ S=false
 |0,_=>.inl λj so h1 h2=>by omega|d+1,hd=>by
  rcases MO S m p d (by omega) with h|⟨w,so,h1,h2,h3,h4,h5⟩;have hs:m[p+d]?=some m[p+d]:=List.getElem?_eq_getElem (by omega);cases hw:(m[p+d]).op.pZ S with
  |true=>exact .inr ⟨p+d,_,by omega,by omega,hs,hw,λj so a1 a2=>h j so a1 a2⟩|false=>
   refine .inl λj so a1 a2 a3=>?_;by_cases hj:j=p+d;subst hj;rw[hs]at a3;cases a3;exact hw;exact h j so a1 (by omega) a3
  exact .inr ⟨w,so,h1,by omega,h3,h4,h5⟩
end
end Ax
