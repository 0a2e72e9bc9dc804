/- Part of a proof. -/
import Derived.Test.YtachcambnjecnaaGreatA3
import Derived.Orders

namespace Ax
open Go
variable {P:Program}{w w':World}{G G':bp}{β gZ:List m9}{ρ:Operand->Value}{o:Oper}
variable {S:Nat->Option aH}{so:aK}{vals:List fq}{wl af:Nat}{st bV:aj}{bx gC:bF}{cO:Nat->Nat}{r:fq}
theorem kA.le{cO cO':Nat->Nat}{v:Value}(h:kA w G β st bx cO w' G' gZ bV gC r v)(hc:∀b,cO b<=cO' b):kA w G β st bx cO' w' G' gZ bV gC r v:=
 { h with gu:=λb=>by have h1:=h.gu b;have h2:=hc b;omega,vK:=λb hb=>h.vK b (by have:=hc b;omega) }
theorem Yq{t e:TypeId}{parts:Array (Nat×Operand)}(ho:o.op=.buildSlice t 0 parts)(hu:P.underlying t=some (.slice e)){sz:Nat}(dF:dz P e sz=true)(hp:parts = #[]) :
  (execOp ρ o).run P w=.ok (.value (.slice (some ⟨w.heap.size,0,none⟩) 0 0)) (w.alloc (.cells #[] e)):=by
 obtain⟨i,hi,FG,_⟩:=nh dF;subst hp;have h0:(Array.range 0).map (λ_:Nat=>(default:Value)) = #[]:=by apply Array.ext';simp
 simp[execOp,ho,Instr.buildSlice,run_underlying hu,Go.sizeOf,typeInfo,hi,Instr.fill,newRow];rw[h0]
theorem acQ{t:TypeId}{n n' sz:Nat}{parts:Array (Nat×Operand)}{zero:List AV}{qs:List Nat}{mu:Bool}(ho:o.op=.buildSlice t n parts)(N8:n=n')
  (hu:match P.underlying t with
   |some (.slice e)=>(dz P e sz&&decide (n*sz<=16777216)&&sI P e zero&&decide (0<sz)&&(zero.length==sz)&&parts.toList.map (·.1)==qs)=true|_=>False) (hI:jQ w G st) (hB:lH w G β bx)
  (hR:lg w G β vals ((parts.toList.map (·.2)).map ρ)) (hcO:∀b,mD b vals ((parts.toList.map (·.2)).map ρ)<=cO b) (ha:aV wl af (if mu then .X8 sz n' zero qs else .lit sz n' zero qs) vals st bx=some (r,bV,gC)) :
  j8 P ρ o w G β st bx cO none r bV gC:=by
 subst N8;split at hu;rename_i e Hj;simp only[Bool.and_eq_true,decide_eq_true_eq,beq_iff_eq]at hu;obtain⟨⟨⟨⟨⟨dF,KH⟩,hz⟩,Ug⟩,Mu⟩,hq⟩:=hu;have GR:(parts.toList.map (·.2)).map ρ=parts.toList.map λp=>ρ p.2:=by simp
 rw[GR]at hR hcO;cases mu with
 |true=>
  simp only[if_true]at ha;unfold aV at ha;simp only at ha;split at ha;rename_i vs B8;split at ha;rename_i rows tr;split at ha;rename_i hc;simp only[Bool.and_eq_true,decide_eq_true_eq]at hc;cases ha;obtain⟨hv,Cz⟩:=hR.N6 B8;obtain⟨cells,e1,e2,e3,e4,e5,e6⟩:=W0 (w:=w) ho Hj dF KH hz Ug Mu hq tr hc.2 hv;obtain⟨G',hA,_⟩:=vM (sz:=sz) (cap:=n) (rows:=rows) (c:=cells) (e:=e) (xs:=cells.toList) (w':=w.alloc (.cells cells e)) (cO:=cO) hI hB rfl rfl rfl e4 (zv hc.1) e2 hc.2 (by omega) (by omega) (by simp)
   (λb=>by have h1:=e3 b;have h2:=hcO b;rw[Cz]at h2;omega)
  exact⟨_,_,_,G',β,e1,.inl rfl,hA,gp.refl _ _⟩;cases ha;cases ha;cases ha
 |false=>
  simp only[Bool.false_eq_true,if_false]at ha;unfold aV at ha;simp only at ha;split at ha;rename_i vs B8;split at ha;rename_i rows tr;split at ha;rename_i hc;simp only[Bool.and_eq_true]at hc;cases ha;obtain⟨hv,Cz⟩:=hR.N6 B8;by_cases hn:n=0;subst hn;rw[if_pos rfl];have Yr:parts = #[]:=by
   cases Pp:parts.toList with
   |nil=>exact Array.toList_eq_nil_iff.1 Pp|cons p l=>
    rw[Pp]at hq;subst hq;simp only[List.map_cons,List.replicate_zero]at tr;cases W8:AV.cq vs with
    |nil=>rw[W8]at tr;simp[gv]at tr|cons v l'=>rw[W8]at tr;simp[gv]at tr
  exact⟨_,_,_,_,β,Yq ho Hj dF Yr,.inl rfl,GW (w':=w.alloc (.cells #[] e)) rfl rfl rfl none hI hB (.mK _) λb=>by simp[gu],gp.refl _ _⟩;rw[if_neg hn];have TP:0<n:=by omega
  obtain⟨cells,e1,e2,e3,e4,e5,e6⟩:=W0 (w:=w) ho Hj dF KH hz Ug Mu hq tr TP hv.view;have jy:∀r∈rows,AV.eY r=true:=by
   obtain⟨_,_,_,_,_,NP,_⟩:=oD hz w G;have:=zw (sz:=sz) (p:=λc=>c.cC=true) qs (AV.cq vs) _ rows (λr hr c hc=>by
    rw[List.eq_of_mem_replicate hr]at hc;exact(NP c hc).1) (λv hv=>IY (IZ vs v hv)) tr
   exact λr hr=>(de r).2 (this r hr)
  have Yf:=GX (G:=G.new w.heap.size (some (rows.length*sz)) []) (w:=w.alloc (.cells cells e)) (cap:=n) (off:=0) e4 (zv hc.2) jy (IX hc.1) (e2.push (w':=w.alloc (.cells cells e)) rfl _ _) (tq rfl) (by omega) (by omega) (by simp[bp.new]) (λk x hk=>by rw[Nat.zero_add];simpa using hk);exact⟨_,_,_,_,β,e1,.inl rfl,GW (w':=w.alloc (.cells cells e)) rfl rfl rfl (some (rows.length*sz)) hI hB Yf.view λb=>by simp[gu],gp.refl _ _⟩;cases ha;cases ha;cases ha
 exact hu.elim
theorem Qi{α:Type}{l:List α}(h:l.length=2):∃x y,l=[x,y]:=by
 match l,h with
 |[x,y],_=>exact⟨x,y,rfl⟩
theorem Cg{sz:Nat}{vals:List fq}(wl af:Nat):aV wl af (.indexAddr sz) vals st bx=aV 0 0 (.indexAddr sz) vals st bx:=rfl
theorem acR{w:World}{G:bp}{b:Bool}{v:Value}(h:bC w G (.bool b) v):v=.bool b:=h.jT
theorem Ys(hm:mOp S P o so=true)(hI:jQ w G st)(hB:lH w G β bx)(hX:∀b,cO b+gT b β bx+cz b G.ls st<=1)
  (hA:∀xs,iF xs so.args=true->lg w G β vals (xs.map ρ)/\∀b,mD b vals (xs.map ρ)<=cO b)(ha:aV wl af so.op vals st bx=some (r,bV,gC)) :
  j8 P ρ o w G β st bx cO so.op.bg r bV gC:=by
 unfold mOp at hm;rw[Bool.and_eq_true]at hm;replace hm:=hm.2;generalize hso:so.op=sop at hm ha;split at hm;rename_i x ho;obtain⟨hR,hc⟩:=hA _ hm;unfold aV at ha;simp only at ha;split at ha;cases ha;exact j8.nR hI hB (u:=ρ x) (by simp[execOp,ho]) hR.1 λb=>by have:=hc b;simp only[List.map_cons,mD]at this;omega
 cases ha;rename_i x ho;obtain⟨hR,hc⟩:=hA _ hm;unfold aV at ha;simp only at ha;split at ha;cases ha;exact j8.nR hI hB (u:=ρ x) (by simp[execOp,ho]) hR.1 λb=>by have:=hc b;simp only[List.map_cons,mD]at this;omega
 cases ha;rename_i c x y ho;obtain⟨hR,hc⟩:=hA _ hm;unfold aV at ha;simp only at ha;split at ha;rename_i b x' y';cases ha;obtain⟨h1,h2,h3,_⟩:=hR;have hb:=acR h1;refine j8.nR hI hB (u:=if b then ρ x else ρ y) (by simp[execOp,ho,hb,asBool]) ?_ λd=>?_;cases b;exact h3;exact h2;have:=hc d;simp only[List.map_cons,mD]at this;cases b;simp;omega;simp;omega;cases ha;rename_i op t x y yt op' ho;simp only[Bool.and_eq_true,beq_iff_eq]at hm;obtain⟨rfl,hm⟩:=hm;obtain⟨hR,hc⟩:=hA _ hm;unfold aV at ha;simp only at ha;split at ha;split at ha;rename_i v hv;cases ha;obtain⟨u,e1,e2,e3⟩:=acs ho hv hR.1 hR.2.1;exact j8.cC hI hB e1 e2 e3;cases ha;cases ha;rename_i op t x y yt k neg ho;simp only[Bool.and_eq_true,beq_iff_eq]at hm;obtain⟨⟨rfl,hm⟩,ht⟩:=hm;obtain⟨hR,hc⟩:=hA _ hm;unfold aV at ha;simp only at ha;split at ha;split at ha;rename_i b hb;cases ha;obtain⟨u,e1,e2⟩:=acu ho ht hb hR.1 hR.2.1;exact j8.cC hI hB e1 e2 rfl;cases ha;cases ha;rename_i op t x y yt neg ho;simp only[Bool.and_eq_true,beq_iff_eq]at hm;obtain⟨⟨rfl,hm⟩,ht⟩:=hm;obtain⟨hR,hc⟩:=hA _ hm;unfold aV at ha;simp only at ha;split at ha;rename_i id cy;split at ha;rename_i v sz rows iu;split at ha;rename_i lp;cases ha;exact j8.cC hI hB (T6 ho ht hI iu lp hR.1 hR.2.1) (.bool _) rfl;cases ha;cases ha;cases ha;rename_i op t x op' ho;simp only[Bool.and_eq_true,beq_iff_eq]at hm;obtain⟨rfl,hm⟩:=hm;obtain⟨hR,hc⟩:=hA _ hm;unfold aV at ha;simp only at ha;split at ha;split at ha;rename_i v hv;cases ha;obtain⟨u,e1,e2,e3⟩:=agO ho hv hR.1;exact j8.cC hI hB e1 e2 e3;cases ha;cases ha;rename_i s d x k ho;simp only[Bool.and_eq_true]at hm;obtain⟨hm,ht⟩:=hm;obtain⟨hR,hc⟩:=hA _ hm;unfold aV at ha;simp only at ha;split at ha;cases ha;split at ht;rename_i k1 k2 h1 h2;simp only[beq_iff_eq]at ht;subst ht;exact j8.cC hI hB (Yd ho h1 h2 hR.1) (.int _ _) rfl;cases ht;cases ha;rename_i x ho;obtain⟨hR,hc⟩:=hA _ hm;unfold aV at ha;simp only at ha;split at ha;cases ha;obtain⟨g,b,h1,h2,h3⟩:=hR.1;exact j8.nR hI hB (yC ho h3) ⟨g,b,h1,h2,h3⟩ λd=>by simp[cL]
 split at ha;cases ha;have hp:∃a,ρ x=.pointer (some a):=by
  have h:=hR.1;simp only[kP]at h;cases h with|ptr _ _ _ _ _ _ hp=>exact hp
 obtain⟨a,hp⟩:=hp;exact j8.nR hI hB (yC ho hp) hR.1 λd=>by simp[cL,gu]
 cases ha;have hp:∃a,ρ x=.pointer (some a):=by
  have h:=hR.1;simp only[kP]at h;generalize ρ x=v at h;cases h;exact⟨_,rfl⟩
 obtain⟨a,hp⟩:=hp;exact j8.nR hI hB (yC ho hp) hR.1 λd=>by simp[cL,gu]
 cases ha;cases ha;rename_i x i j ho;simp only[Bool.and_eq_true,beq_iff_eq]at hm;obtain⟨rfl,hm⟩:=hm;obtain⟨hR,hc⟩:=hA _ hm;unfold aV at ha;simp only at ha;split at ha;split at ha;rename_i v hv;cases ha;obtain⟨u,e1,e2,e3⟩:=NO ho hv hR.1;exact j8.nR hI hB e1 e2 λb=>by have h1:=hc b;have h2:=e3 b;simp only[List.map_cons,mD,cL]at h1 ⊢;omega
 cases ha;cases ha;rename_i t x f off n agg ho;simp only[Bool.and_eq_true]at hm;obtain⟨hm,ht⟩:=hm;obtain⟨hR,hc⟩:=hA _ hm;split at ht;rename_i fs hu;split at ht;rename_i fd hf;simp only[Bool.and_eq_true,beq_iff_eq]at ht;obtain⟨⟨h1,h2⟩,h3⟩:=ht;unfold aV at ha;simp only at ha;split at ha;split at ha;rename_i cs Qf;split at ha;rename_i v hv;cases ha;obtain⟨u,e1,e2,e3⟩:=T9 ho hu hf h1 h2 h3 Qf hv hR.1;exact j8.nR hI hB e1 e2 λb=>by have h1:=hc b;have h2:=e3 b;simp only[List.map_cons,mD,cL]at h1 ⊢;omega
 cases ha;cases ha;cases ha;cases ht;cases ht;rename_i t parts zero qs ho;simp only[Bool.and_eq_true]at hm;obtain⟨⟨hm,hz⟩,ht⟩:=hm;obtain⟨hR,hc⟩:=hA _ hm;have GR:(parts.toList.map (·.2)).map ρ=parts.toList.map λp=>ρ p.2:=by simp
 rw[GR]at hR hc;split at ht;rename_i fs hu;split at ht;rename_i is FG;unfold aV at ha;simp only at ha;split at ha;rename_i vs B8;split at ha;rename_i cs tr;cases ha;obtain⟨hv,Cz⟩:=hR.N6 B8;obtain⟨u,e1,e2,e3⟩:=Ua ho hu FG hz ht tr hv;exact j8.nR hI hB e1 e2 λb=>by have h1:=hc b;have h2:=e3 b;have h3:=Cz b;simp only[cL];omega
 cases ha;cases ha;cases ht;cases ht;rename_i t n parts sz n' zero qs ho;simp only[Bool.and_eq_true,beq_iff_eq]at hm;obtain⟨⟨hn,hm⟩,ht⟩:=hm;obtain⟨hR,hc⟩:=hA _ hm;refine acQ (mu:=false) ho hn ?_ hI hB hR hc ha;split at ht;rename_i he;rw[he];simpa using ht;cases ht;rename_i t x f off ho;simp only[Bool.and_eq_true]at hm;obtain⟨hm,ht⟩:=hm;obtain⟨hR,hc⟩:=hA _ hm;split at ht;rename_i fs hu;split at ht;rename_i fd hf;simp only[Bool.and_eq_true,beq_iff_eq]at ht;obtain⟨h1,h2⟩:=ht;subst h1;split at h2;rename_i i hi;have hs:i.size≠0:=by simpa using h2
 unfold aV at ha;simp only at ha;split at ha;rename_i j k;cases ha;obtain⟨g,b,g1,g2,g3⟩:=hR.1;refine j8.nR hI hB (vI ho hu hf hi hs g3) ⟨g,b,g1,g2,?_⟩ λd=>by simp[cL]
 rw[mN];rename_i id cy i' k;cases ha;obtain⟨a,e1,e2⟩:=yb hR.1 (.inl ⟨id,cy,i',k,rfl,rfl⟩);exact j8.cC hI hB (vI ho hu hf hi hs e1) e2 rfl;rename_i sz rows i' k;cases ha;obtain⟨a,e1,e2⟩:=yb hR.1 (.inr ⟨sz,rows,i',k,rfl,rfl⟩);exact j8.cC hI hB (vI ho hu hf hi hs e1) e2 rfl;cases ha;cases h2;cases ht;cases ht;rename_i t x y sz ho;simp only[Bool.and_eq_true]at hm;obtain⟨hm,ht⟩:=hm;obtain⟨hR,hc⟩:=hA _ hm;split at ht;rename_i e hu;rw[Cg]at ha;have yJ:=ha;unfold aV at ha;simp only at ha;split at ha;obtain⟨rfl,rfl,p,u,rfl,e1,e2,e3⟩:=IC ho hu ht hI yJ hR.1 (bC.jP hR.2.1);exact j8.cC hI hB e1 e2 e3;cases ha;cases ht;rename_i t x y ho;simp only[Bool.and_eq_true]at hm;obtain⟨hm,ht⟩:=hm;obtain⟨hR,hc⟩:=hA _ hm;split at ht;rename_i hu;unfold aV at ha;simp only at ha;split at ha;split at ha;rename_i h0;split at ha;rename_i b hb;cases ha;exact j8.cC hI hB (Ud ho hu h0 hb hR.1 (bC.jP hR.2.1)) (.int _ _) rfl;cases ha;cases ha;cases ha;cases ht;rename_i t x lo hi mx wT l h m sz ho;simp only[Bool.and_eq_true,beq_iff_eq]at hm;obtain⟨⟨⟨⟨⟨hm,rfl⟩,rfl⟩,rfl⟩,Yp⟩,ht⟩:=hm;obtain⟨hR,hc⟩:=hA _ hm;refine Us ho (λh=>by rw[h]at Yp;simpa using Yp) ?_ hI hB hR hc ha;split at ht;rename_i he;rw[he];exact ht;rename_i he;rw[he];exact ht;cases ht;rename_i t x agg n take ho;simp only[Bool.and_eq_true]at hm;obtain⟨⟨⟨hm,hn⟩,sL⟩,mh⟩:=hm;obtain⟨hR,hc⟩:=hA _ hm;have My:nN P t=some agg:=by simpa using sL
 have Mz:agg=false->n=1:=λh=>by subst h;simpa using mh
 have yJ:=ha;unfold aV at ha;simp only at ha;split at ha;rename_i p;cases take with
 |true=>
  obtain⟨v,e1,e2⟩:=KN ho hn My Mz hI hB hX hR.1 yJ;exact⟨_,_,_,_,_,e1,.inl rfl,e2,gp.refl _ _⟩
 |false=>
  split at ha;rename_i cs Dg;simp only[Bool.false_eq_true,if_false]at ha;split at ha;rename_i v hv;cases ha;obtain⟨b,off,xs,h1,h2,h3,h4⟩:=ID hI Dg hR.1;obtain⟨u,e1,e2,e3⟩:=GU ho hn My Mz h1 h2 h3.view h4 hv;exact j8.nR hI hB e1 e2 λd=>by
   simp only[cL,e3 d];rw[eE d _ _ (gD cs)];omega
  cases ha;cases ha
 cases ha;rename_i t x j agg n take ho;simp only[Bool.and_eq_true]at hm;obtain⟨⟨⟨hm,hn⟩,sL⟩,mh⟩:=hm;obtain⟨hR,hc⟩:=hA _ hm;have My:nN P t=some agg:=by simpa using sL
 have Mz:agg=false->n=1:=λh=>by subst h;simpa using mh
 have yJ:=ha;unfold aV at ha;simp only at ha;split at ha;obtain⟨v,e1,e2⟩:=Un ho hn My Mz hI hB hX hR.1 yJ;exact⟨_,_,_,_,_,e1,.inl rfl,e2,gp.refl _ _⟩;cases ha;rename_i t x y n ho;simp only[Bool.and_eq_true]at hm;obtain⟨hm,hn⟩:=hm;obtain⟨hR,hc⟩:=hA _ hm;have yJ:=ha;unfold aV at ha;simp only at ha;split at ha;obtain⟨w',G',e1,e2⟩:=Ul ho hn hI hB hX hR.1 hR.2.1 (λb=>by have:=hc b;simp only[List.map_cons,mD,cL]at this;omega) yJ;exact⟨_,_,_,_,_,e1,.inr ⟨rfl,rfl⟩,e2,gp.refl _ _⟩;cases ha;rename_i t x y j n ho;simp only[Bool.and_eq_true]at hm;obtain⟨hm,hn⟩:=hm;obtain⟨hR,hc⟩:=hA _ hm;have yJ:=ha;unfold aV at ha;simp only at ha;split at ha;obtain⟨w',G',gZ,e1,e2,e3⟩:=Qe ho hn hI hB hX hR.1 hR.2.1 (λb=>by have:=hc b;simp only[List.map_cons,mD]at this;simp only[cL]at this ⊢;omega) yJ;exact⟨_,_,_,_,_,e1,.inr ⟨rfl,rfl⟩,e2,e3⟩;cases ha;rename_i t zero ho;simp only[Bool.and_eq_true]at hm;obtain⟨_,hz⟩:=hm;obtain⟨i,z,hi,Ub,o8,NP,Yh⟩:=oD hz w G;unfold aV at ha;simp only at ha;split at ha;cases ha;obtain⟨G',MA⟩:=NT (t:=t) (cO:=cO) hI hB o8 NP Yh;exact⟨_,_,_,_,_,Mt ho hi Ub,.inl rfl,MA,gp.refl _ _⟩;cases ha;rename_i t j zero ho;simp only[Bool.and_eq_true]at hm;obtain⟨_,hz⟩:=hm;obtain⟨i,z,hi,Ub,o8,NP,Yh⟩:=oD hz w G;unfold aV at ha;simp only at ha;split at ha;split at ha;rename_i hj;cases ha;have hb:j<β.length:=by rw[hB.len];exact hj
 refine⟨_,_,_,_,_,Mt ho hi Ub,.inl rfl,Ms (c:=z.cells) (e:=t) (w':=w.alloc (.cells z.cells t)) hI hB rfl rfl rfl hj o8 Yh (λb=>by rw[FI NP];omega),?_⟩;exact gp.set (List.getElem?_eq_getElem hb) λh=>absurd rfl h;cases ha;cases ha;rename_i t x n ho;obtain⟨hR,hc⟩:=hA _ hm;unfold aV at ha;simp only at ha;split at ha;split at ha;rename_i lp;simp only[Bool.and_eq_true,decide_eq_true_eq]at lp;cases ha;obtain⟨G',MA⟩:=PY (t:=t) (cO:=cO) hI hB hR.1 lp.1 lp.2 (λb=>by have:=hc b;simp only[List.map_cons,mD,cL]at this;omega);exact⟨_,_,_,_,_,WZ ho,.inl rfl,MA,gp.refl _ _⟩;cases ha;cases ha;rename_i t x j n ho;obtain⟨hR,hc⟩:=hA _ hm;unfold aV at ha;simp only at ha;split at ha;split at ha;rename_i lp;simp only[Bool.and_eq_true,decide_eq_true_eq]at lp;cases ha;have hb:j<β.length:=by rw[hB.len];exact lp.1.1
 obtain⟨Cz,Mn⟩:=bC.cells hR.1;refine⟨_,_,_,_,_,WZ ho,.inl rfl,Ms (c:=(ρ x).cells) (e:=t) (w':=w.alloc (.cells (ρ x).cells t)) hI hB rfl rfl rfl lp.1.1 Cz lp.2 (λb=>by have:=hc b;simp only[List.map_cons,mD,cL]at this;rw[Mn];omega),?_⟩;exact gp.set (List.getElem?_eq_getElem hb) λh=>absurd rfl h;cases ha;cases ha;rename_i t x y sz bytes zero mt ho;simp only[Bool.and_eq_true]at hm;obtain⟨hm,ht⟩:=hm;obtain⟨hR,hc⟩:=hA _ hm;split at ht;rename_i e hu;simp only[Bool.and_eq_true,decide_eq_true_eq]at ht;obtain⟨⟨⟨⟨h1,h2⟩,h3⟩,h4⟩,h5⟩:=ht;unfold aV at ha;simp only at ha;split at ha;rename_i n c;split at ha;rename_i lp;obtain⟨c1,c2,c3,c4⟩:=lp;have hcm:c<=9223372036854775807:=by
  have:c*1<=c*bytes:=Int.mul_le_mul_of_nonneg_left (by omega) (by omega);simp only[cR]at c3;omega
 obtain⟨cells,e1,e2,e3,e4⟩:=PZ (w:=w) (G:=G) ho hu h1 h2 h3 h4 c4 (bC.jP hR.1) (bC.jP hR.2.1) c1 c2 c3 hcm;obtain⟨_,_,_,_,_,NP,Yh⟩:=oD h3 w G;have hle:n.toNat*sz<=c.toNat*sz:=Nat.mul_le_mul_right _ (by omega);have cJ:bN sz (List.replicate n.toNat zero)=true:=dg.2 λr hr=>by rw[List.eq_of_mem_replicate hr,c4]
 have kB:∀r∈List.replicate n.toNat zero,AV.bq r=true:=λr hr=>by rw[List.eq_of_mem_replicate hr];exact Yh
 have hx:∀(k:Nat) x,(cells.toList.take (n.toNat*sz))[k]?=some x->cells[k]?=some x:=λk x hk=>by
  rw[List.getElem?_take]at hk;split at hk;simpa using hk;cases hk
 split at ha;cases ha;by_cases yH:c.toNat=0;have TP:n.toNat=0:=by omega
 rw[TP,yH]at e1;rw[TP];have hA0:kA w G β st bx cO (w.alloc (.cells cells e)) (G.new w.heap.size (some 0) [⟨some ⟨w.heap.size,0,none⟩,0,0,sz,0,false,[]⟩]) β (st++[.rows 0 sz []]) bx (.val (.mu st.length 0)) (.slice (some ⟨w.heap.size,0,none⟩) 0 0):=by
  have hl:(G.new w.heap.size (some 0) [⟨some ⟨w.heap.size,0,none⟩,0,0,sz,0,false,[]⟩]).ls[st.length]?=some ⟨some ⟨w.heap.size,0,none⟩,0,0,sz,0,false,[]⟩:=by
   simp only[bp.new];rw[List.getElem?_append_right (by rw[hI.len];exact Nat.le_refl _),hI.len];simp
  exact sA (w':=w.alloc (.cells cells e)) (ao:=.rows 0 sz []) (ob:=.cells cells e) rfl rfl rfl hI hB ⟨rfl,rfl,by simp[bN],by simp,rfl,rfl,rfl,λi r xs h=>by simp at h,.inl ⟨rfl,rfl,rfl⟩⟩ (.mu _ _ _ _ ⟨_,_,_,rfl⟩ hl (Nat.le_refl _) λ_=>rfl) rfl λb=>by simp[je,mC.jF,iP]
 exact⟨_,_,_,_,_,e1,.inl rfl,hA0,gp.refl _ _⟩;obtain⟨G',MA,_⟩:=vM (sz:=sz) (cap:=c.toNat) (rows:=List.replicate n.toNat zero) (c:=cells) (e:=e) (xs:=cells.toList.take (n.toNat*sz)) (w':=w.alloc (.cells cells e)) (cO:=cO) hI hB rfl rfl rfl cJ kB e3 (by omega) (by omega) (by simp;omega) hx (λb=>by rw[e4];omega);rw[List.length_replicate]at MA;exact⟨_,_,_,_,_,e1,.inl rfl,MA,gp.refl _ _⟩;split at ha;rename_i hpz;cases ha;obtain⟨G',MA⟩:=GY (sz:=sz) (cap:=c.toNat) (rows:=List.replicate n.toNat zero) (c:=cells) (e:=e) (xs:=cells.toList.take (n.toNat*sz)) (w':=w.alloc (.cells cells e)) (cO:=cO) hI hB rfl rfl rfl cJ kB
  (λr hr=>by rw[List.eq_of_mem_replicate hr];exact(de zero).2 λc hc=>(NP c hc).1) (λr hr=>by rw[List.eq_of_mem_replicate hr];exact hpz) e3 (by omega) (by simp;omega) hx
 rw[List.length_replicate]at MA;exact⟨_,_,_,_,_,e1,.inl rfl,MA,gp.refl _ _⟩;cases ha;cases ha;cases ha;cases ht;rename_i t ho;unfold aV at ha;simp only at ha;split at ha;cases ha;obtain⟨G',MA⟩:=Uh (cO:=cO) hI hB;exact⟨_,_,_,_,_,by simp only[execOp,ho,Option.map_none,Sem.run_bind,show (Instr.makeMap t none).run P w=.ok (.map (some w.heap.size)) (w.alloc (.map #[] 0)) from rfl,Result.andThen_ok,Sem.run_pure],.inl rfl,MA,gp.refl _ _⟩;cases ha;rename_i t m k x kk ho;simp only[Bool.and_eq_true]at hm;obtain⟨hm,ht⟩:=hm;obtain⟨hR,hc⟩:=hA _ hm;split at ht;rename_i kt et hu;have yJ:=ha;unfold aV at ha;simp only at ha;split at ha;obtain⟨w',G',e1,e2⟩:=Bz (.inl ho) hu ht hI hB hX hR.1 hR.2.1 hR.2.2.1 yJ;exact⟨_,_,_,_,_,e1,.inr ⟨rfl,rfl⟩,e2,gp.refl _ _⟩;cases ha;cases ht;rename_i t m k x kk ho;simp only[Bool.and_eq_true]at hm;obtain⟨hm,ht⟩:=hm;obtain⟨hR,hc⟩:=hA _ hm;split at ht;rename_i kt et hu;have yJ:=ha;unfold aV at ha;simp only at ha;split at ha;obtain⟨w',G',e1,e2⟩:=Bz (.inr ho) hu ht hI hB hX hR.1 hR.2.1 hR.2.2.1 yJ;exact⟨_,_,_,_,_,e1,.inr ⟨rfl,rfl⟩,e2,gp.refl _ _⟩;cases ha;cases ht;rename_i t m k ok kk zero ok' ho;simp only[Bool.and_eq_true,beq_iff_eq]at hm;obtain⟨⟨rfl,hm⟩,ht⟩:=hm;obtain⟨hR,hc⟩:=hA _ hm;split at ht;rename_i kt et hu;simp only[Bool.and_eq_true]at ht;obtain⟨ht,hz⟩:=ht;split at hz;rename_i ie hie;split at hz;rename_i z hzz;unfold aV at ha;simp only at ha;split at ha;rename_i am ak;split at ha;cases ha;rename_i es jR;split at ha;split at ha;cases ha;rename_i bz hf;cases ha;have ag0:(am=.gn/\es=[])\/∃id,am=.map id/\st[id]?=some (.map es):=by
  split at jR;cases jR;exact .inl ⟨rfl,rfl⟩;rename_i id;split at jR;rename_i iu;cases jR;exact .inr ⟨id,rfl,iu⟩;cases jR;cases jR
 obtain⟨u,e1,e2,e3⟩:=PW ho hu ht hie hzz hz hI ag0 hf hR.1 hR.2.1;refine j8.cC hI hB e1 e2 ?_;cases ok;exact e3;simp[AV.cC,AV.eY,e3];cases ha;cases ha;cases hz;cases hz;cases ht;rename_i f first lK f' n ho
 simp only[Bool.and_eq_true,beq_iff_eq,decide_eq_true_eq]at hm;obtain⟨⟨⟨rfl,hm⟩,rfl⟩,hf⟩:=hm;obtain⟨hR,hc⟩:=hA _ hm;unfold aV at ha;simp only at ha;split at ha;rename_i vs B8;cases ha;obtain⟨hv,Cz⟩:=hR.N6 B8;obtain⟨e1,e2⟩:=KE (P:=P) hf ho hv;exact j8.cC hI hB e1 e2 rfl;cases ha;rename_i c k ho;simp only[Bool.and_eq_true,beq_iff_eq]at hm;obtain⟨⟨hm,dF⟩,ht⟩:=hm;obtain⟨hR,hc⟩:=hA _ hm;obtain⟨x,hx⟩:∃x,c.args.toList=[x]:=List.length_eq_one_iff.1 (by simpa using dF);rw[hx]at hR hc;split at ht;rename_i t vU hty;unfold aV at ha;simp only at ha;split at ha;split at ha;rename_i n hn;cases ha;refine j8.cC hI hB (acv ho vU hx hty (k:=k) ?_ hI hn hR.1) (.int _ _) rfl;split at ht
 assumption
 exact⟨_,by assumption⟩;exact⟨_,_,by assumption⟩;cases ht;cases ha;cases ha;cases ht;rename_i c sz bytes ho;simp only[Bool.and_eq_true,beq_iff_eq]at hm;obtain⟨⟨⟨hm,dF⟩,Yt⟩,ht⟩:=hm;obtain⟨hR,hc⟩:=hA _ hm;obtain⟨x,y,hx⟩:∃x y,c.args.toList=[x,y]:=Qi (by simpa using dF);rw[hx]at hR hc;split at ht;rename_i t u vU Uu I0;simp only[Bool.and_eq_true]at ht;obtain⟨I1,Uv⟩:=ht;split at I1;rename_i e hu;simp only[Bool.and_eq_true,decide_eq_true_eq]at I1;obtain⟨⟨⟨⟨h1,h2⟩,h3⟩,h4⟩,h5⟩:=I1;split at h5;rename_i i hi;split at h5;rename_i z hz;simp only[beq_iff_eq]at h5;have hT:KI P t u e sz bytes i z:=by
  refine⟨hu,hi,hz,?_,?_,h5,h3,h4,?_⟩;obtain⟨i',rV,FG,_⟩:=nh h1;rw[hi]at rV;cases rV;exact FG;simpa [wY,hi] using h2;split at Uv;exact .inl ⟨_,by assumption⟩;exact .inr (by assumption);cases Uv
 have yJ:=ha;unfold aV at ha;simp only at ha;split at ha;obtain⟨v,w',G',e1,e2⟩:=P4 (ty:=o.type) hT hI hB hX hR.1 hR.2.1 (λb=>by have:=hc b;simp only[List.map_cons,mD,cL]at this;omega) yJ;refine⟨_,_,_,_,_,?_,.inl rfl,e2,gp.refl _ _⟩;simp only[execOp,ho,resolve,vU,Sem.run_bind,Sem.run_pure,Result.andThen_ok,invoke,builtin,C6 hx,FR Yt Uu I0];simp[e1];cases ha;cases h5;cases h5;cases I1;cases ht;rename_i c sz bytes ho;simp only[Bool.and_eq_true,beq_iff_eq]at hm;obtain⟨⟨⟨hm,dF⟩,Yt⟩,ht⟩:=hm;obtain⟨hR,hc⟩:=hA _ hm;obtain⟨x,y,hx⟩:∃x y,c.args.toList=[x,y]:=Qi (by simpa using dF);rw[hx]at hR hc;split at ht;rename_i t u vU Uu I0;simp only[Bool.and_eq_true]at ht;obtain⟨I1,Uv⟩:=ht;split at I1;rename_i e hu;simp only[Bool.and_eq_true,decide_eq_true_eq]at I1;obtain⟨⟨⟨⟨h1,h2⟩,h3⟩,h4⟩,h5⟩:=I1;split at h5;rename_i i hi;split at h5;rename_i z hz;simp only[beq_iff_eq]at h5;have hT:KI P t u e sz bytes i z:=by
  refine⟨hu,hi,hz,?_,?_,h5,h3,h4,?_⟩;obtain⟨i',rV,FG,_⟩:=nh h1;rw[hi]at rV;cases rV;exact FG;simpa [wY,hi] using h2;split at Uv;exact .inl ⟨_,by assumption⟩;exact .inr (by assumption);cases Uv
 have yJ:=ha;unfold aV at ha;simp only at ha;split at ha;obtain⟨v,w',G',e1,e2⟩:=NX (ty:=o.type) hT hI hB hX hR.1 hR.2.1 yJ;refine⟨_,_,_,_,_,?_,.inl rfl,e2,gp.refl _ _⟩;simp only[execOp,ho,resolve,vU,Sem.run_bind,Sem.run_pure,Result.andThen_ok,invoke,builtin,C6 hx,FR Yt Uu I0];simp[e1];cases ha;cases h5;cases h5;cases I1;cases ht;unfold aV at ha;cases ha;unfold aV at ha;cases ha;have h0:so.args=[]:=by simpa using hm
 have hv:=(hA [] (by rw[h0];rfl)).1;cases vals with
 |nil=>unfold aV at ha;simp at ha|cons a l=>simp[lg]at hv
 cases hm
end Ax
namespace Ax
open Go
variable {P:Program}{w w':World}{G G':bp}{β gZ:List m9}
theorem vV(d:Nat)(e:fq)(t:Nat):∀env:pX,di (zf env d e) t=if t=d then e else di env t
 |[]=>by
  simp only[zf,di];by_cases h:d=t;rw[if_pos h,if_pos h.symm];rw[if_neg h,if_neg (show ¬t=d from λe=>h e.symm)]
 |(k,x)::r=>by
  have ih:=vV d e t r;unfold zf;split;simp only[di];by_cases h:d=t;rw[if_pos h,if_pos h.symm];rw[if_neg h,if_neg (show ¬t=d from λe=>h e.symm)];split;rename_i hk;subst hk;simp only[di];by_cases h:d=t;rw[if_pos h,if_pos h.symm];rw[if_neg h,if_neg (show ¬t=d from λe=>h e.symm),if_neg h];simp only[di,ih];by_cases h:k=t;rw[if_pos h,if_pos h,if_neg (by omega)];rw[if_neg h,if_neg h]
theorem Dm(d t:Nat):∀env:pX,di (Iv env d) t=if t=d then .none else di env t
 |[]=>by simp[Iv,di]|(k,x)::r=>by
  have ih:=Dm d t r;unfold Iv;split;rename_i h;rw[ih];simp only[di];by_cases h2:t=d;rw[if_pos h2,if_pos h2];rw[if_neg h2,if_neg h2,if_neg (by omega)];simp only[di,ih];by_cases h2:t=d;rw[if_pos h2,if_pos h2];rw[if_neg (by omega)];rw[if_neg h2,if_neg h2]
def qp:List Src->List Nat
 |[]=>[]
 |.tmp t true::r=>t::qp r|_::r=>qp r
theorem tu(t:Nat):∀(ss:List Src)(env:pX),di (ss.foldl oA env) t=if t∈qp ss then .none else di env t
 |[],env=>by simp[qp]|.tmp u true::r,env=>by
  simp only[List.foldl_cons,oA,qp,tu t r,Dm,List.mem_cons];by_cases h1:t∈qp r;simp[h1];by_cases h2:t=u;simp[h2];simp[h1,h2]
 |.tmp u false::r,env=>by rw[List.foldl_cons,tu t r];rfl|.const a::r,env=>by rw[List.foldl_cons,tu t r];rfl
theorem uh(t:Nat):∀(l:List Nat)(env:pX),di (jI l env) t=if t∈l then .none else di env t
 |[],env=>by simp[jI]|u::l,env=>by
  simp only[jI,uh t l,Dm,List.mem_cons];by_cases h1:t∈l;simp[h1];by_cases h2:t=u;simp[h2];simp[h1,h2]
theorem FU(t:Nat):∀(k:Nat)(l:List AV),di (Fz k l) t=if k<=t then (match l[t-k]? with|some v=>.val v|none=>.none) else .none
 |k,[]=>by simp[Fz,di]|k,v::r=>by
  simp only[Fz,di,FU t (k+1) r];by_cases h:k=t;subst h;simp;rw[if_neg h];by_cases h2:k<=t;rw[if_pos h2,if_pos (by omega),show t-k=(t-(k+1))+1 by omega];simp;rw[if_neg h2,if_neg (by omega)]
theorem Dn{j:Nat}:∀{env:pX},mc j env=true->∀t,(di env t).pE j=true
 |[],_,_=>rfl|(k,x)::r,h,t=>by
  simp only[mc,List.all_cons,Bool.and_eq_true]at h;simp only[di];split;exact h.1;exact Dn (env:=r) (by simpa [mc] using h.2) t
def gX(f:Nat->Nat):Nat->Nat
 |0=>0|n+1=>gX f n+f n
theorem oF{f g:Nat->Nat}:∀{n:Nat},(∀t,t<n->f t=g t)->gX f n=gX g n
 |0,_=>rfl|n+1,h=>by simp only[gX];rw[oF λt ht=>h t (by omega),h n (by omega)]
theorem CA{f g:Nat->Nat}:∀{n:Nat},(∀t,t<n->f t<=g t)->gX f n<=gX g n
 |0,_=>Nat.le_refl _|n+1,h=>by
  simp only[gX];have h1:=CA (f:=f) (g:=g) (n:=n) λt ht=>h t (by omega);have h2:=h n (by omega);omega
theorem tA{f g:Nat->Nat}{d:Nat}:∀{n:Nat},d<n->(∀t,t≠d->f t=g t)->gX f n+g d=gX g n+f d
 |0,h,_=>by omega|n+1,h,he=>by
  simp only[gX];by_cases hd:d=n;subst hd;rw[oF (f:=f) (g:=g) λt ht=>he t (by omega)];omega;have:=tA (f:=f) (g:=g) (n:=n) (d:=d) (by omega) he;rw[he n λe=>hd e.symm];omega
theorem vW{f:Nat->Nat}{t n:Nat}(h:t<n):f t<=gX f n:=by
 have:=tA (f:=λu=>if u=t then 0 else f u) (g:=f) (d:=t) h λu hu=>if_neg hu;simp only[if_true]at this;omega
theorem FX{n:Nat}:gX (λ_=>0) n=0:=by
 induction n with
 |zero=>rfl|succ n ih=>simp[gX,ih]
def pY(f:Nat->Nat):List Nat->Nat
 |[]=>0|t::l=>f t+pY f l
theorem zx{f:Nat->Nat}{n:Nat}(hf:∀t,n<=t->f t=0):∀(l:List Nat),l.Nodup->pY f l+gX (λt=>if t∈l then 0 else f t) n<=gX f n
 |[],_=>by simp[pY]|t::l,h=>by
  have ih:=zx hf l (List.nodup_cons.1 h).2;have hn:=(List.nodup_cons.1 h).1;simp only[pY];by_cases ht:t<n;have:=tA (f:=λu=>if u∈t::l then 0 else f u) (g:=λu=>if u∈l then 0 else f u) (d:=t) ht λu hu=>by simp[hu]
  simp only[List.mem_cons,true_or,if_true,if_neg hn]at this;simp only[List.mem_cons];omega;rw[hf t (by omega)];rw[oF (f:=λu=>if u∈t::l then 0 else f u) (g:=λu=>if u∈l then 0 else f u) λu hu=>by simp[show u≠t by omega]];omega
mutual
def AV.under(n:Nat):AV->Bool
 |.mu i _|.ptr i _ _ _|.map i=>decide (i<n)|.agg cs|.fm cs=>AV.oG n cs|.fn _ a b=>AV.oG n a&&AV.oG n b|_=>true
def AV.oG(n:Nat):List AV->Bool
 |[]=>true|v::r=>v.under n&&AV.oG n r
end
theorem g9(n:Nat):∀cs:List AV,AV.oG n cs=true↔∀c∈cs,c.under n=true
 |[]=>by simp[AV.oG]|c::cs=>by simp[AV.oG,g9 n cs]
mutual
theorem jf(n:Nat):∀a:AV,a.ax=true->a.under n=true
 |.mu _ _,h=>by simp[AV.ax]at h|.ptr _ _ _ _,h=>by simp[AV.ax]at h|.map _,h=>by simp[AV.ax]at h|.agg cs,h=>by simp only[AV.ax,AV.under]at *;exact pJ n cs h|.fm cs,h=>by simp only[AV.ax,AV.under]at *;exact pJ n cs h|.fn _ a b,h=>by simp only[AV.ax,AV.under,Bool.and_eq_true]at *;exact⟨pJ n a h.1,pJ n b h.2⟩|.undef,_|.gone,_|.bool _,_|.int _ _,_|.str _,_|.fF,_|.U,_|.gn,_|.jc,_|.ke,_|.dL _ _,_|.iO _ _,_|.raw _ _,_|.mK,_|.qd _ _ _ _,_=>by simp[AV.under]
theorem pJ(n:Nat):∀cs:List AV,AV.ai cs=true->AV.oG n cs=true
 |[],_=>rfl|c::cs,h=>by
  simp only[AV.ai,Bool.and_eq_true]at h;simp only[AV.oG,jf n c h.1,pJ n cs h.2,Bool.and_self]
end
mutual
theorem KP{m n:Nat}(Yu:m<=n):∀a:AV,a.under m=true->a.under n=true
 |.mu _ _,h|.ptr _ _ _ _,h|.map _,h=>by simp only[AV.under,decide_eq_true_eq]at *;omega|.agg cs,h=>by simp only[AV.under]at *;exact pK Yu cs h|.fm cs,h=>by simp only[AV.under]at *;exact pK Yu cs h|.fn _ a b,h=>by simp only[AV.under,Bool.and_eq_true]at *;exact⟨pK Yu a h.1,pK Yu b h.2⟩|.undef,_|.gone,_|.bool _,_|.int _ _,_|.str _,_|.fF,_|.U,_|.gn,_|.jc,_|.ke,_|.dL _ _,_|.iO _ _,_|.raw _ _,_|.mK,_|.qd _ _ _ _,_=>by simp[AV.under]
theorem pK{m n:Nat}(Yu:m<=n):∀cs:List AV,AV.oG m cs=true->AV.oG n cs=true
 |[],_=>rfl|c::cs,h=>by
  simp only[AV.oG,Bool.and_eq_true]at *;exact⟨KP Yu c h.1,pK Yu cs h.2⟩
end
theorem bC.zy{a:AV}{v:Value}(h:bC w G a v):a.under G.ls.length=true:=by
 induction h with
 |agg cs vs hl h ih=>
  simp only[AV.under];refine(g9 _ cs).2 λc hc=>?_;obtain⟨i,hi,rfl⟩:=List.mem_iff_getElem.1 hc;have rV:i<vs.size:=by omega
  exact ih i cs[i] vs[i] (List.getElem?_eq_getElem hi) (by simp[rV])
 |fm cs vs hl h ih=>
  simp only[AV.under];refine(g9 _ cs).2 λc hc=>?_;obtain⟨i,hi,rfl⟩:=List.mem_iff_getElem.1 hc;have rV:i<vs.size:=by omega
  exact ih i cs[i] vs[i] (List.getElem?_eq_getElem hi) (by simp[rV])
 |mu id cy v loc hp hl hv he=>simpa [AV.under] using (List.getElem?_eq_some_iff.1 hl).1|ptr id cy i k v loc hp hl hv he=>simpa [AV.under] using (List.getElem?_eq_some_iff.1 hl).1|map id loc b hl hm hb=>simpa [AV.under] using (List.getElem?_eq_some_iff.1 hl).1|fn f first lK vf vc hl hm hn h k ih ik=>
  simp only[AV.under,Bool.and_eq_true];refine⟨(g9 _ first).2 λc hc=>?_,(g9 _ lK).2 λc hc=>?_⟩;obtain⟨i,hi,rfl⟩:=List.mem_iff_getElem.1 hc;have rV:i<vf.size:=by omega
  exact ih i first[i] vf[i] (List.getElem?_eq_getElem hi) (by simp[rV])
  obtain⟨i,hi,rfl⟩:=List.mem_iff_getElem.1 hc;have rV:i<vc.size:=by omega
  exact ik i lK[i] vc[i] (List.getElem?_eq_getElem hi) (by simp[rV])
 |_=>simp[AV.under]
def bp.cut(G:bp)(n:Nat):bp:=⟨G.ls.take n,G.mM⟩
theorem CB{n i:Nat}{loc:mC}(h:G.ls[i]?=some loc)(hi:i<n):(G.cut n).ls[i]?=some loc:=by
 simp only[bp.cut];rw[List.getElem?_take,if_pos hi];exact h
theorem bC.Dp{n:Nat}{a:AV}{v:Value}(h:bC w G a v):a.under n=true->bC w (G.cut n) a v:=by
 induction h with
 |undef=>exact λ_=>.undef|gone v h=>exact λ_=>.gone v h|bool b=>exact λ_=>.bool b|int k n=>exact λ_=>.int k n|str l s h=>exact λ_=>.str l s h|fF=>exact λ_=>.fF|U=>exact λ_=>.U|gn=>exact λ_=>.gn|jc=>exact λ_=>.jc|ke=>exact λ_=>.ke|agg cs vs hl h ih=>exact λhb=>.agg cs vs hl λi c v h1 h2=>ih i c v h1 h2 ((g9 n cs).1 (by simpa [AV.under] using hb) c (dm h1))|fm cs vs hl h ih=>exact λhb=>.fm cs vs hl λi c v h1 h2=>ih i c v h1 h2 ((g9 n cs).1 (by simpa [AV.under] using hb) c (dm h1))|dL sz rows a cap nE g8 cJ jy qI wU hc hr ih=>
  exact λ_=>.dL sz rows a cap nE g8 cJ jy qI wU hc λi r j c v h1 h2 h3=>ih i r j c v h1 h2 h3 (jf n c ((gG r).1 (qI r (dm h1)) c (dm h2)))
 |iO sz rows a cap nE g8 cJ jy qI wU hc hr jz gQ ih=>
  exact λ_=>.iO sz rows a cap nE g8 cJ jy qI wU hc (λi r j c v h1 h2 h3=>ih i r j c v h1 h2 h3 (jf n c ((gG r).1 (qI r (dm h1)) c (dm h2)))) jz gQ
 |raw sz rows a cap nE g8 cJ jy qI wU hc hr jz gQ ih=>
  exact λ_=>.raw sz rows a cap nE g8 cJ jy qI wU hc (λi r j c v h1 h2 h3=>ih i r j c v h1 h2 h3 (jf n c ((gG r).1 (qI r (dm h1)) c (dm h2)))) jz gQ
 |mK a=>exact λ_=>.mK a|mu id cy v loc hp hl hv he=>exact λhb=>.mu id cy v loc hp (CB hl (by simpa [AV.under] using hb)) hv he|ptr id cy i k v loc hp hl hv he=>exact λhb=>.ptr id cy i k v loc hp (CB hl (by simpa [AV.under] using hb)) hv he|qd sz rows i k a cap hs ih=>exact λ_=>.qd sz rows i k a cap (ih (by simp[AV.under]))|map id loc b hl hm hb=>exact λoE=>.map id loc b (CB hl (by simpa [AV.under] using oE)) hm hb|fn f first lK vf vc hl hm hn h k ih ik=>
  intro hb;simp only[AV.under,Bool.and_eq_true]at hb;exact .fn f first lK vf vc hl hm hn (λi c v h1 h2=>ih i c v h1 h2 ((g9 n first).1 hb.1 c (dm h1))) λi c v h1 h2=>ik i c v h1 h2 ((g9 n lK).1 hb.2 c (dm h1))
def dy.under(n:Nat):dy->Bool
 |.rows _ _ rs=>rs.all (AV.oG n)|.map es=>es.all λe=>e.1.under n&&e.2.under n
theorem qY.Dp{n:Nat}{ob:dy}{loc:mC}(h:qY w G ob loc)(hb:ob.under n=true):qY w (G.cut n) ob loc:=by
 cases ob with
 |rows cy sz rows=>
  obtain⟨h1,h2,h3⟩:=h;simp only[dy.under,List.all_eq_true]at hb;refine⟨h1,h2,h3.FE,h3.E1,h3.len,h3.size,h3.tj,λi r xs e1 e2=>?_,h3.sK⟩;obtain⟨a1,a2⟩:=h3.tZ i r xs e1 e2;exact⟨a1,λj c v g1 g2=>(a2 j c v g1 g2).Dp ((g9 n r).1 (hb r (dm e1)) c (dm g1))⟩
 |map es=>
  obtain⟨h1,h2,b,vC,clock,h3,h4,h5,h6,h7⟩:=h;simp only[dy.under,List.all_eq_true,Bool.and_eq_true]at hb;refine⟨h1,h2,b,vC,clock,h3,h4,h5,h6,λi k v e e1 e2=>?_⟩;obtain⟨g1,g2,g3,g4⟩:=h7 i k v e e1 e2;have:=hb (k,v) (dm e1);exact⟨g1.Dp this.1,g2.Dp this.2,g3,g4⟩
theorem qY.zy{ob:dy}{loc:mC}(h:qY w G ob loc):ob.under G.ls.length=true:=by
 cases ob with
 |rows cy sz rows=>
  obtain⟨h1,h2,h3⟩:=h;simp only[dy.under,List.all_eq_true];intro r hr;obtain⟨i,hi,rfl⟩:=List.mem_iff_getElem.1 hr;have rV:i<loc.vals.length:=by rw[h3.tj];exact hi
  obtain⟨a1,a2⟩:=h3.tZ i rows[i] loc.vals[i] (List.getElem?_eq_getElem hi) (List.getElem?_eq_getElem rV);refine(g9 _ _).2 λc hc=>?_;obtain⟨j,hj,rfl⟩:=List.mem_iff_getElem.1 hc;have hj':j<loc.vals[i].length:=by omega
  exact(a2 j _ _ (List.getElem?_eq_getElem hj) (List.getElem?_eq_getElem hj')).zy
 |map es=>
  obtain⟨h1,h2,b,vC,clock,h3,h4,h5,h6,h7⟩:=h;simp only[dy.under,List.all_eq_true,Bool.and_eq_true];intro x hx;obtain⟨i,hi,rfl⟩:=List.mem_iff_getElem.1 hx;have rV:i<vC.size:=by omega
  obtain⟨g1,g2,_,_⟩:=h7 i es[i].1 es[i].2 vC[i] (List.getElem?_eq_getElem hi) (by simp[rV]);exact⟨g1.zy,g2.zy⟩
def FY(l:Nat)(st:aj):Prop:=∀(id:Nat) ob,id<l->st[id]?=some ob->ob.under l=true
theorem jQ.acS{st:aj}(h:jQ w G st):FY st.length st:=by
 intro id ob _ hob;obtain⟨loc,hl,hr⟩:=h.loc hob;rw[<-h.len];exact hr.zy
theorem jQ.Dp{st:aj}{n:Nat}(h:jQ w G st)(hl:FY n st):jQ w (G.cut n) (st.take n) where
 len:=by simp[bp.cut,h.len]
 aT:=λid ob loc h1 h2=>by
  simp only[bp.cut]at h2;rw[List.getElem?_take]at h1 h2;split at h1;rename_i Kl;rw[if_pos Kl]at h2;exact(h.aT id ob loc h1 h2).Dp (hl id ob Kl h1);cases h1
 nO:=h.nO
theorem Uw{n:Nat}(h:sH w G w' G')(hn:G.ls.length<=n):sH w G w' (G'.cut n) where
 PM:=h.PM
 Mj:=λid loc hl=>by
  obtain⟨loc',a1,a2,a3⟩:=h.Mj id loc hl;exact⟨loc',CB a1 (by have:=(List.getElem?_eq_some_iff.1 hl).1;omega),a2,a3⟩
theorem FZ(b:Nat):∀(n:Nat)(ls:List mC)(st:aj),cz b (ls.take n) (st.take n)<=cz b ls st
 |0,ls,st=>by simp[cz]|n+1,[],st=>by simp[cz]|n+1,l::ls,[]=>by simp[cz]|n+1,l::ls,o::st=>by
  have:=FZ b n ls st;simp only[List.take_succ_cons,cz];omega
end Ax
namespace Ax
open Go
structure dQ (wl af:Nat)(st bV:aj):Prop where
 len:st.length<=bV.length
 low:∀id,id<wl->id<st.length->bV[id]?=st[id]?
 af:∀l,l<=af->l<=st.length->FY l st->FY l bV
variable {wl af:Nat}{st bV NI:aj}
theorem dQ.refl(wl af:Nat)(st:aj):dQ wl af st st:=⟨Nat.le_refl _,λ_ _ _=>rfl,λ_ _ _ h=>h⟩
theorem dQ.trans(h:dQ wl af st bV)(k:dQ wl af bV NI):dQ wl af st NI:=
 ⟨Nat.le_trans h.len k.len,λid h1 h2=>(k.low id h1 (Nat.lt_of_lt_of_le h2 h.len)).trans (h.low id h1 h2),λl h1 h2 h3=>k.af l h1 (Nat.le_trans h2 h.len) (h.af l h1 h2 h3)⟩
theorem dQ.push(wl af:Nat)(st:aj)(ob:dy):dQ wl af st (st++[ob]) where
 len:=by simp
 low:=λid _ h=>by rw[List.getElem?_append_left h]
 af:=λl _ h1 h2 id Im h3 h4=>h2 id Im h3 (by rwa [List.getElem?_append_left (by omega)]at h4)
theorem dQ.set{id:Nat}{ob Im:dy}(iu:st[id]?=some ob)(hw:wl<=id)(h:∀l,l<=af->id<l->ob.under l=true->Im.under l=true):dQ wl af st (st.set id Im) where
 len:=by simp
 low:=λi h1 _=>by rw[List.getElem?_set,if_neg (by omega)]
 af:=λl h1 h2 h3 i Yj h4 h5=>by
  rw[List.getElem?_set]at h5;split at h5;rename_i e;subst e;split at h5;cases h5;exact h l h1 h4 (h3 _ ob h4 iu);cases h5;exact h3 i Yj h4 h5
theorem uk{l cy sz:Nat}{rs:List (List AV)}:(dy.rows cy sz rs).under l=true↔∀r∈rs,∀c∈r,c.under l=true:=by
 simp only[dy.under,List.all_eq_true];exact⟨λh r hr=>(g9 l r).1 (h r hr),λh r hr=>(g9 l r).2 (h r hr)⟩
theorem N9{α:Type}{as vs:List α}{k:Nat}{x:α}(h:k+vs.length<=as.length)(hx:x∈ag as k vs):x∈as\/x∈vs:=by
 rw[jU _ _ _ h]at hx;rcases List.mem_append.1 hx with hx|hx;rcases List.mem_append.1 hx with hx|hx;exact .inl (List.mem_of_mem_take hx);exact .inr hx;exact .inl (List.mem_of_mem_drop hx)
theorem um{p:AV}{cells:List AV}(h:cV wl af st p cells=some bV)(hc:∀id cy i k,p=.ptr id cy i k->True:=λ_ _ _ _ _=>trivial):dQ wl af st bV:=by
 unfold cV at h;split at h;split at h;rename_i v sz rows iu;split at h;rename_i lp;simp only[Bool.and_eq_true,decide_eq_true_eq,aY,Bool.or_eq_true]at lp;obtain⟨_,hw,hl⟩:=lp;split at h;rename_i r hr;split at h;rename_i cJ;cases h;refine dQ.set iu hw λl h1 h2 h3=>?_;rw[uk]at h3 ⊢;intro r' xS c Il;rcases List.mem_or_eq_of_mem_set xS with h4|h4;exact h3 r' h4 c Il;subst h4;rcases N9 cJ Il with h5|h5;exact h3 r (dm hr) c h5;rcases hl with hl|hl;omega;exact jf l c ((gG cells).1 hl c h5);cases h;cases h;cases h;cases h;cases h
theorem Dq{sz bytes:Nat}{s:AV}{new:List (List AV)}{bx gC:bF}{r:fq}(h:vA wl af sz bytes s new st bx=some (r,bV,gC)):dQ wl af st bV:=by
 unfold vA at h;split at h;split at h;split at h;cases h;exact dQ.refl _ _ _;split at h;cases h;exact dQ.push _ _ _ _;cases h;split at h;cases h;exact dQ.push _ _ _ _;cases h;split at h;rename_i iu;split at h;rename_i hc;simp only[Bool.and_eq_true,decide_eq_true_eq,Bool.or_eq_true,List.all_eq_true]at hc;cases h;refine dQ.set iu hc.1.2 λl h1 h2 h3=>?_;rw[uk]at h3 ⊢;intro r hr c TS;rcases List.mem_append.1 hr with h4|h4;exact h3 r h4 c TS;rcases hc.2 with h5|h5;omega;exact jf l c ((gG r).1 (h5 r h4) c TS);cases h;cases h;cases h;cases h
theorem KQ{op:eC}{vals:List fq}{bx gC:bF}{r:fq}(h:aV wl af op vals st bx=some (r,bV,gC)):dQ wl af st bV:=by
 cases op
 case load agg n take=>
  unfold aV at h;simp only at h;split at h;split at h;split at h;split at h;rename_i hw _;cases h;exact um hw;cases h;split at h;cases h;exact dQ.refl _ _ _;cases h;cases h;cases h
 case store n=>
  unfold aV at h;simp only at h;split at h;split at h;split at h;rename_i hw;cases h;exact um hw;cases h;cases h;cases h
 case CU sz=>
  unfold aV at h;simp only at h;split at h;split at h;rename_i iu;split at h;rename_i hc;simp only[Bool.and_eq_true,decide_eq_true_eq]at hc;cases h;refine dQ.set iu hc.2 λl _ _ h3=>?_;rw[uk]at h3 ⊢;exact λr hr=>h3 r (List.mem_of_mem_take hr);cases h;cases h;cases h
 case jx sz bytes=>
  unfold aV at h;simp only at h;split at h;split at h;cases h;exact Dq h;cases h
 case Ct sz bytes zero=>
  unfold aV at h;simp only at h;split at h;split at h;exact Dq h;cases h;cases h
 case copy sz=>
  unfold aV at h;simp only at h;split at h;split at h;rename_i iu vg;split at h;rename_i hc;simp only[Bool.and_eq_true,decide_eq_true_eq,Bool.or_eq_true,List.all_eq_true]at hc;cases h;refine dQ.set iu hc.1.2 λl h1 h2 h3=>?_;rw[uk]at h3 ⊢;intro r hr c TS;rcases List.mem_append.1 hr with h4|h4;rcases hc.2 with h5|h5;omega;exact jf l c ((gG r).1 (h5 r h4) c TS);exact h3 r (List.mem_of_mem_drop h4) c TS;cases h;cases h;cases h
 case mapUpdate kk=>
  unfold aV at h;simp only at h;split at h;rename_i id k v;split at h;rename_i es iu;split at h;rename_i hc;simp only[Bool.and_eq_true,aY,decide_eq_true_eq,Bool.or_eq_true]at hc;split at h;rename_i vC NY;cases h;refine dQ.set iu hc.2.1 λl h1 h2 h3=>?_;have hk:k.under l=true:=by
   have:=hc.1;unfold Fy at this;split at this<;>first|rfl|cases this
  have hv:v.view.under l=true:=by
   rcases hc.2.2 with h5|h5;omega;simp only[AV.ai,Bool.and_true]at h5;exact jf l _ (vP v h5)
  clear iu;simp only[dy.under,List.all_eq_true,Bool.and_eq_true]at h3 ⊢;have key:∀(es vC:List (AV×AV)),(∀x∈es,x.1.under l=true/\x.2.under l=true)->E9 kk k v.view es=some vC->∀x∈vC,x.1.under l=true/\x.2.under l=true:=by
   intro es;induction es with
   |nil=>intro vC _ h x hx;simp[E9]at h;subst h;simp at hx;subst hx;exact⟨hk,hv⟩|cons c es ih=>
    intro vC jR h;obtain⟨a,u⟩:=c;simp only[E9]at h;split at h;cases h;intro x hx;rcases List.mem_cons.1 hx with rfl|hx;exact⟨hk,hv⟩;exact jR x (by simp[hx]);split at h;rename_i r' xS;cases h;intro x hx;rcases List.mem_cons.1 hx with rfl|hx;exact jR _ (by simp);exact ih r' (λx hx=>jR x (by simp[hx])) xS x hx;cases h;cases h
  exact key es vC h3 NY;cases h;cases h;cases h;cases h
 all_goals
  unfold aV at h;simp only at h;repeat' split at h
 all_goals first
  |(cases h;exact dQ.refl _ _ _)
  |(cases h;exact dQ.push _ _ _ _)
  |cases h
structure ry (O:lE):Prop where
 call:∀wl af f args st v bV,O.call wl af f args st=some (v,bV)->dQ wl af st bV
 loop:∀wl af rs c s x s',O.loop wl af rs c s=some (x,s')->dQ wl af s.st s'.st
variable {O:lE}
theorem Oa(hO:ry O){op:eC}{vals:List fq}{bx gC:bF}{r:fq}(h:tT O wl af op vals st bx=some (r,bV,gC)):dQ wl af st bV:=by
 have call:∀x,gm O wl af x st bx=some (r,bV,gC)->dQ wl af st bV:=by
  intro x h;unfold gm at h;split at h;split at h;rename_i hc;cases h;exact hO.call _ _ _ _ _ _ _ hc;cases h;cases h
 unfold tT at h;split at h;exact call _ h;exact call _ h;exact KQ h
theorem zz(hO:ry O){o:aK}{s s':St}(h:jd O wl af o s=some s'):dQ wl af s.st s'.st:=by
 unfold jd at h;split at h;cases h;cases h;exact dQ.refl _ _ _;split at h;cases h;rename_i ha;have hk:=Oa hO ha;split at h;cases h;exact hk;split at h;cases h;exact hk;cases h
theorem yf(hO:ry O):∀{l:List aK}{s s':St},gw O wl af l s=some s'->dQ wl af s.st s'.st
 |[],s,s',h=>by simp only[gw,Option.some.injEq]at h;subst h;exact dQ.refl _ _ _|o::l,s,s',h=>by
  simp only[gw]at h;split at h;rename_i s1 h1;exact(zz hO h1).trans (yf hO h);cases h
theorem yg(hO:ry O):∀{l:List aK}{s s':St}{ga:List St},dS O wl af l s=some (s',ga)->dQ wl af s.st s'.st
 |[],s,s',ga,h=>by simp only[dS,Option.some.injEq,Prod.mk.injEq]at h;obtain⟨rfl,_⟩:=h;exact dQ.refl _ _ _|o::l,s,s',ga,h=>by
  simp only[dS]at h;split at h;rename_i s1 h1;split at h;rename_i h2;cases h;exact(zz hO h1).trans (yg hO h2);cases h;cases h
theorem Dr(hO:ry O){l:List aK}{cn:List (Nat×Nat)}{s s':St}(h:iB O wl af l cn s=some s'):dQ wl af s.st s'.st:=by
 unfold iB at h;split at h;cases h;rename_i hr;split at h;cases h;exact yg hO hr;cases h
theorem Fi{a a':AV}(h:me wl a st=some (a',bV)):dQ wl af st bV:=by
 unfold me at h;split at h;split at h;rename_i iu;split at h;rename_i hc;simp only[Bool.and_eq_true,decide_eq_true_eq]at hc;cases h;exact dQ.set iu hc.2 λl _ _ _=>by simp[dy.under]
 cases h;cases h;split at h;cases h;exact dQ.refl _ _ _;cases h
theorem yh:∀{l l':List AV}{st bV:aj},kq wl l st=some (l',bV)->dQ wl af st bV
 |[],l',st,bV,h=>by simp only[kq,Option.some.injEq,Prod.mk.injEq]at h;obtain⟨_,rfl⟩:=h;exact dQ.refl _ _ _|a::l,l',st,bV,h=>by
  simp only[kq]at h;split at h;rename_i h1;split at h;rename_i h2;cases h;exact(Fi h1).trans (yh h2);cases h;cases h
theorem vY:∀{l l':List (List AV)}{st bV:aj},kN wl l st=some (l',bV)->dQ wl af st bV
 |[],l',st,bV,h=>by simp only[kN,Option.some.injEq,Prod.mk.injEq]at h;obtain⟨_,rfl⟩:=h;exact dQ.refl _ _ _|a::l,l',st,bV,h=>by
  simp only[kN]at h;split at h;rename_i h1;split at h;rename_i h2;cases h;exact(yh h1).trans (vY h2);cases h;cases h
theorem sN{a a':AV}(h:jm wl a st=some (a',bV)):dQ wl af st bV:=by
 unfold jm at h;split at h;split at h;rename_i iu;split at h;rename_i hc;simp only[Bool.and_eq_true,decide_eq_true_eq]at hc;split at h;rename_i hl;cases h;exact(dQ.set (af:=af) iu hc.2 λl _ _ _=>by simp[dy.under]).trans (vY hl);cases h;cases h;cases h;cases h;exact dQ.refl _ _ _;cases h
theorem Fj{a a':AV}(h:o6 wl a st=some (a',bV)):dQ wl af st bV:=by
 unfold o6 at h;split at h;cases h;exact dQ.push _ _ _ _;exact sN h
theorem jW(hO:ry O){rs:List iE}:∀{c:bw}{s:St}{x:Ex}{s':St},iW O wl af rs c s=some (x,s')->dQ wl af s.st s'.st
 |.skip,s,x,s',h=>by simp only[iW,Option.some.injEq,Prod.mk.injEq]at h;obtain⟨_,rfl⟩:=h;exact dQ.refl _ _ _|.region dG draw dj,s,x,s',h=>by
  simp only[iW]at h;split at h;rename_i s1 h1;cases h;show dQ wl af s.st s1.st;cases draw with
  |none=>exact yf hO (by simpa only using h1)|some cn=>exact Dr hO (by simpa only using h1)
  cases h
 |.seq a b,s,x,s',h=>by
  simp only[iW]at h;split at h;rename_i s1 h1;exact(jW hO h1).trans (jW hO h);exact jW hO h
 |.cond c ca a cb b,s,x,s',h=>by
  simp only[iW]at h;split at h;have:=jW (c:=a) hO h;exact this;have:=jW (c:=b) hO h;exact this;cases h
 |.block id c,s,x,s',h=>by
  simp only[iW]at h;split at h;rename_i h1;split at h<;>(cases h;exact jW hO h1);exact jW hO h
 |.loop c,s,x,s',h=>by simp only[iW]at h;exact hO.loop _ _ _ _ _ _ _ h|.exit id,s,x,s',h=>by simp only[iW,Option.some.injEq,Prod.mk.injEq]at h;obtain⟨_,rfl⟩:=h;exact dQ.refl _ _ _|.ret,s,x,s',h=>by
  simp only[iW]at h;split at h;cases h;exact dQ.refl _ _ _;cases h
 |.TM t,s,x,s',h=>by
  simp only[iW]at h;split at h;split at h;rename_i hf;cases h;exact sN hf;cases h;cases h
 |.E8 j k,s,x,s',h=>by
  simp only[iW]at h;split at h;split at h;split at h;rename_i hf;cases h;exact sN hf;cases h;cases h;cases h
 |.u6 t off,s,x,s',h=>by
  obtain⟨_,id,cy,i,k,v,v',kL,kO,_,_,g3,g4,rfl⟩:=CY h;exact(Fj g3).trans (um g4)
theorem KR:∀m:Mode,m=.pure\/m=.kg\/m=.zg:=by
 intro m;cases m<;>simp
theorem Ch(hO:ry O){sf:aH}{args:List AV}{v:AV}(h:eZ O wl af sf args st=some (v,bV)):dQ wl af st bV:=by
 unfold eZ at h;split at h;split at h;rename_i x s hs;split at h;rename_i u hu;have hk:=jW hO hs;simp only[pF]at hk;rcases KR sf.mode with hm|hm|hm;rw[hm]at h;simp only[Mode.lG]at h;split at h;cases h;exact dQ.refl _ _ _;cases h;rw[hm]at h hk;simp only[Mode.lG]at h;simp only[Mode.u7,Mode.oB]at hk;split at h;cases h;refine⟨by rw[List.length_take];have:=hk.len;omega,λid h1 h2=>?_,λl h1 h2 h3 id ob h4 h5=>?_⟩;rw[List.getElem?_take,if_pos h2];exact hk.low id h1 h2;rw[List.getElem?_take]at h5;split at h5;exact hk.af l h2 h2 h3 id ob h4 h5;cases h5;cases h;rw[hm]at h hk;simp only[Mode.lG]at h;cases h;exact hk;cases h;cases h;cases h
theorem Ds(hO:ry O){sf:aH}{args:List AV}{v:AV}(h:fQ O wl af sf args st=some (v,bV)):dQ wl af st bV:=by
 unfold fQ at h;split at h;simp only[Option.map_eq_some_iff]at h;obtain⟨x,_,hx⟩:=h;cases hx;exact dQ.refl _ _ _;exact Ch hO h
theorem F0(S:Nat->Option aH):∀n,ry (qk S n)
 |0=>⟨λ_ _ _ _ _ _ _ h=>by simp[qk]at h,λ_ _ _ _ _ _ _ h=>by simp[qk]at h⟩
 |n+1=>by
  have ih:=F0 S n;refine⟨λwl af f args st v bV h=>?_,λwl af rs c s x s' h=>?_⟩;simp only[qk]at h;split at h;exact Ds ih h;cases h;simp only[qk]at h;split at h;rename_i s1 h1;exact(jW ih h1).trans (ih.loop _ _ _ _ _ _ _ h);exact jW ih h
end Ax
namespace Ax
open Go
variable {P:Program}{w w':World}{G G':bp}{β gZ:List m9}
abbrev lR(a:Act)(t:Nat):Value:=a.tmps.getD t undef
structure FS (w:World)(G:bp)(β:List m9)(a:Act)(η:Nat->fq)(bx:bF)(st:aj)(n:Nat):Prop where
 I2:a.defers=[]
 size:n<=a.tmps.size
 tU:∀t,kP w G β (η t) (lR a t)
 lt:∀t,n<=t->η t=.none
 inv:jQ w G st
 box:lH w G β bx
def uT(β:List m9)(a:Act)(η:Nat->fq)(bx:bF)(st:aj)(G:bp)(n:Nat)(b:Nat):Nat:=
 gX (λt=>cL b (η t) (lR a t)) n+gT b β bx+cz b G.ls st
structure Mv (w:World)(G:bp)(A:Nat->Nat)(w':World)(G':bp)(A':Nat->Nat):Prop where
 jK:sH w G w' G'
 gu:∀b,b<w.heap.size->A' b<=A b
 one:∀b,A' b<=1
 vK:∀b,b<w.heap.size->A b=0->eR w G w' G' b
 size:w.heap.size<=w'.heap.size
 os:w'.os=w.os
 out:w'.output=w.output
theorem Mv.refl{A:Nat->Nat}(h:∀b,A b<=1):Mv w G A w G A:=⟨sH.refl w G,λ_ _=>Nat.le_refl _,h,λ_ _ _=>⟨rfl,rfl⟩,Nat.le_refl _,rfl,rfl⟩
theorem eR.trans{w1 w2 w3:World}{G1 G2 G3:bp}{b:Nat}(h:eR w1 G1 w2 G2 b)(k:eR w2 G2 w3 G3 b):eR w1 G1 w3 G3 b:=⟨k.1.trans h.1,k.2.trans h.2⟩
theorem Mv.trans{A A' A'':Nat->Nat}{w'':World}{G'':bp}(h:Mv w G A w' G' A')(k:Mv w' G' A' w'' G'' A''):Mv w G A w'' G'' A'' where
 jK:=h.jK.trans k.jK
 gu:=λb hb=>Nat.le_trans (k.gu b (Nat.lt_of_lt_of_le hb h.size)) (h.gu b hb)
 one:=k.one
 vK:=λb hb h0=>(h.vK b hb h0).trans (k.vK b (Nat.lt_of_lt_of_le hb h.size) (by have:=h.gu b hb;omega))
 size:=Nat.le_trans h.size k.size
 os:=k.os.trans h.os
 out:=k.out.trans h.out
theorem Mv.Qj{A A' B B':Nat->Nat}(h:Mv w G A w' G' A')(hB:∀b,A b<=B b)(hc:∀b,b<w.heap.size->B' b<=B b)(ho:∀b,B' b<=1):Mv w G B w' G' B':=
 ⟨h.jK,hc,ho,λb hb h0=>h.vK b hb (by have:=hB b;omega),h.size,h.os,h.out⟩
theorem F1{e:fq}{v:Value}{b:Nat}(h:kP w G β e v)(hb:0<cL b e v):b<w.heap.size:=by
 cases e with
 |none=>simp[cL]at hb|fp j k=>simp[cL]at hb|val a=>exact bC.held h hb
section
variable {a:Act}{η:Nat->fq}{bx:bF}{st:aj}{n:Nat}
theorem FS.held(h:FS w G β a η bx st n){b:Nat}(hb:0<uT β a η bx st G n b):b<w.heap.size:=by
 unfold uT at hb;by_cases h1:0<gT b β bx;exact h.box.held h1;by_cases h2:0<cz b G.ls st;exact h.inv.held h2;have h3:0<gX (λt=>cL b (η t) (lR a t)) n:=by omega
 have key:∀n,0<gX (λt=>cL b (η t) (lR a t)) n->∃t,0<cL b (η t) (lR a t):=by
  intro n;induction n with
  |zero=>intro h;simp[gX]at h|succ n ih=>
   intro h;simp only[gX]at h;by_cases h0:0<cL b (η n) (lR a n);exact⟨n,h0⟩;exact ih (by omega)
 obtain⟨t,ht⟩:=key n h3;exact F1 (h.tU t) ht
end
theorem kP.bx{e:fq}{v:Value}{nb:Option Nat}(h:kP w G β e v)(hb:gp nb β gZ)(hn:∀j,nb=some j->e.pE j=true):kP w G gZ e v:=by
 cases e with
 |none=>trivial|val a=>exact h|fp j k=>
  obtain⟨g,b,h1,h2,h3⟩:=h;obtain⟨g',a1,a2⟩:=hb j g h1;refine⟨g',b,a1,(a2 λe=>?_).trans h2,h3⟩;have:=hn j e;simp[fq.pE]at this
theorem kP.jK{e:fq}{v:Value}(h:kP w G β e v)(hs:sH w G w' G')(hu:∀b,0<cL b e v->eR w G w' G' b):kP w' G' β e v:=by
 cases e with
 |none=>trivial|val a=>exact bC.jK h hs hu|fp j k=>exact h
def AI(η:Nat->fq):Src->fq
 |.tmp t true=>η t|.tmp t false=>(η t).view|.const a=>.val a
theorem CC(env:pX)(s:Src):Kv env s=AI (di env) s:=by
 cases s with
 |tmp t mv=>cases mv<;>rfl|const a=>rfl
def uo(η:Nat->fq):Option (Nat×Bool)->Option Bool
 |none=>some true|some (t,b)=>match η t with
  |.val (.bool c)=>some (c==b)|.val .undef=>some false|_=>none
theorem F2(env:pX)(g:Option (Nat×Bool)):o5 env g=uo (di env) g:=by
 cases g with
 |none=>rfl|some x=>rfl
def kC(η:Nat->fq)(dst:Option Nat)(e:fq):Nat->fq:=λt=>if dst=some t then e else η t
def jL(η:Nat->fq)(l:List Nat):Nat->fq:=λt=>if t∈l then .none else η t
theorem MB{a:Act}{η:Nat->fq}(hr:∀t,kP w G β (η t) (lR a t)):∀{x:Operand}{s:Src},Ky x s=true->kP w G β (AI η s) (a.eval x)/\∀b,cL b (AI η s) (a.eval x)<=pY (λt=>cL b (η t) (lR a t)) (qp [s])
 |.tmp t,.tmp u true,h=>by
  simp only[Ky,beq_iff_eq]at h;subst h;exact⟨hr t,λb=>by simp only[qp,pY,AI];exact Nat.le_refl _⟩
 |.tmp t,.tmp u false,h=>by
  simp only[Ky,beq_iff_eq]at h;subst h;exact⟨(hr t).view,λb=>by simp only[AI,FD];omega⟩
 |.const v,.const c,h=>by
  simp only[Ky]at h;obtain⟨h1,h2,_⟩:=yB h w G;exact⟨h1,λb=>by simp only[AI,cL,fz b c _ h2];omega⟩
 |.func f,.const (.fn g [] []),h=>by
  simp only[Ky,Bool.and_eq_true,beq_iff_eq,decide_eq_true_eq]at h;obtain⟨rfl,hf⟩:=h;exact⟨bC.fn f [] [] #[] #[] rfl rfl ⟨rfl,rfl,hf⟩ (λi c v h=>by simp at h) (λi c v h=>by simp at h),λb=>by simp[AI,cL,gu]⟩
theorem Qk(s:Src)(r:List Src):qp (s::r)=qp [s]++qp r:=by
 cases s with
 |tmp t mv=>cases mv<;>rfl|const a=>rfl
theorem BB(f:Nat->Nat):∀(l m:List Nat),pY f (l++m)=pY f l+pY f m
 |[],m=>by simp[pY]|t::l,m=>by simp only[List.cons_append,pY,BB f l m];omega
theorem I3{a:Act}{η:Nat->fq}(hr:∀t,kP w G β (η t) (lR a t)):∀{xs:List Operand}{ss:List Src},iF xs ss=true->lg w G β (ss.map (AI η)) (xs.map a.eval)/\
  ∀b,mD b (ss.map (AI η)) (xs.map a.eval)<=pY (λt=>cL b (η t) (lR a t)) (qp ss)
 |[],[],_=>⟨trivial,λb=>by simp[mD]⟩
 |x::xs,s::ss,h=>by
  simp only[iF,Bool.and_eq_true]at h;obtain⟨h1,h2⟩:=MB hr h.1;obtain⟨h3,h4⟩:=I3 hr h.2;refine⟨⟨h1,h3⟩,λb=>?_⟩;have e1:=h2 b;have e2:=h4 b;rw[Qk,BB];simp only[List.map_cons,mD];omega
 |[],_::_,h=>by simp[iF]at h|_::_,[],h=>by simp[iF]at h
def KS(dG:Array Oper)(o:Oper)(so:aK):Bool:=
 match o.guard,so.guard with
 |none,none=>true|some (j,b),some (t,c)=>b==c&&(match dG[j]? with|some q=>q.dst==some t|none=>false)|_,_=>false
def vZ:List Nat->Bool
 |[]=>true|t::l=>!(l.contains t)&&vZ l
theorem w8:∀{l:List Nat},vZ l=true->l.Nodup
 |[],_=>List.nodup_nil|t::l,h=>by
  simp only[vZ,Bool.and_eq_true,Bool.not_eq_true',List.contains_eq_mem,decide_eq_false_iff_not]at h;exact List.nodup_cons.2 ⟨h.1,w8 h.2⟩
def F3(S:Nat->Option aH)(P:Program)(dG:Array Oper)(n:Nat)(o:Oper)(so:aK):Bool:=
 mOp S P o so&&KS dG o so&&(match so.dst with|some d=>decide (d<n)|none=>true)&&vZ (qp so.args)
theorem Ob{dG:Array Oper}{o:Oper}{so:aK}{a:Act}{η:Nat->fq}{n:Nat}(hg:KS dG o so=true)(hr:∀t,kP w G β (η t) (lR a t))(aW:∀t,n<=t->η t=.none)(dF:n<=a.tmps.size){b:Bool}
  (hw:uo η so.guard=some b):Region.wanted o (yielded dG a.tmps)=b:=by
 unfold KS at hg;split at hg;rename_i h1 h2;rw[h2]at hw;simp only[uo]at hw;cases hw;simp[Region.wanted,h1];rename_i j b1 t c h1 h2;simp only[Bool.and_eq_true,beq_iff_eq]at hg;obtain⟨rfl,hg⟩:=hg;split at hg;rename_i q hq;simp only[beq_iff_eq]at hg;rw[h2]at hw;simp only[uo]at hw;have hy:yielded dG a.tmps j=match a.tmps[t]? with|some (.bool b)=>some b|_=>none:=by
  simp only[yielded,hq,Option.bind_some,hg]
  rfl
 have Fk:=hr t;split at hw;rename_i c hc;cases hw;have ht:t<n:=by
  rcases Nat.lt_or_ge t n with h|h;exact h;rw[aW t h]at hc;cases hc
 rw[hc]at Fk;have hv:=bC.jT Fk;have ht':a.tmps[t]?=some (.bool c):=by
  have hs:t<a.tmps.size:=by omega
  have:a.tmps.getD t undef=a.tmps[t]:=by simp[Array.getD,hs]
  rw[<-hv,lR,this];simp[hs]
 simp only[Region.wanted,h1,hy,ht']
 rfl
 rename_i hc;cases hw;have ht:t<n:=by
  rcases Nat.lt_or_ge t n with h|h;exact h;rw[aW t h]at hc;cases hc
 rw[hc]at Fk;have hv:lR a t=undef:=by
  generalize lR a t=v at Fk;cases Fk;rfl
 have ht':a.tmps[t]?=some undef:=by
  have hs:t<a.tmps.size:=by omega
  have:a.tmps.getD t undef=a.tmps[t]:=by simp[Array.getD,hs]
  rw[<-hv,lR,this];simp[hs]
 simp only[Region.wanted,h1,hy,ht']
 rfl
 cases hw;cases hg;cases hg
end Ax
namespace Ax
open Go
variable {P:Program}{w w':World}{G G':bp}{β gZ:List m9}
def Oc (P : Program) (f : FuncId) : Prop := ∃ fn, P.funcs[f]? = some fn ∧ (fn.name == "runtime.NumGoroutine") = false ∧ fn.body.isNone = false
def jX(S:Nat->Option aH)(P:Program)(O:lE):Prop:=
 ∀wl af f args st v bV,O.call wl af f args st=some (v,bV)->∃sf,S f=some sf/\Oc P sf.eM/\(f<100000->sf.eM=f)/\
  ∀(w:World) (G:bp) (vs:List Value),cF w G args vs->jQ w G st->(∀b,cu b args vs+cz b G.ls st<=1)->
   Calls P sf.eM vs.toArray w λe w'=>∃u G',e=.returned u/\bC w' G' v u/\jQ w' G' bV/\
    Mv w G (λb=>cu b args vs+cz b G.ls st) w' G' (λb=>gu b v u+cz b G'.ls bV)
theorem Dt{f:FuncId}(h:Oc P f)(args:Array Value)(w:World):(callFunc f args).run P w=.ok (.enter f args) w:=by
 obtain⟨fn,h1,h2,h3⟩:=h;have h4 : ¬ fn.name = "runtime.NumGoroutine" := by simpa using h2
 have h5:¬fn.body=none:=by intro h;rw[h]at h3;simp at h3
 simp[callFunc,h1,h4,h5]
theorem F4{ρ:Operand->Value}{o:Oper}{c:Call}{f:FuncId}{vf vc:Array Value}{x:Operand}(ho:o.op=.call c)(hc:c.callee=.value x)(hx:ρ x=.func (.func f) vf vc)(hf:Oc P f)(w:World) :
  (execOp ρ o).run P w=.ok (.enter f (vf++c.args.map ρ++vc)) w:=by
 simp only[execOp,ho,resolve,hc,hx,Deferred.ofValue,Sem.run_bind,Sem.run_pure,Result.andThen_ok,invoke,Dt hf]
theorem Od{l:List fq}{x:Nat×List AV}(h:mL .qW l=some x):∃f first lK l' vs,l=.val (.fn f first lK)::l'/\jt l'=some vs/\x=(f,first++vs++lK):=by
 unfold mL at h;split at h;rename_i heq;cases heq;rename_i f first lK l' _
 split at h;rename_i vs B8;cases h;exact⟨f,first,lK,l',vs,rfl,B8,rfl⟩;cases h;cases h
section
variable {S:Nat->Option aH}{O:lE}{dG:Array Oper}{n:Nat}{o:Oper}{so:aK}{a:Act}{η:Nat->fq}{bx gC:bF}{st bV:aj}{wl af:Nat}{e:fq}
theorem FS.after(hs:FS w G β a η bx st n)(h1:∀b,uT β a η bx st G n b<=1){cO:Nat->Nat}(hcO:∀b,cO b=pY (λt=>cL b (η t) (lR a t)) (qp so.args))(Yv:(qp so.args).Nodup)(hd:∀d,so.dst=some d->d<n){v:Value}
  (hA:kA w G β st bx cO w' G' gZ bV gC e v)(hB:gp so.op.bg β gZ)(Mo:∀j,so.op.bg=some j->∀t,so.dst≠some t->t ∉ qp so.args->(η t).pE j=true) :
  FS w' G' gZ (a.put so.dst v) (kC (jL η (qp so.args)) so.dst e) gC bV n/\Mv w G (uT β a η bx st G n) w' G' (uT gZ (a.put so.dst v) (kC (jL η (qp so.args)) so.dst e) gC bV G' n):=by
 have NY:∀t,lR (a.put so.dst v) t=if so.dst=some t then (if t<n then v else lR (a.put so.dst v) t) else lR a t:=by
  intro t;cases AQ:so.dst with
  |none=>simp[Act.put]|some d=>
   have hdn:=hd d AQ;have hdt:d<a.tmps.size:=Nat.lt_of_lt_of_le hdn hs.size;by_cases ht:d=t;subst ht;simp[Act.put,lR,hdn,hdt];simp[ht,Act.put,lR]
 have Ql:∀t,t<n->so.dst=some t->lR (a.put so.dst v) t=v:=λt h1 h2=>by rw[NY t,if_pos h2,if_pos h1]
 have I4:∀t,so.dst≠some t->lR (a.put so.dst v) t=lR a t:=λt h=>by rw[NY t,if_neg h]
 have Du:∀b,cO b+gX (λt=>if t∈qp so.args then 0 else cL b (η t) (lR a t)) n<=gX (λt=>cL b (η t) (lR a t)) n:=λb=>by
  rw[hcO];exact zx (λt ht=>by rw[hs.lt t ht];rfl) _ Yv
 have mh:∀b t,so.dst≠some t->t ∉ qp so.args->0<cL b (η t) (lR a t)->cO b+gT b β bx+cz b G.ls st=0:=by
  intro b t h2 h3 h4;have htn:t<n:=by
   rcases Nat.lt_or_ge t n with h|h;exact h;rw[hs.lt t h]at h4;simp[cL]at h4
  have h5:=vW (f:=λt=>if t∈qp so.args then 0 else cL b (η t) (lR a t)) htn;simp only[if_neg h3]at h5;have h6:=Du b;have h7:=h1 b;unfold uT at h7;omega
 have fR:∀t,so.dst≠some t->t ∉ qp so.args->kP w' G' gZ (η t) (lR a t):=λt h2 h3=>
  ((hs.tU t).jK hA.jK λb hb=>hA.vK b (mh b t h2 h3 hb) (F1 (hs.tU t) hb)).bx hB λj hj=>Mo j hj t h2 h3
 have hFS:FS w' G' gZ (a.put so.dst v) (kC (jL η (qp so.args)) so.dst e) gC bV n:=by
  refine⟨?_,?_,λt=>?_,λt ht=>?_,hA.inv,hA.box⟩;cases AQ:so.dst<;>simp[Act.put,hs.I2];cases AQ:so.dst<;>simp[Act.put,hs.size];simp only[kC,jL];by_cases h2:so.dst=some t;rw[if_pos h2,Ql t (hd t h2) h2];exact hA.tU;rw[if_neg h2,I4 t h2];by_cases h3:t∈qp so.args;rw[if_pos h3];trivial;rw[if_neg h3];exact fR t h2 h3;simp only[kC,jL];rw[if_neg (λh=>by have:=hd t h;omega)];rw[hs.lt t ht];simp
 have KG:∀b,uT gZ (a.put so.dst v) (kC (jL η (qp so.args)) so.dst e) gC bV G' n b<=uT β a η bx st G n b+(if w.heap.size<=b then 1 else 0):=by
  intro b;have h2:=hA.gu b;have h3:=Du b;have h4:gX (λt=>cL b (kC (jL η (qp so.args)) so.dst e t) (lR (a.put so.dst v) t)) n<=gX (λt=>if t∈qp so.args then 0 else cL b (η t) (lR a t)) n+cL b e v:=by
   cases AQ:so.dst with
   |none=>
    rw[AQ]at I4;have:gX (λt=>cL b (kC (jL η (qp so.args)) none e t) (lR (a.put none v) t)) n=gX (λt=>if t∈qp so.args then 0 else cL b (η t) (lR a t)) n:=oF λt _=>by
     rw[I4 t (by simp)];simp only[kC,jL];rw[if_neg (by simp)];split<;>rfl
    rw[this];omega
   |some d=>
    rw[AQ]at I4 Ql;have h5:=tA (f:=λt=>cL b (kC (jL η (qp so.args)) (some d) e t) (lR (a.put (some d) v) t)) (g:=λt=>if t∈qp so.args then 0 else cL b (η t) (lR a t)) (d:=d) (hd d AQ) λt ht=>by
     rw[I4 t (by simpa using λh=>ht h.symm)];simp only[kC,jL];rw[if_neg (by simpa using λh=>ht h.symm)];split<;>rfl
    have h6:cL b (kC (jL η (qp so.args)) (some d) e d) (lR (a.put (some d) v) d)=cL b e v:=by
     rw[Ql d (hd d AQ) rfl];simp[kC]
    rw[h6]at h5;omega
  unfold uT;omega
 refine⟨hFS,hA.jK,λb hb=>?_,λb=>?_,λb hb h0=>hA.vK b ?_ hb,hA.size,hA.os,hA.out⟩;have:=KG b;rw[if_neg (by omega)]at this;exact this;have h2:=KG b;by_cases hb:w.heap.size<=b;rw[if_pos hb]at h2;have h3:uT β a η bx st G n b=0:=by
  rcases Nat.eq_zero_or_pos (uT β a η bx st G n b) with h|h;exact h;have:=hs.held h;omega
 omega;rw[if_neg hb]at h2;have:=h1 b;omega;have h2:=Du b;unfold uT at h0;omega
theorem Qm{v:AV}{u:Value}{args:List AV}{vs:List Value}{cO:Nat->Nat}(hB:lH w G β bx)(hX:∀b,cO b+gT b β bx+cz b G.ls st<=1)(hc:∀b,cu b args vs<=cO b)(hr:bC w' G' v u)(hI':jQ w' G' bV)
  (hM:Mv w G (λb=>cu b args vs+cz b G.ls st) w' G' (λb=>gu b v u+cz b G'.ls bV)):kA w G β st bx cO w' G' β bV bx (.val v) u where
 jK:=hM.jK
 inv:=hI'
 box:=nw hB hM.jK λb hb=>hM.vK b (hB.held hb) (by have h1:=hX b;have h2:=hc b;omega)
 tU:=hr
 gu:=λb=>by
  simp only[cL];by_cases hb:w.heap.size<=b;rw[if_pos hb];have h1:=hM.one b;have h2:gT b β bx=0:=by
   rcases Nat.eq_zero_or_pos (gT b β bx) with h|h;exact h;have:=hB.held h;omega
  omega;rw[if_neg hb];have h1:=hM.gu b (by omega);have h2:=hc b;omega
 vK:=λb h0 hb=>hM.vK b hb (by have:=hc b;omega)
 size:=hM.size
 os:=hM.os
 out:=hM.out
theorem MD{Q:Exit->Act->World->Prop}{i:Nat}(hi:dG[i]?=some o)(hm:F3 S P dG n o so=true)(hO:jX S P O)(hs:FS w G β a η bx st n)(h1:∀b,uT β a η bx st G n b<=1){K:Act->World->Prop}{b:Bool}
  (hw:uo η so.guard=some b)
  (jy:b=false->∀(a':Act),FS w G β a' (kC η so.dst (.val .undef)) bx st n->Mv w G (uT β a η bx st G n) w G (uT β a' (kC η so.dst (.val .undef)) bx st G n)->K a' w)
  (ag2:b=true->∃e bV gC,tT O wl af so.op (so.args.map (AI η)) st bx=some (e,bV,gC)/\(∀j,so.op.bg=some j->∀t,so.dst≠some t->t ∉ qp so.args->(η t).pE j=true)/\
   ∀(w':World) (G':bp) (gZ:List m9) (a':Act),FS w' G' gZ a' (kC (jL η (qp so.args)) so.dst e) gC bV n->Mv w G (uT β a η bx st G n) w' G' (uT gZ a' (kC (jL η (qp so.args)) so.dst e) gC bV G' n)->K a' w') :
  wpOp P dG Q i K a w:=by
 unfold F3 at hm;simp only[Bool.and_eq_true]at hm;obtain⟨⟨⟨hm,hg⟩,hd0⟩,Yv⟩:=hm;have hd:∀d,so.dst=some d->d<n:=λd hd=>by rw[hd]at hd0;simpa using hd0
 have Yv:=w8 Yv;have AQ:o.dst=so.dst:=by
  unfold mOp at hm;rw[Bool.and_eq_true]at hm;have:=hm.1;split at this;rename_i h1 h2;simp only[beq_iff_eq]at this;rw[h1,h2,this];rename_i h1 h2;rw[h1,h2];cases this
 have acV:=Ob hg hs.tU hs.lt hs.size hw;unfold wpOp;rw[hi];simp only[acV];cases b with
 |false=>
  simp only[Bool.false_eq_true,if_false];rw[AQ];have hA:kA w G β st bx (λb=>pY (λt=>cL b (η t) (lR a t)) (qp ([]:List Src))) w G β st bx (.val .undef) undef:=kA.nR hs.inv hs.box .undef λb=>by simp[cL,gu]
  obtain⟨f1,f2⟩:=FS.after (so:=⟨so.dst,.move,[],none⟩) hs h1 (λb=>rfl) List.nodup_nil hd hA (gp.refl _ _) (λj hj=>by simp[eC.bg]at hj);have hk:jL η (qp ([]:List Src))=η:=by funext t;simp[jL,qp]
  simp only[hk]at f1 f2;exact jy rfl _ f1 f2
 |true=>
  obtain⟨e,bV,gC,ha,Mo,hK⟩:=ag2 rfl;simp only[if_true];refine .inl ?_;have hX:∀b,pY (λt=>cL b (η t) (lR a t)) (qp so.args)+gT b β bx+cz b G.ls st<=1:=λb=>by
   have h2:=zx (f:=λt=>cL b (η t) (lR a t)) (n:=n) (λt ht=>by rw[hs.lt t ht];rfl) _ Yv;have h3:=h1 b;unfold uT at h3;omega
  have hA:∀xs,iF xs so.args=true->lg w G β (so.args.map (AI η)) (xs.map a.eval)/\∀b,mD b (so.args.map (AI η)) (xs.map a.eval)<=pY (λt=>cL b (η t) (lR a t)) (qp so.args):=λxs hxs=>I3 hs.tU hxs;have plain:aV wl af so.op (so.args.map (AI η)) st bx=some (e,bV,gC)->o.wp P a w K Q:=by
   intro ha;obtain⟨nx,v,w',G',gZ,e1,e2,e3,e4⟩:=Ys hm hs.inv hs.box hX hA ha;obtain⟨f1,f2⟩:=FS.after hs h1 (λb=>rfl) Yv hd e3 e4 Mo;have hk:=hK w' G' gZ _ f1 f2;unfold Oper.wp;rw[e1];rcases e2 with rfl|⟨rfl,rfl⟩;rw[Oper.upon_value,AQ];exact hk;rw[Oper.upon_skip,AQ];exact hk
  have call:∀(f i:Nat) (vs:List AV) (us:List Value) (G0:Prop),gm O wl af (some (i,vs)) st bx=some (e,bV,gC)->cF w G vs us->(∀b,cu b vs us<=pY (λt=>cL b (η t) (lR a t)) (qp so.args))->so.op.bg=none->
    (∀sf,S i=some sf->(i<100000->sf.eM=i)->sf.eM=f)->(Oc P f->(execOp a.eval o).run P w=.ok (.enter f us.toArray) w)->o.wp P a w K Q:=by
   intro f i vs us _ hc fR Mn Qn hsf hex;unfold gm at hc;simp only at hc;split at hc;rename_i v kL ct;cases hc;obtain⟨sf,s1,s2,s3,s4⟩:=hO _ _ _ _ _ _ _ ct;have hf:=hsf sf s1 s3;rw[hf]at s2 s4;have Yw:=s4 w G us fR hs.inv λb=>by have h2:=hX b;have h3:=Mn b;omega
   unfold Oper.wp;rw[hex s2,Oper.upon_enter];refine Yw.mono λen w' hen=>?_;obtain⟨u,G',rfl,r1,r2,r3⟩:=hen;have hA1:=Qm hs.box hX Mn r1 r2 r3;obtain⟨f1,f2⟩:=FS.after hs h1 (λb=>rfl) Yv hd hA1 (gp.refl _ _) Mo;have hk:=hK w' G' β _ f1 f2;simp only;rw[AQ];exact hk;cases hc
  unfold tT at ha;split at ha;rename_i i W9;unfold mOp at hm;rw[Bool.and_eq_true]at hm;replace hm:=hm.2;rw[W9]at hm;simp only[mL]at ha;cases B8:jt (so.args.map (AI η)) with
  |none=>rw[B8]at ha;simp[gm]at ha|some vs=>
   rw[B8]at ha;split at hm<;>first|(rename_i h1 h2;cases h2;done)|(rename_i h2;cases h2;done)|(rename_i h1 h2;cases h1;done)|skip
   rename_i c i' Qo heq;cases heq;split at hm;rename_i f vU;simp only[Bool.and_eq_true]at hm;obtain⟨hms,hmf⟩:=hm;obtain⟨hR,hC⟩:=hA _ hms;obtain⟨r1,r2⟩:=hR.N6 B8;refine call f i vs _ True ha r1 (λb=>by rw[<-r2];exact hC b) (by rw[W9];rfl) (λsf h1 h2=>?_) λhF=>?_;rw[h1]at hmf;simpa using hmf;have:=F4 (ρ:=a.eval) Qo vU (show a.eval (.func f)=.func (.func f) #[] #[] from rfl) hF w;rw[this];congr 2;apply Array.ext';simp;cases hm;cases hm
  ·rename_i W9;unfold mOp at hm;rw[Bool.and_eq_true]at hm;replace hm:=hm.2;rw[W9]at hm;split at hm<;>first|(rename_i h1 h2;cases h2;done)|(rename_i h2;cases h2;done)|(rename_i h1 h2;cases h1;done)|skip
   ·rename_i c Qo heq;split at hm
    ·rename_i x vU;obtain⟨hR,hC⟩:=hA _ hm;cases Cz:mL .qW (so.args.map (AI η)) with
     |none=>rw[Cz]at ha;simp[gm]at ha|some y=>
      rw[Cz]at ha;obtain⟨f,first,lK,l,vs,W8,B8,rfl⟩:=Od Cz;rw[W8]at hR hC;simp only[List.map_cons]at hR hC;obtain⟨hR0,Ut⟩:=hR;obtain⟨r1,r2⟩:=lg.N6 Ut B8;simp only[kP]at hR0;generalize KA:a.eval x=xv at hR0 hC;cases hR0 with
      |fn _ _ _ vf vc hl hm' hn hh KJ=>
      refine call f f (first++vs++lK) (vf.toList++c.args.toList.map a.eval++vc.toList) True ha ((cF.append ⟨by simpa using hl,λi c v e1 e2=>hh i c v e1 (by simpa using e2)⟩ r1).append ⟨by simpa using hm',λi c v e1 e2=>KJ i c v e1 (by simpa using e2)⟩) (λb=>?_) (by rw[W9];rfl) (λsf h1 h2=>h2 hn.2.2) λhF=>?_;rw[gH b _ _ _ _ (by simp only[List.length_append,hl,r1.1];simp),gH b _ _ _ _ (by simpa using hl),eE b _ _ hn.1,eE b _ _ hn.2.1];have h2:=hC b;have h3:=r2 b;simp only[mD]at h2;omega;have:=F4 (ρ:=a.eval) Qo vU KA hF w;rw[this];congr 2;apply Array.ext';simp
    cases hm
   cases hm
  exact plain ha
end
end Ax
namespace Ax
open Go
variable {P:Program}{w w':World}{G G':bp}{β gZ:List m9}
variable {S:Nat->Option aH}{O:lE}{a:Act}{bx:bF}{st:aj}{n wl af:Nat}{s s':St}{η:Nat->fq}
abbrev FT(w:World)(G:bp)(β:List m9)(a:Act)(s:St)(n:Nat):Prop:=FS w G β a (di s.env) s.bx s.st n
abbrev hJ(β:List m9)(a:Act)(s:St)(G:bp)(n:Nat):Nat->Nat:=uT β a (di s.env) s.bx s.st G n
theorem FS.congr{Pq:Nat->fq}(h:FS w G β a η bx st n)(he:∀t,Pq t=η t):FS w G β a Pq bx st n:=by
 have:Pq=η:=funext he;rw[this];exact h
theorem FS.Qp{Pq:Nat->fq}(h:FS w G β a η bx st n)(he:∀t,Pq t=η t\/Pq t=.none):FS w G β a Pq bx st n/\∀b,uT β a Pq bx st G n b<=uT β a η bx st G n b:=by
 refine⟨⟨h.I2,h.size,λt=>?_,λt ht=>?_,h.inv,h.box⟩,λb=>?_⟩;rcases he t with e|e;rw[e];exact h.tU t;rw[e];trivial;rcases he t with e|e;rw[e];exact h.lt t ht;exact e;unfold uT;have:=CA (f:=λt=>cL b (Pq t) (lR a t)) (g:=λt=>cL b (η t) (lR a t)) (n:=n) λt _=>by
  rcases he t with e|e;rw[e];exact Nat.le_refl _;rw[e];simp[cL]
 omega
theorem kh(env:pX)(dst:Option Nat)(e:fq):di (zh env dst e)=kC (di env) dst e:=by
 funext t;cases dst with
 |none=>simp[zh,kC]|some d=>
  simp only[zh,kC,vV,Option.some.injEq];by_cases h:t=d;rw[if_pos h,if_pos h.symm];rw[if_neg h,if_neg λe=>h e.symm]
theorem uq(env:pX)(ss:List Src):di (ss.foldl oA env)=jL (di env) (qp ss):=by
 funext t;rw[tu]
 rfl
theorem Oe{dG:Array Oper}{o:Oper}{so:aK}{Q:Exit->Act->World->Prop}{i:Nat}(hi:dG[i]?=some o)(hm:F3 S P dG n o so=true)(hO:jX S P O)(hs:FT w G β a s n)(h1:∀b,hJ β a s G n b<=1){K:Act->World->Prop}
  (he:jd O wl af so s=some s')(hK:∀(w':World)(G':bp)(gZ:List m9)(a':Act),FT w' G' gZ a' s' n->Mv w G (hJ β a s G n) w' G' (hJ gZ a' s' G' n)->K a' w'):wpOp P dG Q i K a w:=by
 unfold jd at he;rw[F2]at he;split at he;cases he;rename_i hw;cases he;refine MD (wl:=wl) (af:=af) hi hm hO hs h1 hw (λ_ a' f1 f2=>?_) (λh=>by cases h);refine hK w G β a' ?_ ?_;rw[FT,kh];exact f1;rw[show hJ β a' { s with env:=zh s.env so.dst (.val .undef) } G n=uT β a' (kC (di s.env) so.dst (.val .undef)) s.bx s.st G n by rw[hJ,kh]];exact f2;rename_i hw;have ya:so.args.map (Kv s.env)=so.args.map (AI (di s.env)):=List.map_congr_left λx _=>CC s.env x;rw[ya]at he;split at he;cases he;rename_i e bV gC ha;have lG:∀(w':World) (G':bp) (gZ:List m9) (a':Act),s'=⟨zh (so.args.foldl oA s.env) so.dst e,gC,bV⟩->FS w' G' gZ a' (kC (jL (di s.env) (qp so.args)) so.dst e) gC bV n->
   Mv w G (uT β a (di s.env) s.bx s.st G n) w' G' (uT gZ a' (kC (jL (di s.env) (qp so.args)) so.dst e) gC bV G' n)->K a' w':=by
  intro w' G' gZ a' Cc f1 f2;subst Cc;refine hK w' G' gZ a' ?_ ?_;rw[FT,kh,uq];exact f1;rw[show hJ gZ a' ⟨zh (so.args.foldl oA s.env) so.dst e,gC,bV⟩ G' n=uT gZ a' (kC (jL (di s.env) (qp so.args)) so.dst e) gC bV G' n by rw[hJ,kh,uq]];exact f2
 split at he;rename_i Qn;cases he;exact MD hi hm hO hs h1 hw (λh=>by cases h) λ_=>⟨e,bV,gC,ha,(λj hj=>by rw[Qn]at hj;cases hj),λw' G' gZ a' f1 f2=>lG w' G' gZ a' rfl f1 f2⟩;rename_i j Qn;split at he;rename_i Mo;cases he;refine MD hi hm hO hs h1 hw (λh=>by cases h) λ_=>⟨e,bV,gC,ha,λj' hj t I0 Yn=>?_,λw' G' gZ a' f1 f2=>lG w' G' gZ a' rfl f1 f2⟩;rw[Qn]at hj;cases hj;have:=Dn Mo t;rw[kh,uq]at this;simp only[kC,jL]at this;rw[if_neg I0,if_neg Yn]at this;exact this;cases he
def rz(S:Nat->Option aH)(P:Program)(dG:Array Oper)(n:Nat):List Oper->List aK->Bool
 |[],[]=>true|o::l,so::m=>F3 S P dG n o so&&rz S P dG n l m|_,_=>false
theorem Dv{dG:Array Oper}{Q:Exit->Act->World->Prop}(hO:jX S P O):∀(l:List Oper)(m:List aK)(k:Nat)(w:World)(G:bp)(β:List m9)(a:Act)(s:St),dG.toList.drop k=l->rz S P dG n l m=true->
  FT w G β a s n->(∀b,hJ β a s G n b<=1)->gw O wl af m s=some s'->(∀(w':World) (G':bp) (gZ:List m9) (a':Act),FT w' G' gZ a' s' n->Mv w G (hJ β a s G n) w' G' (hJ gZ a' s' G' n)->Q .normal a' w')->
  wpOps P dG Q (List.range' k l.length) a w
 |[],[],k,w,G,β,a,s,hl,hm,hs,h1,he,hQ=>by
  simp only[gw,Option.some.injEq]at he;subst he;simp only[List.length_nil,List.range'_zero,wpOps];exact hQ w G β a hs (Mv.refl h1)
 |o::l,so::m,k,w,G,β,a,s,hl,hm,hs,h1,he,hQ=>by
  simp only[rz,Bool.and_eq_true]at hm;simp only[gw]at he;split at he;rename_i s1 I1;simp only[List.length_cons,List.range'_succ];rw[wpOps_cons];have hi:dG[k]?=some o:=by
   have:(dG.toList.drop k)[0]?=some o:=by rw[hl];rfl
   rw[List.getElem?_drop]at this;simpa using this
  refine Oe hi hm.1 hO hs h1 I1 λw1 G1 β1 a1 f1 f2=>?_;refine Dv hO l m (k+1) w1 G1 β1 a1 s1 ?_ hm.2 f1 f2.one he λw2 G2 Qq a2 g1 g2=>hQ w2 G2 Qq a2 g1 (f2.trans g2);rw[show k+1=k+1 from rfl,<-List.drop_drop,hl]
  rfl
  cases he
 |[],_::_,_,_,_,_,_,_,_,hm,_,_,_,_=>by simp[rz]at hm|_::_,[],_,_,_,_,_,_,_,hm,_,_,_,_=>by simp[rz]at hm
def yK(P:Program):List ResultVar->List iE->Bool
 |[],[]=>true|.tmp t::l,.tmp u _::m=>t==u&&yK P l m|.cell t ty::l,.box u _ n agg::m=>t==u&&dz P ty n&&nN P ty==some agg&&(agg||n==1)&&yK P l m|.cell t ty::l,.cell u n agg::m=>t==u&&dz P ty n&&nN P ty==some agg&&(agg||n==1)&&yK P l m|_,_=>false
def oH:List iE->List Nat
 |[]=>[]
 |.tmp t true::l=>t::oH l|_::l=>oH l
def Dw:List iE->List Nat
 |[]=>[]
 |.box _ j _ _::l=>j::Dw l|_::l=>Dw l
end Ax
namespace Ax
open Go
variable {P:Program}{w w':World}{G G':bp}{β gZ:List m9}
variable {a:Act}{bx:bF}{st:aj}{n:Nat}{s:St}
def Dx(tmps:Array Value):ResultVar->Sem Value
 |.tmp t=>pure (tmps.getD t undef)|.cell c t=>do loadVar t (<-asAddr (tmps.getD c undef))
def Of(us:List Value):Value:=match us with | [u]=>u|_=>.tuple us.toArray
theorem I5{fn:Func}{tmps:Array Value}{us:List Value}(h:(fn.results.toList.mapM (Dx tmps)).run P w=.ok us w):(results fn tmps).run P w=.ok (Of us) w:=by
 have h2:(fn.results.mapM (Dx tmps)).run P w=.ok us.toArray w:=by
  have e:fn.results.mapM (Dx tmps)=List.toArray <$> fn.results.toList.mapM (Dx tmps):=by
   rw[Array.mapM_eq_mapM_toList]
  rw[e,map_eq_pure_bind,Sem.run_bind,h]
  rfl
 have e3:results fn tmps=(fn.results.mapM (Dx tmps)).bind λvs=>Pure.pure (if h:vs.size=1 then vs[0] else .tuple vs):=rfl;rw[e3];show Sem.run P (fn.results.mapM (Dx tmps) >>= λvs=>Pure.pure (if h:vs.size=1 then vs[0] else .tuple vs)) w=_;rw[Sem.run_bind,h2];simp only[Result.andThen_ok,Sem.run_pure];congr 1;match us with
 |[]=>simp[Of]|[u]=>simp[Of]|_::_::_=>simp[Of]
def tC(b:Nat)(β:List m9)(bx:bF)(j:Nat):Nat:=match β[j]?,bx[j]? with|some g,some r=>cu b r g.vals|_,_=>0
theorem I6(b:Nat):∀(β:List m9)(bx:bF),gX (tC b β bx) bx.length<=gT b β bx
 |β,[]=>by simp[gX]|[],r::bx=>by
  have:gX (tC b [] (r::bx)) (r::bx).length=gX (λ_=>0) (r::bx).length:=oF λt _=>by simp[tC]
  rw[this,FX];omega
 |g::β,r::bx=>by
  have ih:=I6 b β bx;have shift:∀m,gX (tC b (g::β) (r::bx)) (m+1)=tC b (g::β) (r::bx) 0+gX (tC b β bx) m:=by
   intro m;induction m with
   |zero=>simp[gX]|succ m ih=>
    have:gX (tC b (g::β) (r::bx)) (m+1+1)=gX (tC b (g::β) (r::bx)) (m+1)+tC b (g::β) (r::bx) (m+1):=rfl;rw[this,ih];have e:tC b (g::β) (r::bx) (m+1)=tC b β bx m:=(by simp[tC]);rw[e];simp only[gX];omega
  simp only[List.length_cons];rw[shift];have e:tC b (g::β) (r::bx) 0=cu b r g.vals:=by simp[tC]
  rw[e];simp only[gT];omega
theorem cF.cons{a:AV}{as:List AV}{x:Value}{xs:List Value}(h:bC w G a x)(k:cF w G as xs):cF w G (a::as) (x::xs):=
 ⟨by simp[k.1],λi c v e1 e2=>by
  cases i with
  |zero=>simp at e1 e2;subst e1;subst e2;exact h|succ i=>exact k.2 i c v (by simpa using e1) (by simpa using e2)⟩
theorem BE{t:TypeId}{n:Nat}{agg:Bool}(hn:dz P t n=true)(sL:nN P t=some agg){b off:Nat}{xs:List Value}(hlen:xs.length=n)(mh:agg=false->n=1)
  (hc:∀(j:Nat) x,xs[j]?=some x->w.cell? ⟨b,off+j,none⟩=some x):(loadVar t ⟨b,off,none⟩).run P w=.ok (if agg then .agg xs.toArray else xs.headD undef) w:=by
 have:=C7 (P:=P) hn sL hlen mh hc;simpa [Instr.loadAt,Instr.sureAddr] using this
theorem F5(hs:FT w G β a s n):∀(l:List ResultVar)(rs:List iE)(vs:List AV),yK P l rs=true->yA s rs=some vs->
  ∃us,(l.mapM (Dx a.tmps)).run P w=.ok us w/\cF w G vs us/\∀b,cu b vs us<=pY (λt=>cL b (di s.env t) (lR a t)) (oH rs)+pY (tC b β s.bx) (Dw rs)
 |[],[],vs,_,hr=>by
  simp only[yA,Option.some.injEq]at hr;subst hr;exact⟨[],rfl,⟨rfl,λi c v h=>by simp at h⟩,λb=>by simp[cu]⟩
 |x::l,r::rs,vs,hm,hr=>by
  simp only[yA]at hr;split at hr;rename_i v vs' DA Yx;cases hr;have one:∃u,(Dx a.tmps x).run P w=.ok u w/\bC w G v u/\yK P l rs=true/\∀b,gu b v u+(pY (λt=>cL b (di s.env t) (lR a t)) (oH rs)+pY (tC b β s.bx) (Dw rs))<=
    pY (λt=>cL b (di s.env t) (lR a t)) (oH (r::rs))+pY (tC b β s.bx) (Dw (r::rs)):=by
   cases x with
   |tmp t=>
    cases r with
    |tmp u mv=>
     simp only[yK,Bool.and_eq_true,beq_iff_eq]at hm;obtain⟨rfl,hm⟩:=hm;simp only[CV]at DA;rw[CC]at DA;split at DA;rename_i v' hv;cases DA;have Fk:=hs.tU t;refine⟨lR a t,by simp[Dx],?_,hm,λb=>?_⟩;cases mv with
     |true=>simp only[AI]at hv;rw[hv]at Fk;exact Fk|false=>have:=Fk.view;simp only[AI]at hv;rw[hv]at this;exact this
     cases mv with
     |true=>simp only[AI]at hv;simp only[oH,Dw,pY,hv,cL];omega|false=>
      simp only[AI]at hv;have h0:=FD b (di s.env t) (lR a t);rw[hv]at h0;simp only[cL]at h0;simp only[oH,Dw];omega
     cases DA
    |box u j m agg=>simp[yK]at hm|cell u m agg=>simp[yK]at hm
   |cell t ty=>
    cases r with
    |tmp u mv=>simp[yK]at hm|box u j m agg=>
     simp only[yK,Bool.and_eq_true,beq_iff_eq]at hm;obtain⟨⟨⟨⟨rfl,hn⟩,sL⟩,mh⟩,hm⟩:=hm;simp only[CV]at DA;split at DA;rename_i i row Mo cZ;split at DA;rename_i Cb;simp only[Bool.and_eq_true,decide_eq_true_eq]at Cb;obtain⟨rfl,hlen⟩:=Cb;have hp:=hs.tU t;rw[Mo]at hp;obtain⟨g,b0,c,e,hg,gQ,G6,vh,iC,hle,jz,fA⟩:=G8 hs.box hp cZ;obtain⟨u,hu,k1,k2,_⟩:=Cw DA vh.tU;have hl:=BE (P:=P) hn sL (by rw[<-vh.tU.1];exact hlen) (λh=>by subst h;simpa using mh) (b:=b0) (off:=0) (λj x hx=>by rw[Nat.zero_add];exact fA j x hx);refine⟨u,?_,k1,hm,λb=>?_⟩;simp only[Dx,Sem.run_bind];rw[show a.tmps.getD t undef=.pointer (some ⟨b0,0,none⟩) from G6];simp only[asAddr,Sem.run_pure,Result.andThen_ok,hl,hu];rw[k2 b];simp only[oH,Dw,pY,tC,hg,cZ];omega;cases DA;cases DA
    |cell u m agg=>
     simp only[yK,Bool.and_eq_true,beq_iff_eq]at hm;obtain⟨⟨⟨⟨rfl,hn⟩,sL⟩,mh⟩,hm⟩:=hm;simp only[CV]at DA;split at DA;rename_i p Ug;split at DA;rename_i cs Dg;have hp:=hs.tU t;rw[Ug]at hp;obtain⟨b0,off,xs,g1,g2,g3,g4⟩:=ID hs.inv Dg hp;obtain⟨u,hu,k1,k2,_⟩:=Cw DA g3.view;have hl:=BE (P:=P) hn sL g2 (λh=>by subst h;simpa using mh) g4;refine⟨u,?_,k1,hm,λb=>?_⟩;simp only[Dx,Sem.run_bind];rw[show a.tmps.getD t undef=.pointer (some ⟨b0,off,none⟩) from g1];simp only[asAddr,Sem.run_pure,Result.andThen_ok,hl,hu];rw[k2 b,eE b _ _ (gD cs)];simp only[oH,Dw];omega;cases DA;cases DA
  obtain⟨u,h1,h2,h3,h4⟩:=one;obtain⟨us,k1,k2,k3⟩:=F5 hs l rs vs' h3 Yx;refine⟨u::us,?_,cF.cons h2 k2,λb=>?_⟩;rw[List.mapM_cons];simp only[Sem.run_bind,h1,Result.andThen_ok,k1,Sem.run_pure];have e1:=h4 b;have e2:=k3 b;simp only[cu];omega;cases hr
 |[],_::_,_,hm,_=>by simp[yK]at hm|x::_,[],_,hm,_=>by cases x<;>simp[yK]at hm
end Ax
namespace Ax
open Go
section
variable {K V:Type}
def pL(init:K->V)(zb:Nat->K->Option V)(D:Nat->Bool):Nat->K->V
 |0,x=>init x|k+1,x=>if D k then (zb k x).getD (pL init zb D k x) else pL init zb D k x
variable {init:K->V}{zb:Nat->K->Option V}
theorem ny{D D':Nat->Bool}{x:K}:∀{N:Nat},(∀k,k<N->D k≠D' k->zb k x=none)->pL init zb D N x=pL init zb D' N x
 |0,_=>rfl|N+1,h=>by
  have ih:=ny (N:=N) λk hk=>h k (by omega);have hN:=h N (by omega);simp only[pL,ih];cases h1:D N<;>cases h2:D' N
  rfl
  rw[hN (by rw[h1,h2];simp)];simp;rw[hN (by rw[h1,h2];simp)];simp
  rfl
theorem AR{D:Nat->Bool}{x:K}{j:Nat}:∀{N:Nat},j<=N->(∀k,j<=k->k<N->D k=true->zb k x=none)->pL init zb D N x=pL init zb D j x
 |0,hj,_=>by
  have:j=0:=by omega
  subst this;rfl
 |N+1,hj,h=>by
  by_cases hjN:j=N+1;subst hjN;rfl;have ih:=AR (N:=N) (j:=j) (by omega) λk h1 h2=>h k h1 (by omega);simp only[pL];cases hD:D N;simpa using ih;rw[h N (by omega) (by omega) hD];simpa using ih
theorem I7{D D':Nat->Bool}{x:K}{j N:Nat}(hj:j<N)(hD:D j=false)(hD':∀k,D' k=if k=j then true else D k)(h:∀k,j<k->k<N->D k=true->zb j x≠none->zb k x=none) :
  pL init zb D' N x=(zb j x).getD (pL init zb D N x):=by
 cases he:zb j x with
 |none=>
  simp only[Option.getD_none];refine ny λk hk jn=>?_;have:=hD' k;by_cases hkj:k=j;subst hkj;exact he;rw[if_neg hkj]at this;exact absurd this jn
 |some v=>
  simp only[Option.getD_some];have h1:pL init zb D' N x=pL init zb D' (j+1) x:=AR (by omega) λk h1 h2 h3=>by
   refine h k (by omega) h2 ?_ (by rw[he];simp);have:=hD' k;rw[if_neg (by omega)]at this;rw[<-this];exact h3
  rw[h1];have Yo:D' j=true:=by rw[hD' j,if_pos rfl]
  simp only[pL,Yo,if_true,he,Option.getD_some]
theorem AS{st:Nat->K->V}{N:Nat}(h0:∀x,st 0 x=init x)(hs:∀k,k<N->∀x,st (k+1) x=(zb k x).getD (st k x)):∀{j:Nat},j<=N->∀x,pL init zb (λk=>decide (k<j)) N x=st j x:=by
 have key:∀m,m<=N->∀x,pL init zb (λ_=>true) m x=st m x:=by
  intro m;induction m with
  |zero=>intro _ x;exact(h0 x).symm|succ m ih=>
   intro hm x;simp only[pL,if_true];rw[ih (by omega) x,hs m (by omega) x]
 intro j hj x;rw[AR (j:=j) hj λk h1 h2 h3=>by simp at h3;omega];rw[ny (D':=λ_=>true) λk hk jn=>by simp[hk]at jn];exact key j hj x
end
end Ax
namespace Ax
open Go
def eC.pW(S:Nat->Option aH):eC->Bool
 |.X8 .. | .alloc _|.box _|.store _|.jx .. | .Ct .. | .makeMap|.mapUpdate _|.CU _|.copy _|.qW=>true|.load _ _ take=>take|.sF _ _ _ mt=>mt|.call f=>match S f with|some sf=>(match sf.mode with|.pure=>false|_=>true)|none=>true
 |_=>false
def eC.KT:eC->Bool
 |.move|.pick|.rU _|.qj .. | .un _|.conv _|.Kw _|.nilCheck|.extract _|.field .. | .build .. | .lit .. | .fieldAddr _|.index|.fD .. | .jH .. | .bT .. | .qV .. | .append .. | .makeFunc .. | .GJ .. | .X9=>true|.sF _ _ _ mt=>!mt|_=>false
def eC.bA:eC->Option Nat
 |.fD j _ _ _|.jH j _|.bT j _|.qV j _=>some j|_=>none
def eC.bW:eC->Option Nat
 |.fD j _ _ take=>if take then some j else none
 |.jH j _|.bT j _|.qV j _=>some j|_=>none
variable {wl af:Nat}{st bV:aj}{bx gC:bF}{vals:List fq}{e:fq}{S:Nat->Option aH}{O:lE}{op:eC}
theorem Qr(hw:op.pW S=false)(h:aV wl af op vals st bx=some (e,bV,gC)):bV=st:=by
 cases op
 case load agg n take=>
  simp only[eC.pW]at hw;subst hw;unfold aV at h;simp only[Bool.false_eq_true,if_false]at h;repeat' split at h
  all_goals first|(cases h;rfl)|cases h
 case sF sz bytes zero mt=>
  simp only[eC.pW]at hw;subst hw;unfold aV at h;simp only[Bool.false_eq_true,if_false]at h;repeat' split at h
  all_goals first|(cases h;rfl)|cases h
 all_goals first
  |(simp[eC.pW]at hw;done)
  |(unfold aV at h;simp only at h;repeat' split at h)
 all_goals first|(cases h;rfl)|cases h
theorem Qs(hn:op.KT=true)(kO:aj):aV wl af op vals kO bx=(aV wl af op vals st bx).map λx=>(x.1,kO,x.2.2):=by
 cases op
 case sF sz bytes zero mt=>
  simp only[eC.KT,Bool.not_eq_true']at hn;subst hn;unfold aV;simp only[Bool.false_eq_true,if_false];repeat' split
  all_goals rfl
 all_goals first
  |(simp[eC.KT]at hn;done)
  |(unfold aV;(try unfold vA);simp only;repeat' split)
 all_goals first|rfl|simp_all
theorem I8(hb:op.bA=none)(yL:bF):aV wl af op vals st yL=(aV wl af op vals st bx).map λx=>(x.1,x.2.1,yL):=by
 cases op;all_goals first
  |(simp[eC.bA]at hb;done)
  |(unfold aV;(try unfold vA);simp only;repeat' split)
 all_goals first|rfl|simp_all
structure BF (S:Nat->Option aH)(O:lE):Prop where
 call:∀wl af f args st v bV sf,O.call wl af f args st=some (v,bV)->S f=some sf->sf.mode=.pure->bV=st
theorem I9(S:Nat->Option aH)(n:Nat):BF S (qk S n):=by
 refine⟨λwl af f args st v bV sf h hS hm=>?_⟩;cases n with
 |zero=>simp[qk]at h|succ n=>
  simp only[qk,hS]at h;unfold fQ at h;split at h;simp only[Option.map_eq_some_iff]at h;obtain⟨x,_,hx⟩:=h;cases hx
  rfl
  unfold eZ at h;split at h;split at h;split at h;rw[hm]at h;simp only[Mode.lG]at h;split at h;cases h;rfl;cases h;cases h;cases h;cases h
theorem ME(hO:BF S O)(hw:op.pW S=false)(h:tT O wl af op vals st bx=some (e,bV,gC)):bV=st:=by
 unfold tT at h;split at h;rename_i f;simp only[eC.pW]at hw;split at hw;rename_i sf hsf;split at hw;rename_i hm;unfold gm at h;split at h;rename_i f' vs hc;have hf:f'=f:=by
  simp only[mL]at hc;split at hc;cases hc;rfl;cases hc
 subst hf;split at h;rename_i ct;cases h;exact hO.call _ _ _ _ _ _ _ _ ct hsf hm;cases h;cases h;cases hw;cases hw;simp[eC.pW]at hw;exact Qr hw h
theorem Ux(hn:op.KT=true)(kO:aj)(h:tT O wl af op vals st bx=some (e,bV,gC)):tT O wl af op vals kO bx=some (e,kO,gC):=by
 unfold tT at h ⊢;split at h;simp[eC.KT]at hn;simp[eC.KT]at hn;rename_i h1 h2;rw[Qs hn kO,h];rfl
theorem Hl(hb:op.bA=none)(yL:bF)(h:tT O wl af op vals st bx=some (e,bV,gC)):gC=bx/\tT O wl af op vals st yL=some (e,bV,yL):=by
 have call:∀x,gm O wl af x st bx=some (e,bV,gC)->gC=bx/\gm O wl af x st yL=some (e,bV,yL):=by
  intro x h;unfold gm at h ⊢;split at h;rename_i f vs;cases hc:O.call wl af f vs st with
  |none=>rw[hc]at h;cases h|some y=>rw[hc]at h;cases h;exact⟨rfl,rfl⟩
  cases h
 unfold tT at h ⊢;split at h;exact call _ h;exact call _ h;rename_i h1 h2;have e1:=I8 (wl:=wl) (af:=af) (vals:=vals) (st:=st) (bx:=bx) hb bx;rw[h]at e1;simp only[Option.map_some,Option.some.injEq,Prod.mk.injEq,true_and]at e1;refine⟨e1,?_⟩;rw[I8 hb yL,h];rfl
theorem Ja{yL:bF}(hl:yL.length=bx.length)(ha:∀b,op.bA=some b->yL[b]?=bx[b]?)(h:tT O wl af op vals st bx=some (e,bV,gC)) :
  ∃Uy,tT O wl af op vals st yL=some (e,bV,Uy)/\gC.length=bx.length/\Uy.length=yL.length/\(∀b,op.bW=some b->Uy[b]?=gC[b]?)/\(∀b,op.bW≠some b->Uy[b]?=yL[b]?)/\(∀b,op.bW≠some b->gC[b]?=bx[b]?):=by
 cases hb:op.bA with
 |none=>
  obtain⟨rfl,e2⟩:=Hl hb yL h;refine⟨yL,e2,rfl,rfl,λb h=>?_,λ_ _=>rfl,λ_ _=>rfl⟩;cases op<;>simp_all [eC.bA,eC.bW]
 |some j=>
  have hj:=ha j hb;have MF:∀(row:List AV),j<bx.length->(bx.set j row).length=bx.length/\(yL.set j row).length=yL.length/\(yL.set j row)[j]?=(bx.set j row)[j]?/\(∀b,j≠b->(yL.set j row)[b]?=yL[b]?)/\(∀b,j≠b->(bx.set j row)[b]?=bx[b]?):=by
   intro row aW;refine⟨by simp,by simp,?_,λb hb=>?_,λb hb=>?_⟩;rw[List.getElem?_set,List.getElem?_set,if_pos rfl,if_pos rfl,if_pos aW,if_pos (by omega)];rw[List.getElem?_set,if_neg hb];rw[List.getElem?_set,if_neg hb]
  cases op<;>simp only[eC.bA]at hb<;>try cases hb
  case some.fD.refl agg n take=>
   simp only[tT]at h ⊢;unfold aV at h ⊢;simp only at h ⊢;split at h;rename_i j' k;split at h;rename_i Yo;subst Yo;split at h;rename_i row cZ;have aW:=(List.getElem?_eq_some_iff.1 cZ).1;rw[if_pos rfl,hj,cZ];simp only;split at h;rename_i cs Qf;cases take with
   |true=>
    simp only[if_true]at h ⊢;split at h;rename_i v hv;cases h;obtain⟨a1,a2,a3,a4,a5⟩:=MF (ag row k (cs.map AV.dJ)) aW;exact⟨_,rfl,a1,a2,λb hb=>by simp[eC.bW]at hb;subst hb;exact a3,λb hb=>a4 b (by simpa [eC.bW] using hb),λb hb=>a5 b (by simpa [eC.bW] using hb)⟩;cases h
   |false=>
    simp only[Bool.false_eq_true,if_false]at h ⊢;split at h;rename_i v hv;cases h;exact⟨_,rfl,rfl,rfl,λb hb=>by simp[eC.bW]at hb,λ_ _=>rfl,λ_ _=>rfl⟩;cases h
   cases h;cases h;cases h;cases h
  case some.jH.refl n=>
   simp only[tT]at h ⊢;unfold aV at h ⊢;simp only at h ⊢;split at h;rename_i j' k v;split at h;rename_i hc;have Yo:j=j':=(by simp only[Bool.and_eq_true,decide_eq_true_eq]at hc;exact hc.1.1);split at h;rename_i row cZ;have aW:=(List.getElem?_eq_some_iff.1 cZ).1;rw[if_pos hc,hj,cZ];simp only;split at h;rename_i cJ;cases h;rw[if_pos cJ];obtain⟨a1,a2,a3,a4,a5⟩:=MF (ag row k v.cells) aW;exact⟨_,rfl,a1,a2,λb hb=>by simp[eC.bW]at hb;subst hb;exact a3,λb hb=>a4 b (by simpa [eC.bW] using hb),λb hb=>a5 b (by simpa [eC.bW] using hb)⟩;cases h;cases h;cases h;cases h
  case some.bT.refl zero=>
   simp only[tT]at h ⊢;unfold aV at h ⊢;simp only at h ⊢;split at h;split at h;rename_i aW;cases h;rw[if_pos (by omega)];obtain⟨a1,a2,a3,a4,a5⟩:=MF zero aW;exact⟨_,rfl,a1,a2,λb hb=>by simp[eC.bW]at hb;subst hb;exact a3,λb hb=>a4 b (by simpa [eC.bW] using hb),λb hb=>a5 b (by simpa [eC.bW] using hb)⟩;cases h;cases h
  case some.qV.refl n=>
   simp only[tT]at h ⊢;unfold aV at h ⊢;simp only at h ⊢;split at h;rename_i v;split at h;rename_i hc;have Il:=hc;simp only[Bool.and_eq_true,decide_eq_true_eq]at Il;cases h;rw[if_pos (by simp only[Bool.and_eq_true,decide_eq_true_eq];exact⟨⟨by omega,Il.1.2⟩,Il.2⟩)];obtain⟨a1,a2,a3,a4,a5⟩:=MF v.cells Il.1.1;exact⟨_,rfl,a1,a2,λb hb=>by simp[eC.bW]at hb;subst hb;exact a3,λb hb=>a4 b (by simpa [eC.bW] using hb),λb hb=>a5 b (by simpa [eC.bW] using hb)⟩;cases h;cases h
theorem Yy{b:Nat}(h:tT O wl af op vals st bx=some (e,bV,gC))(hv:∀x∈vals,x.pE b=true)(hn:op.bg≠some b):e.pE b=true:=by
 have call:∀x,gm O wl af x st bx=some (e,bV,gC)->e.pE b=true:=by
  intro x h;unfold gm at h;repeat' split at h
  all_goals first|(cases h;rfl)|cases h
 have val:∀a:AV,(fq.val a).pE b=true:=λ_=>rfl;unfold tT at h;split at h;exact call _ h;exact call _ h
 ·cases op
  case move=>
   unfold aV at h;simp only at h;split at h;cases h;exact hv _ (by simp);cases h
  case pick=>
   unfold aV at h;simp only at h;split at h;rename_i c x y;cases h;cases c;exact hv _ (by simp);exact hv _ (by simp);cases h
  case nilCheck=>
   unfold aV at h;simp only at h;split at h;cases h;exact hv _ (by simp);split at h<;>first|(cases h;rfl)|cases h
   cases h
  case fieldAddr off=>
   unfold aV at h;simp only at h;split at h;rename_i j k;cases h;have:=hv (.fp j k) (by simp);simpa [fq.pE] using this;cases h;rfl;cases h;rfl;cases h
  case bT j zero=>
   unfold aV at h;simp only at h;split at h;split at h;cases h;simp only[eC.bg,ne_eq,Option.some.injEq]at hn;simpa [fq.pE] using hn;cases h;cases h
  case qV j n=>
   unfold aV at h;simp only at h;split at h;split at h;cases h;simp only[eC.bg,ne_eq,Option.some.injEq]at hn;simpa [fq.pE] using hn;cases h;cases h
  all_goals
   unfold aV at h
   (try unfold vA at h)
   simp only at h;repeat' split at h
  all_goals first|(cases h;rfl)|cases h
end Ax
namespace Ax
open Go
def oI(o:Oper):List Nat:=(o.after.toList.filter (Region.binds .any)).map (·.on)
def bms:List Oper->List Nat->List Nat
 |[],acc=>acc|o::l,acc=>bms l (acc++[(oI o).foldl (λm p=>m ||| (1 <<< p) ||| acc.getD p 0) 0])
def bef(bm:List Nat)(i j:Nat):Bool:=(bm.getD j 0).testBit i
def rA(so:aK):List Nat:=so.dst.toList++qp so.args
def Uz:List Src->List Nat
 |[]=>[]
 |.tmp t _::l=>t::Uz l|_::l=>Uz l
def yM(so:aK):List Nat:=Uz so.args++(match so.guard with|some (t,_)=>[t]|none=>[])
def lu(S:Nat->Option aH)(cn:List (Nat×Nat))(i j:Nat)(a b:aK):Bool:=
 (rA a).all (λt=>!(yM b).contains t && !(rA b).contains t)&&(rA b).all (λt=>!(yM a).contains t) &&
 (match a.op.bW with|some x=>b.op.bA != some x|none=>true)&&(match b.op.bW with|some x=>a.op.bA != some x|none=>true) &&
 (!(a.op.pW S&&b.op.pW S)||cn.contains (100000+i,j))&&(a.op.KT || !(b.op.pW S)||a.op.pW S||cn.contains (i,j))&&(b.op.KT || !(a.op.pW S)||b.op.pW S||cn.contains (j,i))
def DB(n:Nat)(f:Nat->Nat->Bool):Bool:=(List.range n).all λj=>(List.range j).all λi=>f i j
def CD:eC->Bool
 |.store _=>true|_=>false
def Xa(S:Nat->Option aH)(m:List aK)(cn:List (Nat×Nat)):Nat×Nat->Bool
 |(c,q)=>if 100000<=c&&decide (c<200000) then
   let p:=c-100000
   (match m[p]?,m[q]? with|some a,some b=>CD a.op&&CD b.op&&a.guard.isNone&&b.guard.isNone|_,_=>false) &&
   decide (p<q)&&(List.range (q-p-1)).all (λd=>match m[p+1+d]? with|some o=>!(o.op.pW S)|none=>false) &&
   cn.all (λx=>decide (100000<=x.1) || !(x.2==p||x.2==q)||cn.contains (100000*(x.1+2)+p,q)) &&
   cn.all (λx=>!(decide (100000<=x.1)&&decide (x.1<200000))||(x.1==c&&x.2==q))
  else true
def MG(S:Nat->Option aH)(P:Program)(dG:Array Oper)(n:Nat)(m:List aK)(cn:List (Nat×Nat)):Bool:=
 let bm:=bms dG.toList []
 P.follows .mixedOrders&&rz S P dG n dG.toList m&&(decide (dG.size<100000)&&cn.all (Xa S m cn)) &&
 (List.range dG.size).all (λj=>match dG[j]? with
  |some o=>(oI o).all (λp=>decide (p<j))&&(List.range dG.size).all λi=>!bef bm i j||(oI o).any λp=>i==p||bef bm i p
  |none=>true) &&
 DB dG.size (λi j=>match m[i]?,m[j]? with
  |some a,some b=>(bef bm i j||lu S cn i j a b)&&(match a.op.bg,b.op.bg with|some x,some y=>x != y|_,_=>true)|_,_=>true)
theorem v7{n:Nat}{f:Nat->Nat->Bool}(h:DB n f=true){i j:Nat}(h1:i<j)(h2:j<n):f i j=true:=by
 simp only[DB,List.all_eq_true,List.mem_range]at h;exact h j h2 i h1
end Ax
namespace Ax
open Go
variable {S:Nat->Option aH}{P:Program}{dG:Array Oper}{n:Nat}{m:List aK}{cn:List (Nat×Nat)}
theorem DC:∀{l:List Oper}{m:List aK},rz S P dG n l m=true->l.length=m.length/\∀(i:Nat) o so,l[i]?=some o->m[i]?=some so->F3 S P dG n o so=true
 |[],[],_=>⟨rfl,λi o so h=>by simp at h⟩
 |o::l,so::m,h=>by
  simp only[rz,Bool.and_eq_true]at h;obtain⟨e1,e2⟩:=DC h.2;refine⟨by simp[e1],λi o' so' h1 h2=>?_⟩;cases i with
  |zero=>simp at h1 h2;subst h1;subst h2;exact h.1|succ i=>exact e2 i o' so' (by simpa using h1) (by simpa using h2)
 |[],_::_,h=>by simp[rz]at h|_::_,[],h=>by simp[rz]at h
def Qt(dG:Array Oper)(D:Nat->Bool):Prop:=∀(j:Nat) o,dG[j]?=some o->D j=true->∀p∈oI o,D p=true
structure Xb (S:Nat->Option aH)(P:Program)(dG:Array Oper)(n:Nat)(m:List aK)(cn:List (Nat×Nat)):Prop where
 fol:P.follows .mixedOrders=true
 len:m.length=dG.size
 get:∀(i:Nat) o so,dG[i]?=some o->m[i]?=some so->F3 S P dG n o so=true
 lt:∀(j:Nat) o,dG[j]?=some o->∀p∈oI o,p<j
 apA:∀(D:Nat->Bool),Qt dG D->∀(j:Nat) o,dG[j]?=some o->(∀p∈oI o,D p=true)->∀(k:Nat) a b,k<j->D k=false->m[k]?=some a->m[j]?=some b->lu S cn k j a b=true
 apB:∀(D:Nat->Bool),Qt dG D->∀(j k:Nat) a b,j<k->D j=false->D k=true->m[j]?=some a->m[k]?=some b->lu S cn j k a b=true
 F6:m.length<100000
 xt:∀p q,p<100000->(100000+p,q)∈cn->p<q/\(∃a b,m[p]?=some a/\m[q]?=some b/\CD a.op=true/\CD b.op=true/\a.guard=none/\b.guard=none)/\(∀(j:Nat) o,p<j->j<q->m[j]?=some o->o.op.pW S=false)/\
  (∀k w,(k,w)∈cn->k<100000->w=p\/w=q->(100000*(k+2)+p,q)∈cn)/\∀i j,i<100000->(100000+i,j)∈cn->i=p/\j=q
 Xc:∀(i j:Nat) a b x,i<j->m[i]?=some a->m[j]?=some b->a.op.bg=some x->b.op.bg≠some x
theorem Qu(h:MG S P dG n m cn=true):Xb S P dG n m cn:=by
 unfold MG at h;simp only[Bool.and_eq_true,List.all_eq_true,List.mem_range]at h;obtain⟨⟨⟨⟨h1,h2⟩,h5,h6⟩,h3⟩,h4⟩:=h;obtain⟨e1,e2⟩:=DC h2;have hlen:m.length=dG.size:=by rw[<-e1];simp
 have aW:∀(j:Nat) o,dG[j]?=some o->∀p∈oI o,p<j:=λj o ho p hp=>by
  have:=h3 j (Array.getElem?_eq_some_iff.1 ho).1;rw[ho]at this;simp only[Bool.and_eq_true,List.all_eq_true,decide_eq_true_eq]at this;exact this.1 p hp
 have Mm:∀(D:Nat->Bool),Qt dG D->∀(j:Nat) o,dG[j]?=some o->(∀p∈oI o,D p=true)->∀i,i<dG.size->bef (bms dG.toList []) i j=true->D i=true:=by
  intro D hD j;induction j using Nat.strongRecOn with
  |_ j ih=>
   intro o ho hp i hi hb;have:=h3 j (Array.getElem?_eq_some_iff.1 ho).1;rw[ho]at this;simp only[Bool.and_eq_true,List.all_eq_true,List.mem_range,Bool.or_eq_true,Bool.not_eq_true',List.any_eq_true,beq_iff_eq]at this;rcases this.2 i hi with h5|⟨p,UA,h6⟩;rw[hb]at h5;cases h5;rcases h6 with rfl|h6;exact hp i UA;have hpj:=aW j o ho p UA;have Qv:p<dG.size:=(by have:=(Array.getElem?_eq_some_iff.1 ho).1;omega);have W9:dG[p]?=some dG[p]:=(by simp[Qv]);exact ih p hpj dG[p] W9 (λq hq=>hD p dG[p] W9 (hp p UA) q hq) i hi h6
 refine⟨h1,hlen,λi o so ho hso=>e2 i o so (by simpa using ho) hso,aW,λD hD j o ho hp k a b hk hDk ha hb=>?_,λD hD j k a b tV hDj hDk ha hb=>?_,by rw[hlen];simpa using h5,λp q hp TO=>?_,λi j a b x Cb ha hb hx hy=>?_⟩;have hj:=(Array.getElem?_eq_some_iff.1 ho).1;have:=v7 h4 hk hj;rw[ha,hb]at this;simp only[Bool.and_eq_true,Bool.or_eq_true]at this;rcases this.1 with h5|h5;rw[Mm D hD j o ho hp k (by omega) h5]at hDk;cases hDk;exact h5;have hk:k<dG.size:=by rw[<-hlen];exact(List.getElem?_eq_some_iff.1 hb).1
 have:=v7 h4 tV hk;rw[ha,hb]at this;simp only[Bool.and_eq_true,Bool.or_eq_true]at this;have F7:dG[k]?=some dG[k]:=by simp[hk]
 rcases this.1 with h5|h5;rw[Mm D hD k dG[k] F7 (hD k dG[k] F7 hDk) j (by omega) h5]at hDj;cases hDj;exact h5;have:=h6 _ TO;simp only[Xa]at this;rw[if_pos (by simp;omega)]at this;simp only[Nat.add_sub_cancel_left,Bool.and_eq_true,decide_eq_true_eq,List.all_eq_true,List.mem_range,Bool.or_eq_true,Bool.not_eq_true',Bool.or_eq_false_iff,List.contains_eq_mem,Prod.forall,Bool.and_eq_false_iff,beq_iff_eq,beq_eq_false_iff_ne,decide_eq_false_iff_not]at this;obtain⟨⟨⟨⟨t1,t2⟩,t3⟩,t4⟩,t5⟩:=this;refine⟨t2,?_,λj o vk DD ho=>?_,λk w hk Pr hw=>?_,λi j hi Cb=>?_⟩;split at t1;rename_i a b ha hb;simp only[Bool.and_eq_true,Option.isNone_iff_eq_none]at t1;exact⟨a,b,ha,hb,t1.1.1.1,t1.1.1.2,t1.1.2,t1.2⟩;cases t1;have:=t3 (j-p-1) (by omega);rw[show p+1+(j-p-1)=j by omega,ho]at this;simpa using this;rcases t4 k w hk with (h|h)|h;omega;exfalso;rcases hw with e|e
 exact h.1 e;exact h.2 e;exact h;rcases t5 _ _ Cb with h|h;omega;exact⟨by omega,h.2⟩;have hj:j<dG.size:=by rw[<-hlen];exact(List.getElem?_eq_some_iff.1 hb).1
 have:=v7 h4 Cb hj;rw[ha,hb]at this;simp only[Bool.and_eq_true]at this;have h5:=this.2;rw[hx,hy]at h5;simp at h5
end Ax
namespace Ax
open Go
variable {S:Nat->Option aH}{P:Program}{O:lE}{wl af:Nat}
theorem BG:∀{m:List aK}{s e:St}{ga:List St},dS O wl af m s=some (e,ga)->
  ga.length=m.length+1/\ga[0]?=some s/\ga[m.length]?=some e/\∀(i:Nat) so,m[i]?=some so->∃x y,ga[i]?=some x/\ga[i+1]?=some y/\jd O wl af so x=some y
 |[],s,e,ga,h=>by
  simp only[dS,Option.some.injEq,Prod.mk.injEq]at h;obtain⟨rfl,rfl⟩:=h;exact⟨rfl,rfl,rfl,λi so h=>by simp at h⟩
 |o::m,s,e,ga,h=>by
  simp only[dS]at h;split at h;rename_i s1 I1;split at h;rename_i e' l' hr;cases h;obtain⟨h1,h2,h3,h4⟩:=BG hr;refine⟨by simp[h1],rfl,by simpa using h3,λi so hi=>?_⟩;cases i with
  |zero=>simp at hi;subst hi;exact⟨s,s1,rfl,by simpa using h2,I1⟩|succ i=>
   obtain⟨x,y,a1,a2,a3⟩:=h4 i so (by simpa using hi);exact⟨x,y,by simpa using a1,by simpa using a2,a3⟩
  cases h;cases h
structure Yz (S:Nat->Option aH)(O:lE)(wl af:Nat)(so:aK)(s t:St):Prop where
 vK:∀u,u ∉ rA so->di t.env u=di s.env u
 ag7:∀b,so.op.bW≠some b->t.bx[b]?=s.bx[b]?
 UB:t.bx.length=s.bx.length
 YA:so.op.pW S=false->t.st=s.st
 non:o5 s.env so.guard=some false->di t.env=kC (di s.env) so.dst (.val .undef)/\t.bx=s.bx/\t.st=s.st
 yes:o5 s.env so.guard=some true->∃e,tT O wl af so.op (so.args.map (Kv s.env)) s.st s.bx=some (e,t.st,t.bx)/\di t.env=kC (jL (di s.env) (qp so.args)) so.dst e
 wan:o5 s.env so.guard≠none
theorem ag8{so:aK}{s t:St}(hO:BF S O)(h:jd O wl af so s=some t):Yz S O wl af so s t:=by
 unfold jd at h;split at h;cases h;rename_i hw;cases h;refine⟨λu hu=>?_,λ_ _=>rfl,rfl,λ_=>rfl,λ_=>⟨kh _ _ _,rfl,rfl⟩,λh=>(by rw[hw]at h;cases h),(by rw[hw];simp)⟩;simp only[rA,List.mem_append,Option.mem_toList,not_or]at hu;rw[kh];simp only[kC];rw[if_neg hu.1];rename_i hw;split at h;cases h;rename_i e bV gC ha;have lG:t=⟨zh (so.args.foldl oA s.env) so.dst e,gC,bV⟩->Yz S O wl af so s t:=by
  intro ht;subst ht;have he:di (zh (so.args.foldl oA s.env) so.dst e)=kC (jL (di s.env) (qp so.args)) so.dst e:=by rw[kh,uq]
  have hb:(∀b,so.op.bW≠some b->gC[b]?=s.bx[b]?)/\gC.length=s.bx.length:=by
   obtain⟨yL,h1,h2,h3,h4,h5,h6⟩:=Ja (yL:=s.bx) rfl (λ_ _=>rfl) ha;exact⟨h6,h2⟩
  refine⟨λu hu=>?_,hb.1,hb.2,λhW=>ME hO hW ha,λh=>(by rw[hw]at h;cases h),λ_=>⟨e,ha,he⟩,(by rw[hw];simp)⟩;simp only[rA,List.mem_append,Option.mem_toList,not_or]at hu;show di (zh (so.args.foldl oA s.env) so.dst e) u=_;rw[he];simp only[kC,jL];rw[if_neg hu.1,if_neg hu.2]
 split at h;cases h;exact lG rfl;split at h;cases h;exact lG rfl;cases h
structure Text (S:Nat->Option aH)(O:lE)(wl af:Nat)(m:List aK)(T:Nat->St):Prop where
 one:∀(i:Nat) so,m[i]?=some so->Yz S O wl af so (T i) (T (i+1))
def KU(m:List aK)(T:Nat->St)(k:Nat)(t:Nat):Option fq:=match m[k]? with
 |some so=>if t∈rA so then some (di (T (k+1)).env t) else none
 |none=>none
def KW(m:List aK)(T:Nat->St)(k:Nat)(b:Nat):Option (Option (List AV)):=match m[k]? with
 |some so=>if so.op.bW=some b then some ((T (k+1)).bx[b]?) else none
 |none=>none
def KX(S:Nat->Option aH)(m:List aK)(T:Nat->St)(k:Nat)(_:Unit):Option aj:=match m[k]? with
 |some so=>if so.op.pW S=true then some (T (k+1)).st else none
 |none=>none
abbrev vT(m:List aK)(T:Nat->St)(D:Nat->Bool)(t:Nat):fq:=pL (di (T 0).env) (KU m T) D m.length t
abbrev vB(m:List aK)(T:Nat->St)(D:Nat->Bool)(b:Nat):Option (List AV):=pL (λb=>(T 0).bx[b]?) (KW m T) D m.length b
abbrev vS(S:Nat->Option aH)(m:List aK)(T:Nat->St)(D:Nat->Bool):aj:=pL (λ_=>(T 0).st) (KX S m T) D m.length ()
section
variable {m:List aK}{T:Nat->St}
theorem Qw(h:Text S O wl af m T){j:Nat}(hj:j<=m.length)(t:Nat):vT m T (λk=>decide (k<j)) t=di (T j).env t:=by
 refine AS (st:=λk t=>di (T k).env t) (λ_=>rfl) (λk hk x=>?_) hj t;have hs:m[k]?=some m[k]:=List.getElem?_eq_getElem hk;simp only[KU,hs];split
 rfl
 rename_i hx;exact(h.one k _ hs).vK x hx
theorem Qx(h:Text S O wl af m T){j:Nat}(hj:j<=m.length)(b:Nat):vB m T (λk=>decide (k<j)) b=(T j).bx[b]?:=by
 refine AS (st:=λk b=>(T k).bx[b]?) (λ_=>rfl) (λk hk x=>?_) hj b;have hs:m[k]?=some m[k]:=List.getElem?_eq_getElem hk;simp only[KW,hs];split
 rfl
 rename_i hx;exact(h.one k _ hs).ag7 x hx
theorem Qy(h:Text S O wl af m T){j:Nat}(hj:j<=m.length):vS S m T (λk=>decide (k<j))=(T j).st:=by
 refine AS (st:=λk (_:Unit)=>(T k).st) (λ_=>rfl) (λk hk x=>?_) hj ();have hs:m[k]?=some m[k]:=List.getElem?_eq_getElem hk;simp only[KX,hs];split
 rfl
 rename_i hx;exact(h.one k _ hs).YA (by simpa using hx)
theorem MH(D:Nat->Bool):∀(N:Nat),N<=m.length->∃p,p<=N/\pL (λ_=>(T 0).st) (KX S m T) D N ()=(T p).st/\
  (p=0\/∃q so,p=q+1/\m[q]?=some so/\D q=true/\so.op.pW S=true)/\∀(j:Nat) so,p<=j->j<N->m[j]?=some so->so.op.pW S=true->D j=false
 |0,_=>⟨0,Nat.le_refl _,rfl,.inl rfl,λj so h1 h2=>by omega⟩
 |N+1,hN=>by
  obtain⟨p,h1,h2,h3,h4⟩:=MH D N (by omega);have hs:m[N]?=some m[N]:=List.getElem?_eq_getElem (by omega);by_cases hD:D N=true/\(m[N]).op.pW S=true;refine⟨N+1,Nat.le_refl _,?_,.inr ⟨N,m[N],rfl,hs,hD.1,hD.2⟩,λj so h5 h6=>by omega⟩;simp only[pL,hD.1,KX,hs,if_true,hD.2,Option.getD_some];refine⟨p,by omega,?_,h3,λj so h5 h6 h7 h8=>?_⟩;simp only[pL];cases hDN:D N with
  |false=>simpa using h2|true=>
   have:¬(m[N]).op.pW S=true:=λh=>hD ⟨hDN,h⟩;simp only[KX,hs,if_true];rw[if_neg this];simpa using h2
  by_cases hj:j=N;subst hj;rw[hs]at h7;cases h7;cases hDN:D j with
  |false=>rfl|true=>exact absurd ⟨hDN,h8⟩ hD
  exact h4 j so h5 (by omega) h7 h8
theorem zB(h:Text S O wl af m T){p:Nat}:∀(d:Nat),p+d<=m.length->(∀(j:Nat) so,p<=j->j<p+d->m[j]?=some so->so.op.pW S=false)->(T (p+d)).st=(T p).st
 |0,_,_=>rfl|d+1,hd,hn=>by
  have hs:m[p+d]?=some m[p+d]:=List.getElem?_eq_getElem (by omega);have e:=(h.one (p+d) _ hs).YA (hn (p+d) _ (by omega) (by omega) hs);rw[show p+(d+1)=p+d+1 by omega,e];exact zB h d (by omega) λj so h1 h2=>hn j so h1 (by omega)
theorem MI(S:Nat->Option aH)(m:List aK)(p:Nat):∀(d:Nat),p+d<=m.length->(∀(j:Nat) so,p<=j->j<p+d->m[j]?=some so->so.op.pW S=false)\/
  ∃(w:Nat) (so:aK),p<=w/\w<p+d/\m[w]?=some so/\so.op.pW S=true/\∀(j:Nat) so,p<=j->j<w->m[j]?=some so->so.op.pW S=false
 |0,_=>.inl λj so h1 h2=>by omega|d+1,hd=>by
  rcases MI S m p d (by omega) with h|⟨w,so,h1,h2,h3,h4,h5⟩;have hs:m[p+d]?=some m[p+d]:=List.getElem?_eq_getElem (by omega);cases hw:(m[p+d]).op.pW S with
  |true=>exact .inr ⟨p+d,_,by omega,by omega,hs,hw,λj so a1 a2=>h j so a1 a2⟩|false=>
   refine .inl λj so a1 a2 a3=>?_;by_cases hj:j=p+d;subst hj;rw[hs]at a3;cases a3;exact hw;exact h j so a1 (by omega) a3
  exact .inr ⟨w,so,h1,by omega,h3,h4,h5⟩
end
end Ax
