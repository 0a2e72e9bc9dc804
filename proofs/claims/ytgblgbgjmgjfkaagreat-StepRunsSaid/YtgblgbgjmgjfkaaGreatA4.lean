/- The library of this proof, part 4: an abstract interpreter of the loaded code, and its soundness. -/
import Derived.Test.YtgblgbgjmgjfkaaGreatA3
import Derived.Orders

namespace Ax
open Go
variable {P:Program}{w w':World}{G G':Ghost}{β β':List BxG}{ρ:Operand->Value}{o:Oper}
variable {S:Nat->Option SFunc}{so:SOper}{vals:List Ent}{wl lim:Nat}{st st':Store}{bx bx':Boxes}{cO:Nat->Nat}{r:Ent}
theorem Act1.le{cO cO':Nat->Nat}{v:Value}(h:Act1 w G β st bx cO w' G' β' st' bx' r v)(hc:∀b,cO b<=cO' b):Act1 w G β st bx cO' w' G' β' st' bx' r v:=
 { h with cnt:=fun b=>by have h1:=h.cnt b;have h2:=hc b;omega,far:=fun b hb=>h.far b (by have:=hc b;omega) }
theorem q_lit0{t e:TypeId}{parts:Array (Nat×Operand)}(ho:o.op=.buildSlice t 0 parts)(hu:P.underlying t=some (.slice e)){sz:Nat}(hsz:cellsIs P e sz=true)(hp:parts = #[]) :
  (execOp ρ o).run P w=.ok (.value (.slice (some ⟨w.heap.size,0,none⟩) 0 0)) (w.alloc (.cells #[] e)):=by
 obtain⟨i,hi,his,_⟩:=info_cells hsz
 subst hp
 have h0:(Array.range 0).map (fun _:Nat=>(default:Value)) = #[]:=by apply Array.ext';simp
 simp[execOp,ho,Instr.buildSlice,run_underlying hu,Go.sizeOf,typeInfo,hi,Instr.fill,newRow]
 rw[h0]
theorem d_lit{t:TypeId}{n n' sz:Nat}{parts:Array (Nat×Operand)}{zero:List AV}{qs:List Nat}{mu:Bool}(ho:o.op=.buildSlice t n parts)(hn':n=n')
  (hu:match P.underlying t with
   |some (.slice e)=>(cellsIs P e sz&&decide (n*sz<=16777216)&&zeroIs P e zero&&decide (0<sz)&&(zero.length==sz)&&parts.toList.map (·.1)==qs)=true
   |_=>False) (hI:Inv w G st) (hB:RepB w G β bx)
  (hR:RepEs w G β vals ((parts.toList.map (·.2)).map ρ)) (hcO:∀b,cntEs b vals ((parts.toList.map (·.2)).map ρ)<=cO b) (ha:act0 wl lim (if mu then .litM sz n' zero qs else .lit sz n' zero qs) vals st bx=some (r,st',bx')) :
  Done P ρ o w G β st bx cO none r st' bx':=by
 subst hn'
 split at hu
 ·rename_i e hue
  simp only[Bool.and_eq_true,decide_eq_true_eq,beq_iff_eq]at hu
  obtain⟨⟨⟨⟨⟨hsz,hsmall⟩,hz⟩,hp0⟩,hzl⟩,hq⟩:=hu
  have hmap:(parts.toList.map (·.2)).map ρ=parts.toList.map fun p=>ρ p.2:=by simp
  rw[hmap]at hR hcO
  cases mu with
  |true=>
   simp only[if_true]at ha
   unfold act0 at ha
   simp only at ha
   split at ha
   ·rename_i vs hvs
    split at ha
    ·rename_i rows hfill
     split at ha
     ·rename_i hc
      simp only[Bool.and_eq_true,decide_eq_true_eq]at hc
      cases ha
      obtain⟨hv,hcv⟩:=hR.repC hvs
      obtain⟨cells,e1,e2,e3,e4,e5,e6⟩:=q_lit (w:=w) ho hue hsz hsmall hz hp0 hzl hq hfill hc.2 hv
      obtain⟨G',hA,_⟩:=act_rows (sz:=sz) (cap:=n) (rows:=rows) (c:=cells) (e:=e) (xs:=cells.toList) (w':=w.alloc (.cells cells e)) (cO:=cO) hI hB rfl rfl rfl e4 (allCells_all hc.1) e2 hc.2 (by omega) (by omega) (by simp)
       (fun b=>by have h1:=e3 b;have h2:=hcO b;rw[hcv]at h2;omega)
      exact⟨_,_,_,G',β,e1,.inl rfl,hA,BxStep.refl _ _⟩
     ·cases ha
    ·cases ha
   ·cases ha
  |false=>
   simp only[Bool.false_eq_true,if_false]at ha
   unfold act0 at ha
   simp only at ha
   split at ha
   ·rename_i vs hvs
    split at ha
    ·rename_i rows hfill
     split at ha
     ·rename_i hc
      simp only[Bool.and_eq_true]at hc
      cases ha
      obtain⟨hv,hcv⟩:=hR.repC hvs
      by_cases hn:n=0
      ·subst hn
       rw[if_pos rfl]
       have hparts:parts = #[]:=by
        cases hpl:parts.toList with
        |nil=>exact Array.toList_eq_nil_iff.1 hpl
        |cons p l=>
         rw[hpl]at hq
         subst hq
         simp only[List.map_cons,List.replicate_zero]at hfill
         cases hvl:AV.viewL vs with
         |nil=>rw[hvl]at hfill;simp[fillRows]at hfill
         |cons v l'=>rw[hvl]at hfill;simp[fillRows]at hfill
       exact⟨_,_,_,_,β,q_lit0 ho hue hsz hparts,.inl rfl,act_new (w':=w.alloc (.cells #[] e)) rfl rfl rfl none hI hB (.emp _) fun b=>by simp[cnt],BxStep.refl _ _⟩
      ·rw[if_neg hn]
       have hn0:0<n:=by omega
       obtain⟨cells,e1,e2,e3,e4,e5,e6⟩:=q_lit (w:=w) ho hue hsz hsmall hz hp0 hzl hq hfill hn0 hv.view
       have hno:∀r∈rows,AV.noOwnL r=true:=by
        obtain⟨_,_,_,_,_,hzn,_⟩:=zeroIs_ok hz w G
        have:=mem_set_fill (sz:=sz) (p:=fun c=>c.noOwn=true) qs (AV.viewL vs) _ rows (fun r hr c hc=>by
         rw[List.eq_of_mem_replicate hr]at hc;exact(hzn c hc).1) (fun v hv=>noOwn_cells (viewL_noOwn vs v hv)) hfill
        exact fun r hr=>(noOwnL_iff r).2 (this r hr)
       have hrv:=rep_own (G:=G.new w.heap.size (some (rows.length*sz)) []) (w:=w.alloc (.cells cells e)) (cap:=n) (off:=0) e4 (allCells_all hc.2) hno (allPure_all hc.1) (e2.push (w':=w.alloc (.cells cells e)) rfl _ _) (heap_new rfl) (by omega) (by omega) (by simp[Ghost.new]) (fun k x hk=>by rw[Nat.zero_add];simpa using hk)
       exact⟨_,_,_,_,β,e1,.inl rfl,act_new (w':=w.alloc (.cells cells e)) rfl rfl rfl (some (rows.length*sz)) hI hB hrv.view fun b=>by simp[cnt],BxStep.refl _ _⟩
     ·cases ha
    ·cases ha
   ·cases ha
 ·exact hu.elim
theorem two_of{α:Type}{l:List α}(h:l.length=2):∃x y,l=[x,y]:=by
 match l,h with
 |[x,y],_=>exact⟨x,y,rfl⟩
theorem d_indexAddr_lim{sz:Nat}{vals:List Ent}(wl lim:Nat):act0 wl lim (.indexAddr sz) vals st bx=act0 0 0 (.indexAddr sz) vals st bx:=rfl
theorem boolT{w:World}{G:Ghost}{b:Bool}{v:Value}(h:RepV w G (.bool b) v):v=.bool b:=h.bool_inv
theorem act_ok(hm:mOp S P o so=true)(hI:Inv w G st)(hB:RepB w G β bx)(hX:∀b,cO b+cntB b β bx+cntS b G.ls st<=1)
  (hA:∀xs,mSrcs xs so.args=true->RepEs w G β vals (xs.map ρ)/\∀b,cntEs b vals (xs.map ρ)<=cO b)(ha:act0 wl lim so.op vals st bx=some (r,st',bx')) :
  Done P ρ o w G β st bx cO so.op.newBox r st' bx':=by
 unfold mOp at hm
 rw[Bool.and_eq_true]at hm
 replace hm:=hm.2
 generalize hso:so.op=sop at hm ha
 split at hm
 ·
  rename_i x ho
  obtain⟨hR,hc⟩:=hA _ hm
  unfold act0 at ha
  simp only at ha
  split at ha
  ·cases ha
   exact Done.quiet hI hB (u:=ρ x) (by simp[execOp,ho]) hR.1 fun b=>by have:=hc b;simp only[List.map_cons,cntEs]at this;omega
  ·cases ha
 ·
  rename_i x ho
  obtain⟨hR,hc⟩:=hA _ hm
  unfold act0 at ha
  simp only at ha
  split at ha
  ·cases ha
   exact Done.quiet hI hB (u:=ρ x) (by simp[execOp,ho]) hR.1 fun b=>by have:=hc b;simp only[List.map_cons,cntEs]at this;omega
  ·cases ha
 ·
  rename_i c x y ho
  obtain⟨hR,hc⟩:=hA _ hm
  unfold act0 at ha
  simp only at ha
  split at ha
  ·rename_i b x' y'
   cases ha
   obtain⟨h1,h2,h3,_⟩:=hR
   have hb:=boolT h1
   refine Done.quiet hI hB (u:=if b then ρ x else ρ y) (by simp[execOp,ho,hb,asBool]) ?_ fun d=>?_
   ·cases b
    ·exact h3
    ·exact h2
   ·have:=hc d
    simp only[List.map_cons,cntEs]at this
    cases b
    ·simp;omega
    ·simp;omega
  ·cases ha
 ·
  rename_i op t x y yt op' ho
  simp only[Bool.and_eq_true,beq_iff_eq]at hm
  obtain⟨rfl,hm⟩:=hm
  obtain⟨hR,hc⟩:=hA _ hm
  unfold act0 at ha
  simp only at ha
  split at ha
  ·split at ha
   ·rename_i v hv
    cases ha
    obtain⟨u,e1,e2,e3⟩:=q_bin ho hv hR.1 hR.2.1
    exact Done.noOwn hI hB e1 e2 e3
   ·cases ha
  ·cases ha
 ·
  rename_i op t x y yt k neg ho
  simp only[Bool.and_eq_true,beq_iff_eq]at hm
  obtain⟨⟨rfl,hm⟩,ht⟩:=hm
  obtain⟨hR,hc⟩:=hA _ hm
  unfold act0 at ha
  simp only at ha
  split at ha
  ·split at ha
   ·rename_i b hb
    cases ha
    obtain⟨u,e1,e2⟩:=q_eqv ho ht hb hR.1 hR.2.1
    exact Done.noOwn hI hB e1 e2 rfl
   ·cases ha
  ·cases ha
 ·
  rename_i op t x y yt neg ho
  simp only[Bool.and_eq_true,beq_iff_eq]at hm
  obtain⟨⟨rfl,hm⟩,ht⟩:=hm
  obtain⟨hR,hc⟩:=hA _ hm
  unfold act0 at ha
  simp only at ha
  split at ha
  ·rename_i id ver
   split at ha
   ·rename_i v sz rows hst
    split at ha
    ·rename_i hcond
     cases ha
     exact Done.noOwn hI hB (q_muNil ho ht hI hst hcond hR.1 hR.2.1) (.bool _) rfl
    ·cases ha
   ·cases ha
  ·cases ha
 ·
  rename_i op t x op' ho
  simp only[Bool.and_eq_true,beq_iff_eq]at hm
  obtain⟨rfl,hm⟩:=hm
  obtain⟨hR,hc⟩:=hA _ hm
  unfold act0 at ha
  simp only at ha
  split at ha
  ·split at ha
   ·rename_i v hv
    cases ha
    obtain⟨u,e1,e2,e3⟩:=q_un ho hv hR.1
    exact Done.noOwn hI hB e1 e2 e3
   ·cases ha
  ·cases ha
 ·
  rename_i s d x k ho
  simp only[Bool.and_eq_true]at hm
  obtain⟨hm,ht⟩:=hm
  obtain⟨hR,hc⟩:=hA _ hm
  unfold act0 at ha
  simp only at ha
  split at ha
  ·cases ha
   split at ht
   ·rename_i k1 k2 h1 h2
    simp only[beq_iff_eq]at ht
    subst ht
    exact Done.noOwn hI hB (q_conv ho h1 h2 hR.1) (.int _ _) rfl
   ·cases ht
  ·cases ha
 ·
  rename_i x ho
  obtain⟨hR,hc⟩:=hA _ hm
  unfold act0 at ha
  simp only at ha
  split at ha
  ·cases ha
   obtain⟨g,b,h1,h2,h3⟩:=hR.1
   exact Done.quiet hI hB (q_nilCheck ho h3) ⟨g,b,h1,h2,h3⟩ fun d=>by simp[cntE]
  ·split at ha
   ·cases ha
    have hp:∃a,ρ x=.pointer (some a):=by
     have h:=hR.1
     simp only[RepE]at h
     cases h with|ptr _ _ _ _ _ _ hp=>exact hp
    obtain⟨a,hp⟩:=hp
    exact Done.quiet hI hB (q_nilCheck ho hp) hR.1 fun d=>by simp[cntE,cnt]
   ·cases ha
    have hp:∃a,ρ x=.pointer (some a):=by
     have h:=hR.1
     simp only[RepE]at h
     generalize ρ x=v at h
     cases h;exact⟨_,rfl⟩
    obtain⟨a,hp⟩:=hp
    exact Done.quiet hI hB (q_nilCheck ho hp) hR.1 fun d=>by simp[cntE,cnt]
   ·cases ha
  ·cases ha
 ·
  rename_i x i j ho
  simp only[Bool.and_eq_true,beq_iff_eq]at hm
  obtain⟨rfl,hm⟩:=hm
  obtain⟨hR,hc⟩:=hA _ hm
  unfold act0 at ha
  simp only at ha
  split at ha
  ·split at ha
   ·rename_i v hv
    cases ha
    obtain⟨u,e1,e2,e3⟩:=q_extract ho hv hR.1
    exact Done.quiet hI hB e1 e2 fun b=>by have h1:=hc b;have h2:=e3 b;simp only[List.map_cons,cntEs,cntE]at h1 ⊢;omega
   ·cases ha
  ·cases ha
 ·
  rename_i t x f off n agg ho
  simp only[Bool.and_eq_true]at hm
  obtain⟨hm,ht⟩:=hm
  obtain⟨hR,hc⟩:=hA _ hm
  split at ht
  ·rename_i fs hu
   split at ht
   ·rename_i fd hf
    simp only[Bool.and_eq_true,beq_iff_eq]at ht
    obtain⟨⟨h1,h2⟩,h3⟩:=ht
    unfold act0 at ha
    simp only at ha
    split at ha
    ·split at ha
     ·rename_i cs hcut
      split at ha
      ·rename_i v hv
       cases ha
       obtain⟨u,e1,e2,e3⟩:=q_field ho hu hf h1 h2 h3 hcut hv hR.1
       exact Done.quiet hI hB e1 e2 fun b=>by have h1:=hc b;have h2:=e3 b;simp only[List.map_cons,cntEs,cntE]at h1 ⊢;omega
      ·cases ha
     ·cases ha
    ·cases ha
   ·cases ht
  ·cases ht
 ·
  rename_i t parts zero qs ho
  simp only[Bool.and_eq_true]at hm
  obtain⟨⟨hm,hz⟩,ht⟩:=hm
  obtain⟨hR,hc⟩:=hA _ hm
  have hmap:(parts.toList.map (·.2)).map ρ=parts.toList.map fun p=>ρ p.2:=by simp
  rw[hmap]at hR hc
  split at ht
  ·rename_i fs hu
   split at ht
   ·rename_i is his
    unfold act0 at ha
    simp only at ha
    split at ha
    ·rename_i vs hvs
     split at ha
     ·rename_i cs hfill
      cases ha
      obtain⟨hv,hcv⟩:=hR.repC hvs
      obtain⟨u,e1,e2,e3⟩:=q_build ho hu his hz ht hfill hv
      exact Done.quiet hI hB e1 e2 fun b=>by have h1:=hc b;have h2:=e3 b;have h3:=hcv b;simp only[cntE];omega
     ·cases ha
    ·cases ha
   ·cases ht
  ·cases ht
 ·
  rename_i t n parts sz n' zero qs ho
  simp only[Bool.and_eq_true,beq_iff_eq]at hm
  obtain⟨⟨hn,hm⟩,ht⟩:=hm
  obtain⟨hR,hc⟩:=hA _ hm
  refine d_lit (mu:=false) ho hn ?_ hI hB hR hc ha
  split at ht
  ·rename_i he;rw[he];simpa using ht
  ·cases ht
 ·
  rename_i t n parts sz n' zero qs ho
  simp only[Bool.and_eq_true,beq_iff_eq]at hm
  obtain⟨⟨hn,hm⟩,ht⟩:=hm
  obtain⟨hR,hc⟩:=hA _ hm
  refine d_lit (mu:=true) ho hn ?_ hI hB hR hc ha
  split at ht
  ·rename_i he;rw[he];simpa using ht
  ·cases ht
 ·
  rename_i t x f off ho
  simp only[Bool.and_eq_true]at hm
  obtain⟨hm,ht⟩:=hm
  obtain⟨hR,hc⟩:=hA _ hm
  split at ht
  ·rename_i fs hu
   split at ht
   ·rename_i fd hf
    simp only[Bool.and_eq_true,beq_iff_eq]at ht
    obtain⟨h1,h2⟩:=ht
    subst h1
    split at h2
    ·rename_i i hi
     have hs:i.size≠0:=by simpa using h2
     unfold act0 at ha
     simp only at ha
     split at ha
     ·rename_i j k
      cases ha
      obtain⟨g,b,g1,g2,g3⟩:=hR.1
      refine Done.quiet hI hB (q_fieldAddr ho hu hf hi hs g3) ⟨g,b,g1,g2,?_⟩ fun d=>by simp[cntE]
      rw[addr_add]
     ·rename_i id ver i' k
      cases ha
      obtain⟨a,e1,e2⟩:=rep_fieldAddr hR.1 (.inl ⟨id,ver,i',k,rfl,rfl⟩)
      exact Done.noOwn hI hB (q_fieldAddr ho hu hf hi hs e1) e2 rfl
     ·rename_i sz rows i' k
      cases ha
      obtain⟨a,e1,e2⟩:=rep_fieldAddr hR.1 (.inr ⟨sz,rows,i',k,rfl,rfl⟩)
      exact Done.noOwn hI hB (q_fieldAddr ho hu hf hi hs e1) e2 rfl
     ·cases ha
    ·cases h2
   ·cases ht
  ·cases ht
 ·
  rename_i t x y sz ho
  simp only[Bool.and_eq_true]at hm
  obtain⟨hm,ht⟩:=hm
  obtain⟨hR,hc⟩:=hA _ hm
  split at ht
  ·rename_i e hu
   rw[d_indexAddr_lim]at ha
   have ha0:=ha
   unfold act0 at ha
   simp only at ha
   split at ha
   ·obtain⟨rfl,rfl,p,u,rfl,e1,e2,e3⟩:=q_indexAddr ho hu ht hI ha0 hR.1 (RepV.int_inv hR.2.1)
    exact Done.noOwn hI hB e1 e2 e3
   ·cases ha
  ·cases ht
 ·
  rename_i t x y ho
  simp only[Bool.and_eq_true]at hm
  obtain⟨hm,ht⟩:=hm
  obtain⟨hR,hc⟩:=hA _ hm
  split at ht
  ·rename_i hu
   unfold act0 at ha
   simp only at ha
   split at ha
   ·split at ha
    ·rename_i h0
     split at ha
     ·rename_i b hb
      cases ha
      exact Done.noOwn hI hB (q_index ho hu h0 hb hR.1 (RepV.int_inv hR.2.1)) (.int _ _) rfl
     ·cases ha
    ·cases ha
   ·cases ha
  ·cases ht
 ·
  rename_i t x lo hi mx isS l h m sz ho
  simp only[Bool.and_eq_true,beq_iff_eq]at hm
  obtain⟨⟨⟨⟨⟨hm,rfl⟩,rfl⟩,rfl⟩,hmh⟩,ht⟩:=hm
  obtain⟨hR,hc⟩:=hA _ hm
  refine d_slice ho (fun h=>by rw[h]at hmh;simpa using hmh) ?_ hI hB hR hc ha
  split at ht
  ·rename_i he;rw[he];exact ht
  ·rename_i he;rw[he];exact ht
  ·cases ht
 ·
  rename_i t x hi sz ho
  simp only[Bool.and_eq_true]at hm
  obtain⟨hm,ht⟩:=hm
  obtain⟨hR,hc⟩:=hA _ hm
  split at ht
  ·rename_i e hu
   have ha0:=ha
   unfold act0 at ha
   simp only at ha
   split at ha
   ·obtain⟨v,G',e1,e2⟩:=q_sliceM ho hu ht hI hB hX hR.1 hR.2.1 ha0
    exact⟨_,_,_,_,_,e1,.inl rfl,e2,BxStep.refl _ _⟩
   ·cases ha
  ·cases ht
 ·
  rename_i t x agg n take ho
  simp only[Bool.and_eq_true]at hm
  obtain⟨⟨⟨hm,hn⟩,hagg⟩,hone⟩:=hm
  obtain⟨hR,hc⟩:=hA _ hm
  have hagg':isAggT P t=some agg:=by simpa using hagg
  have hone':agg=false->n=1:=fun h=>by subst h;simpa using hone
  have ha0:=ha
  unfold act0 at ha
  simp only at ha
  split at ha
  ·rename_i p
   cases take with
   |true=>
    obtain⟨v,e1,e2⟩:=q_loadTake ho hn hagg' hone' hI hB hX hR.1 ha0
    exact⟨_,_,_,_,_,e1,.inl rfl,e2,BxStep.refl _ _⟩
   |false=>
    split at ha
    ·rename_i cs hread
     simp only[Bool.false_eq_true,if_false]at ha
     split at ha
     ·rename_i v hv
      cases ha
      obtain⟨b,off,xs,h1,h2,h3,h4⟩:=readP_ok hI hread hR.1
      obtain⟨u,e1,e2,e3⟩:=q_load ho hn hagg' hone' h1 h2 h3.view h4 hv
      exact Done.quiet hI hB e1 e2 fun d=>by
       simp only[cntE,e3 d]
       rw[cntL_noOwn d _ _ (noOwn_viewL cs)]
       omega
     ·cases ha
    ·cases ha
  ·cases ha
 ·
  rename_i t x j agg n take ho
  simp only[Bool.and_eq_true]at hm
  obtain⟨⟨⟨hm,hn⟩,hagg⟩,hone⟩:=hm
  obtain⟨hR,hc⟩:=hA _ hm
  have hagg':isAggT P t=some agg:=by simpa using hagg
  have hone':agg=false->n=1:=fun h=>by subst h;simpa using hone
  have ha0:=ha
  unfold act0 at ha
  simp only at ha
  split at ha
  ·obtain⟨v,e1,e2⟩:=q_loadF ho hn hagg' hone' hI hB hX hR.1 ha0
   exact⟨_,_,_,_,_,e1,.inl rfl,e2,BxStep.refl _ _⟩
  ·cases ha
 ·
  rename_i t x y n ho
  simp only[Bool.and_eq_true]at hm
  obtain⟨hm,hn⟩:=hm
  obtain⟨hR,hc⟩:=hA _ hm
  have ha0:=ha
  unfold act0 at ha
  simp only at ha
  split at ha
  ·obtain⟨w',G',e1,e2⟩:=q_store ho hn hI hB hX hR.1 hR.2.1 (fun b=>by have:=hc b;simp only[List.map_cons,cntEs,cntE]at this;omega) ha0
   exact⟨_,_,_,_,_,e1,.inr ⟨rfl,rfl⟩,e2,BxStep.refl _ _⟩
  ·cases ha
 ·
  rename_i t x y j n ho
  simp only[Bool.and_eq_true]at hm
  obtain⟨hm,hn⟩:=hm
  obtain⟨hR,hc⟩:=hA _ hm
  have ha0:=ha
  unfold act0 at ha
  simp only at ha
  split at ha
  ·obtain⟨w',G',β',e1,e2,e3⟩:=q_storeF ho hn hI hB hX hR.1 hR.2.1 (fun b=>by have:=hc b;simp only[List.map_cons,cntEs]at this;simp only[cntE]at this ⊢;omega) ha0
   exact⟨_,_,_,_,_,e1,.inr ⟨rfl,rfl⟩,e2,e3⟩
  ·cases ha
 ·
  rename_i t zero ho
  simp only[Bool.and_eq_true]at hm
  obtain⟨_,hz⟩:=hm
  obtain⟨i,z,hi,hiz,hzr,hzn,hzc⟩:=zeroIs_ok hz w G
  unfold act0 at ha
  simp only at ha
  split at ha
  ·cases ha
   obtain⟨G',hA'⟩:=act_alloc (t:=t) (cO:=cO) hI hB hzr hzn hzc
   exact⟨_,_,_,_,_,q_alloc ho hi hiz,.inl rfl,hA',BxStep.refl _ _⟩
  ·cases ha
 ·
  rename_i t j zero ho
  simp only[Bool.and_eq_true]at hm
  obtain⟨_,hz⟩:=hm
  obtain⟨i,z,hi,hiz,hzr,hzn,hzc⟩:=zeroIs_ok hz w G
  unfold act0 at ha
  simp only at ha
  split at ha
  ·split at ha
   ·rename_i hj
    cases ha
    have hb:j<β.length:=by rw[hB.len];exact hj
    refine⟨_,_,_,_,_,q_alloc ho hi hiz,.inl rfl,act_box (c:=z.cells) (e:=t) (w':=w.alloc (.cells z.cells t)) hI hB rfl rfl rfl hj hzr hzc (fun b=>by rw[cntL_zero hzn];omega),?_⟩
    exact BxStep.set (List.getElem?_eq_getElem hb) fun h=>absurd rfl h
   ·cases ha
  ·cases ha
 ·
  rename_i t x n ho
  obtain⟨hR,hc⟩:=hA _ hm
  unfold act0 at ha
  simp only at ha
  split at ha
  ·split at ha
   ·rename_i hcond
    simp only[Bool.and_eq_true,decide_eq_true_eq]at hcond
    cases ha
    obtain⟨G',hA'⟩:=act_boxv (t:=t) (cO:=cO) hI hB hR.1 hcond.1 hcond.2 (fun b=>by have:=hc b;simp only[List.map_cons,cntEs,cntE]at this;omega)
    exact⟨_,_,_,_,_,q_box ho,.inl rfl,hA',BxStep.refl _ _⟩
   ·cases ha
  ·cases ha
 ·
  rename_i t x j n ho
  obtain⟨hR,hc⟩:=hA _ hm
  unfold act0 at ha
  simp only at ha
  split at ha
  ·split at ha
   ·rename_i hcond
    simp only[Bool.and_eq_true,decide_eq_true_eq]at hcond
    cases ha
    have hb:j<β.length:=by rw[hB.len];exact hcond.1.1
    obtain⟨hcv,hcn⟩:=RepV.cells hR.1
    refine⟨_,_,_,_,_,q_box ho,.inl rfl,act_box (c:=(ρ x).cells) (e:=t) (w':=w.alloc (.cells (ρ x).cells t)) hI hB rfl rfl rfl hcond.1.1 hcv hcond.2 (fun b=>by have:=hc b;simp only[List.map_cons,cntEs,cntE]at this;rw[hcn];omega),?_⟩
    exact BxStep.set (List.getElem?_eq_getElem hb) fun h=>absurd rfl h
   ·cases ha
  ·cases ha
 ·
  rename_i t x y sz bytes zero mt ho
  simp only[Bool.and_eq_true]at hm
  obtain⟨hm,ht⟩:=hm
  obtain⟨hR,hc⟩:=hA _ hm
  split at ht
  ·rename_i e hu
   simp only[Bool.and_eq_true,decide_eq_true_eq]at ht
   obtain⟨⟨⟨⟨h1,h2⟩,h3⟩,h4⟩,h5⟩:=ht
   unfold act0 at ha
   simp only at ha
   split at ha
   ·rename_i n c
    split at ha
    ·rename_i hcond
     obtain⟨c1,c2,c3,c4⟩:=hcond
     have hcm:c<=9223372036854775807:=by
      have:c*1<=c*bytes:=Int.mul_le_mul_of_nonneg_left (by omega) (by omega)
      simp only[room]at c3
      omega
     obtain⟨cells,e1,e2,e3,e4⟩:=q_makeSl (w:=w) (G:=G) ho hu h1 h2 h3 h4 c4 (RepV.int_inv hR.1) (RepV.int_inv hR.2.1) c1 c2 c3 hcm
     obtain⟨_,_,_,_,_,hzn,hzc⟩:=zeroIs_ok h3 w G
     have hle:n.toNat*sz<=c.toNat*sz:=Nat.mul_le_mul_right _ (by omega)
     have hfit:fits sz (List.replicate n.toNat zero)=true:=fits_iff.2 fun r hr=>by rw[List.eq_of_mem_replicate hr,c4]
     have hcel:∀r∈List.replicate n.toNat zero,AV.allCells r=true:=fun r hr=>by rw[List.eq_of_mem_replicate hr];exact hzc
     have hx:∀(k:Nat) x,(cells.toList.take (n.toNat*sz))[k]?=some x->cells[k]?=some x:=fun k x hk=>by
      rw[List.getElem?_take]at hk
      split at hk
      ·simpa using hk
      ·cases hk
     split at ha
     ·cases ha
      by_cases hc0:c.toNat=0
      ·have hn0:n.toNat=0:=by omega
       rw[hn0,hc0]at e1
       rw[hn0]
       have hA0:Act1 w G β st bx cO (w.alloc (.cells cells e)) (G.new w.heap.size (some 0) [⟨some ⟨w.heap.size,0,none⟩,0,0,sz,0,false,[]⟩]) β (st++[.rows 0 sz []]) bx (.val (.mu st.length 0)) (.slice (some ⟨w.heap.size,0,none⟩) 0 0):=by
        have hl:(G.new w.heap.size (some 0) [⟨some ⟨w.heap.size,0,none⟩,0,0,sz,0,false,[]⟩]).ls[st.length]?=some ⟨some ⟨w.heap.size,0,none⟩,0,0,sz,0,false,[]⟩:=by
         simp only[Ghost.new]
         rw[List.getElem?_append_right (by rw[hI.len];exact Nat.le_refl _),hI.len]
         simp
        exact act_new_obj (w':=w.alloc (.cells cells e)) (ao:=.rows 0 sz []) (ob:=.cells cells e) rfl rfl rfl hI hB ⟨rfl,rfl,by simp[fits],by simp,rfl,rfl,rfl,fun i r xs h=>by simp at h,.inl ⟨rfl,rfl,rfl⟩⟩ (.mu _ _ _ _ ⟨_,_,_,rfl⟩ hl (Nat.le_refl _) fun _=>rfl) rfl fun b=>by simp[cntO,Loc.blk,cntLL]
       exact⟨_,_,_,_,_,e1,.inl rfl,hA0,BxStep.refl _ _⟩
      ·obtain⟨G',hA',_⟩:=act_rows (sz:=sz) (cap:=c.toNat) (rows:=List.replicate n.toNat zero) (c:=cells) (e:=e) (xs:=cells.toList.take (n.toNat*sz)) (w':=w.alloc (.cells cells e)) (cO:=cO) hI hB rfl rfl rfl hfit hcel e3 (by omega) (by omega) (by simp;omega) hx (fun b=>by rw[e4];omega)
       rw[List.length_replicate]at hA'
       exact⟨_,_,_,_,_,e1,.inl rfl,hA',BxStep.refl _ _⟩
     ·split at ha
      ·rename_i hpz
       cases ha
       obtain⟨G',hA'⟩:=act_own (sz:=sz) (cap:=c.toNat) (rows:=List.replicate n.toNat zero) (c:=cells) (e:=e) (xs:=cells.toList.take (n.toNat*sz)) (w':=w.alloc (.cells cells e)) (cO:=cO) hI hB rfl rfl rfl hfit hcel
        (fun r hr=>by rw[List.eq_of_mem_replicate hr];exact(noOwnL_iff zero).2 fun c hc=>(hzn c hc).1) (fun r hr=>by rw[List.eq_of_mem_replicate hr];exact hpz) e3 (by omega) (by simp;omega) hx
       rw[List.length_replicate]at hA'
       exact⟨_,_,_,_,_,e1,.inl rfl,hA',BxStep.refl _ _⟩
      ·cases ha
    ·cases ha
   ·cases ha
  ·cases ht
 ·
  rename_i t ho
  unfold act0 at ha
  simp only at ha
  split at ha
  ·cases ha
   obtain⟨G',hA'⟩:=act_map (cO:=cO) hI hB
   exact⟨_,_,_,_,_,by simp only[execOp,ho,Option.map_none,Sem.run_bind,show (Instr.makeMap t none).run P w=.ok (.map (some w.heap.size)) (w.alloc (.map #[] 0)) from rfl,Result.andThen_ok,Sem.run_pure],.inl rfl,hA',BxStep.refl _ _⟩
  ·cases ha
 ·
  rename_i t m k x kk ho
  simp only[Bool.and_eq_true]at hm
  obtain⟨hm,ht⟩:=hm
  obtain⟨hR,hc⟩:=hA _ hm
  split at ht
  ·rename_i kt et hu
   have ha0:=ha
   unfold act0 at ha
   simp only at ha
   split at ha
   ·obtain⟨w',G',e1,e2⟩:=q_mapUpdate (.inl ho) hu ht hI hB hX hR.1 hR.2.1 hR.2.2.1 ha0
    exact⟨_,_,_,_,_,e1,.inr ⟨rfl,rfl⟩,e2,BxStep.refl _ _⟩
   ·cases ha
  ·cases ht
 ·
  rename_i t m k x kk ho
  simp only[Bool.and_eq_true]at hm
  obtain⟨hm,ht⟩:=hm
  obtain⟨hR,hc⟩:=hA _ hm
  split at ht
  ·rename_i kt et hu
   have ha0:=ha
   unfold act0 at ha
   simp only at ha
   split at ha
   ·obtain⟨w',G',e1,e2⟩:=q_mapUpdate (.inr ho) hu ht hI hB hX hR.1 hR.2.1 hR.2.2.1 ha0
    exact⟨_,_,_,_,_,e1,.inr ⟨rfl,rfl⟩,e2,BxStep.refl _ _⟩
   ·cases ha
  ·cases ht
 ·
  rename_i t m k ok kk zero ok' ho
  simp only[Bool.and_eq_true,beq_iff_eq]at hm
  obtain⟨⟨rfl,hm⟩,ht⟩:=hm
  obtain⟨hR,hc⟩:=hA _ hm
  split at ht
  ·rename_i kt et hu
   simp only[Bool.and_eq_true]at ht
   obtain⟨ht,hz⟩:=ht
   split at hz
   ·rename_i ie hie
    split at hz
    ·rename_i z hzz
     unfold act0 at ha
     simp only at ha
     split at ha
     ·rename_i am ak
      split at ha
      ·cases ha
      ·rename_i es hes
       split at ha
       ·split at ha
        ·cases ha
        ·rename_i res hf
         cases ha
         have hes':(am=.nilMap/\es=[])\/∃id,am=.map id/\st[id]?=some (.map es):=by
          split at hes
          ·cases hes;exact .inl ⟨rfl,rfl⟩
          ·rename_i id
           split at hes
           ·rename_i hst;cases hes;exact .inr ⟨id,rfl,hst⟩
           ·cases hes
          ·cases hes
         obtain⟨u,e1,e2,e3⟩:=q_lookup ho hu ht hie hzz hz hI hes' hf hR.1 hR.2.1
         refine Done.noOwn hI hB e1 e2 ?_
         cases ok
         ·exact e3
         ·simp[AV.noOwn,AV.noOwnL,e3]
       ·cases ha
     ·cases ha
    ·cases hz
   ·cases hz
  ·cases ht
 ·
  rename_i f first caps f' n ho
  simp only[Bool.and_eq_true,beq_iff_eq,decide_eq_true_eq]at hm
  obtain⟨⟨⟨rfl,hm⟩,rfl⟩,hf⟩:=hm
  obtain⟨hR,hc⟩:=hA _ hm
  unfold act0 at ha
  simp only at ha
  split at ha
  ·rename_i vs hvs
   cases ha
   obtain⟨hv,hcv⟩:=hR.repC hvs
   obtain⟨e1,e2⟩:=q_makeFunc (P:=P) hf ho hv
   exact Done.noOwn hI hB e1 e2 rfl
  ·cases ha
 ·
  rename_i c k ho
  simp only[Bool.and_eq_true,beq_iff_eq]at hm
  obtain⟨⟨hm,hsz⟩,ht⟩:=hm
  obtain⟨hR,hc⟩:=hA _ hm
  obtain⟨x,hx⟩:∃x,c.args.toList=[x]:=List.length_eq_one_iff.1 (by simpa using hsz)
  rw[hx]at hR hc
  split at ht
  ·rename_i t hcal hty
   unfold act0 at ha
   simp only at ha
   split at ha
   ·split at ha
    ·rename_i n hn
     cases ha
     refine Done.noOwn hI hB (q_len ho hcal hx hty (k:=k) ?_ hI hn hR.1) (.int _ _) rfl
     split at ht
     ·assumption
     ·exact⟨_,by assumption⟩
     ·exact⟨_,_,by assumption⟩
     ·cases ht
    ·cases ha
   ·cases ha
  ·cases ht
 ·
  rename_i c mx ho
  simp only[Bool.and_eq_true,beq_iff_eq]at hm
  obtain⟨⟨hm,hsz⟩,ht⟩:=hm
  obtain⟨hR,hc⟩:=hA _ hm
  obtain⟨x,y,hx⟩:∃x y,c.args.toList=[x,y]:=two_of (by simpa using hsz)
  rw[hx]at hR hc
  unfold act0 at ha
  simp only at ha
  split at ha
  ·split at ha
   ·rename_i hk
    subst hk
    cases ha
    split at ht
    ·rename_i hcal
     rw[if_pos ht]
     exact Done.noOwn hI hB (q_max ho hcal hx hR.1 hR.2.1) (.int _ _) rfl
    ·rename_i hcal
     rw[if_neg (by simpa using ht)]
     exact Done.noOwn hI hB (q_min ho hcal hx hR.1 hR.2.1) (.int _ _) rfl
    ·cases ht
   ·cases ha
  ·cases ha
 ·
  rename_i c sz bytes ho
  simp only[Bool.and_eq_true,beq_iff_eq]at hm
  obtain⟨⟨⟨hm,hsz⟩,hty2⟩,ht⟩:=hm
  obtain⟨hR,hc⟩:=hA _ hm
  obtain⟨x,y,hx⟩:∃x y,c.args.toList=[x,y]:=two_of (by simpa using hsz)
  rw[hx]at hR hc
  split at ht
  ·rename_i t u hcal ht0 ht1
   simp only[Bool.and_eq_true]at ht
   obtain⟨hs1,hs2⟩:=ht
   split at hs1
   ·rename_i e hu
    simp only[Bool.and_eq_true,decide_eq_true_eq]at hs1
    obtain⟨⟨⟨⟨h1,h2⟩,h3⟩,h4⟩,h5⟩:=hs1
    split at h5
    ·rename_i i hi
     split at h5
     ·rename_i z hz
      simp only[beq_iff_eq]at h5
      have hT:AppT P t u e sz bytes i z:=by
       refine⟨hu,hi,hz,?_,?_,h5,h3,h4,?_⟩
       ·obtain⟨i',hi',his,_⟩:=info_cells h1
        rw[hi]at hi';cases hi';exact his
       ·simpa [bytesIs,hi] using h2
       ·split at hs2
        ·exact .inl ⟨_,by assumption⟩
        ·exact .inr (by assumption)
        ·cases hs2
      have ha0:=ha
      unfold act0 at ha
      simp only at ha
      split at ha
      ·obtain⟨v,w',G',e1,e2⟩:=q_append (ty:=o.type) hT hI hB hX hR.1 hR.2.1 (fun b=>by have:=hc b;simp only[List.map_cons,cntEs,cntE]at this;omega) ha0
       refine⟨_,_,_,_,_,?_,.inl rfl,e2,BxStep.refl _ _⟩
       simp only[execOp,ho,resolve,hcal,Sem.run_bind,Sem.run_pure,Result.andThen_ok,invoke,builtin,call_args2 hx,app_types hty2 ht0 ht1]
       simp[e1]
      ·cases ha
     ·cases h5
    ·cases h5
   ·cases hs1
  ·cases ht
 ·
  rename_i c sz bytes ho
  simp only[Bool.and_eq_true,beq_iff_eq]at hm
  obtain⟨⟨⟨hm,hsz⟩,hty2⟩,ht⟩:=hm
  obtain⟨hR,hc⟩:=hA _ hm
  obtain⟨x,y,hx⟩:∃x y,c.args.toList=[x,y]:=two_of (by simpa using hsz)
  rw[hx]at hR hc
  split at ht
  ·rename_i t u hcal ht0 ht1
   simp only[Bool.and_eq_true]at ht
   obtain⟨hs1,hs2⟩:=ht
   split at hs1
   ·rename_i e hu
    simp only[Bool.and_eq_true,decide_eq_true_eq]at hs1
    obtain⟨⟨⟨⟨h1,h2⟩,h3⟩,h4⟩,h5⟩:=hs1
    split at h5
    ·rename_i i hi
     split at h5
     ·rename_i z hz
      simp only[beq_iff_eq]at h5
      have hT:AppT P t u e sz bytes i z:=by
       refine⟨hu,hi,hz,?_,?_,h5,h3,h4,?_⟩
       ·obtain⟨i',hi',his,_⟩:=info_cells h1
        rw[hi]at hi';cases hi';exact his
       ·simpa [bytesIs,hi] using h2
       ·split at hs2
        ·exact .inl ⟨_,by assumption⟩
        ·exact .inr (by assumption)
        ·cases hs2
      have ha0:=ha
      unfold act0 at ha
      simp only at ha
      split at ha
      ·obtain⟨v,w',G',e1,e2⟩:=q_appendM (ty:=o.type) hT hI hB hX hR.1 hR.2.1 ha0
       refine⟨_,_,_,_,_,?_,.inl rfl,e2,BxStep.refl _ _⟩
       simp only[execOp,ho,resolve,hcal,Sem.run_bind,Sem.run_pure,Result.andThen_ok,invoke,builtin,call_args2 hx,app_types hty2 ht0 ht1]
       simp[e1]
      ·cases ha
     ·cases h5
    ·cases h5
   ·cases hs1
  ·cases ht
 ·
  rename_i c sz ho
  simp only[Bool.and_eq_true,beq_iff_eq]at hm
  obtain⟨⟨⟨hm,hsz⟩,hty2⟩,ht⟩:=hm
  obtain⟨hR,hc⟩:=hA _ hm
  obtain⟨x,y,hx⟩:∃x y,c.args.toList=[x,y]:=two_of (by simpa using hsz)
  rw[hx]at hR hc
  split at ht
  ·rename_i t u hcal ht0 ht1
   simp only[Bool.and_eq_true]at ht
   obtain⟨hs1,hs2⟩:=ht
   split at hs1
   ·rename_i e hu
    have hk:(∃e',P.underlying u=some (.slice e'))\/P.underlying u=some .string:=by
     split at hs2
     ·exact .inl ⟨_,by assumption⟩
     ·exact .inr (by assumption)
     ·cases hs2
    have ha0:=ha
    unfold act0 at ha
    simp only at ha
    split at ha
    ·obtain⟨v,w',G',e1,e2⟩:=q_copy (ty:=o.type) hu hs1 hk hI hB hX hR.1 hR.2.1 ha0
     refine⟨_,_,_,_,_,?_,.inl rfl,e2,BxStep.refl _ _⟩
     simp only[execOp,ho,resolve,hcal,Sem.run_bind,Sem.run_pure,Result.andThen_ok,invoke,builtin,call_args2 hx,app_types hty2 ht0 ht1]
     simp[e1]
    ·cases ha
   ·cases hs1
  ·cases ht
 ·
  rename_i s d x ho
  simp only[Bool.and_eq_true]at hm
  obtain⟨hm,ht⟩:=hm
  obtain⟨hR,hc⟩:=hA _ hm
  split at ht
  ·rename_i e h1 h2
   split at ht
   ·rename_i h3
    unfold act0 at ha
    simp only at ha
    split at ha
    ·split at ha
     ·rename_i rows hrows
      split at ha
      ·rename_i l hl
       cases ha
       obtain⟨u,e1,e2⟩:=q_toStr ho h1 h3 h2 hI hR.1 hrows hl
       exact Done.noOwn hI hB e1 e2 rfl
      ·cases ha
     ·cases ha
    ·cases ha
   ·cases ht
  ·cases ht
 ·
  unfold act0 at ha
  cases ha
 ·
  unfold act0 at ha
  cases ha
 ·
  rename_i t x y sz bytes zero ho
  simp only[Bool.and_eq_true]at hm
  obtain⟨hm,ht⟩:=hm
  obtain⟨hR,hc⟩:=hA _ hm
  split at ht
  ·rename_i e hu
   simp only[Bool.and_eq_true,decide_eq_true_eq]at ht
   obtain⟨⟨⟨⟨h1,h2⟩,h3⟩,h4⟩,h5⟩:=ht
   unfold act0 at ha
   simp only at ha
   split at ha
   ·rename_i n c
    split at ha
    ·rename_i hcond
     obtain⟨c1,c2,c3,c4,hpz⟩:=hcond
     have hcm:c<=9223372036854775807:=by
      have:c*1<=c*bytes:=Int.mul_le_mul_of_nonneg_left (by omega) (by omega)
      simp only[room]at c3
      omega
     obtain⟨cells,e1,e2,e3,e4⟩:=q_makeSl (w:=w) (G:=G) ho hu h1 h2 h3 h4 c4 (RepV.int_inv hR.1) (RepV.int_inv hR.2.1) c1 c2 c3 hcm
     obtain⟨_,_,_,_,_,hzn,hzc⟩:=zeroIs_ok h3 w G
     have hle:n.toNat*sz<=c.toNat*sz:=Nat.mul_le_mul_right _ (by omega)
     have hfit:fits sz (List.replicate n.toNat zero)=true:=fits_iff.2 fun r hr=>by rw[List.eq_of_mem_replicate hr,c4]
     have hcel:∀r∈List.replicate n.toNat zero,AV.allCells r=true:=fun r hr=>by rw[List.eq_of_mem_replicate hr];exact hzc
     have hx:∀(k:Nat) x,(cells.toList.take (n.toNat*sz))[k]?=some x->cells[k]?=some x:=fun k x hk=>by
      rw[List.getElem?_take]at hk
      split at hk
      ·simpa using hk
      ·cases hk
     cases ha
     obtain⟨G',hA'⟩:=act_raw (sz:=sz) (cap:=c.toNat) (rows:=List.replicate n.toNat zero) (c:=cells) (e:=e) (xs:=cells.toList.take (n.toNat*sz)) (w':=w.alloc (.cells cells e)) (cO:=cO) hI hB rfl rfl rfl hfit hcel
      (fun r hr=>by rw[List.eq_of_mem_replicate hr];exact(noOwnL_iff zero).2 fun c hc=>(hzn c hc).1) (fun r hr=>by rw[List.eq_of_mem_replicate hr];exact hpz) e3 (by omega) (by simp;omega) hx
     rw[List.length_replicate]at hA'
     exact⟨_,_,_,_,_,e1,.inl rfl,hA',BxStep.refl _ _⟩
    ·cases ha
   ·cases ha
  ·cases ht
 ·
  rename_i c sz bytes zero ho
  simp only[Bool.and_eq_true,beq_iff_eq]at hm
  obtain⟨⟨⟨hm,hsz⟩,hty2⟩,ht⟩:=hm
  obtain⟨hR,hc⟩:=hA _ hm
  obtain⟨x,y,hx⟩:∃x y,c.args.toList=[x,y]:=two_of (by simpa using hsz)
  rw[hx]at hR hc
  split at ht
  ·rename_i t u hcal ht0 ht1
   simp only[Bool.and_eq_true]at ht
   obtain⟨hs1,hs2⟩:=ht
   split at hs1
   ·rename_i e hu
    simp only[Bool.and_eq_true,decide_eq_true_eq]at hs1
    obtain⟨⟨⟨⟨h1,h2⟩,h3⟩,h4⟩,h5⟩:=hs1
    have hk:∃k,P.underlying u=some (.int k):=by
     split at hs2
     ·exact⟨_,by assumption⟩
     ·cases hs2
    have ha0:=ha
    unfold act0 at ha
    simp only at ha
    split at ha
    ·obtain⟨v,w',G',e1,e2⟩:=q_appendZ (ty:=o.type) hu hk h1 h2 h3 h4 h5 hI hB hX hR.1 hR.2.1 ha0
     refine⟨_,_,_,_,_,?_,.inl rfl,e2,BxStep.refl _ _⟩
     simp only[execOp,ho,resolve,hcal,Sem.run_bind,Sem.run_pure,Result.andThen_ok,invoke,builtin,call_args2 hx,app_types hty2 ht0 ht1]
     simp[e1]
    ·cases ha
   ·cases hs1
  ·cases ht
 ·
  rename_i c ho
  simp only[Bool.and_eq_true,beq_iff_eq]at hm
  obtain⟨⟨hm,hsz⟩,ht⟩:=hm
  obtain⟨hR,hc⟩:=hA _ hm
  obtain⟨x,hx⟩:∃x,c.args.toList=[x]:=List.length_eq_one_iff.1 (by simpa using hsz)
  rw[hx]at hR hc
  split at ht
  ·rename_i t hcal hty
   split at ht
   ·rename_i e hu
    unfold act0 at ha
    simp only at ha
    split at ha
    ·cases ha
     refine Done.noOwn hI hB ?_ (.int _ _) rfl
     have e1:∃n,ρ x=.slice none n 0:=by
      have h1:RepV w G .nilSl (ρ x):=hR.1
      generalize ρ x=v at h1
      cases h1
      exact⟨_,rfl⟩
     obtain⟨n,e1⟩:=e1
     simp[execOp,ho,resolve,hcal,invoke,builtin,call_args1 hx,Builtin.cap_,hty,run_underlying hu,e1,goInt]
    ·cases ha
   ·cases ht
  ·cases ht
 ·
  have h0:so.args=[]:=by simpa using hm
  have hv:=(hA [] (by rw[h0];rfl)).1
  cases vals with
  |nil=>unfold act0 at ha;simp at ha
  |cons a l=>simp[RepEs]at hv
 ·cases hm
end Ax
namespace Ax
open Go
variable {P:Program}{w w':World}{G G':Ghost}{β β':List BxG}
theorem getE_set(d:Nat)(e:Ent)(t:Nat):∀env:Env,getE (setE env d e) t=if t=d then e else getE env t
 |[]=>by
  simp only[setE,getE]
  by_cases h:d=t
  ·rw[if_pos h,if_pos h.symm]
  ·rw[if_neg h,if_neg (show ¬t=d from fun e=>h e.symm)]
 |(k,x)::r=>by
  have ih:=getE_set d e t r
  unfold setE
  split
  ·simp only[getE]
   by_cases h:d=t
   ·rw[if_pos h,if_pos h.symm]
   ·rw[if_neg h,if_neg (show ¬t=d from fun e=>h e.symm)]
  ·split
   ·rename_i hk
    subst hk
    simp only[getE]
    by_cases h:d=t
    ·rw[if_pos h,if_pos h.symm]
    ·rw[if_neg h,if_neg (show ¬t=d from fun e=>h e.symm),if_neg h]
   ·simp only[getE,ih]
    by_cases h:k=t
    ·rw[if_pos h,if_pos h,if_neg (by omega)]
    ·rw[if_neg h,if_neg h]
theorem getE_del(d t:Nat):∀env:Env,getE (delE env d) t=if t=d then .none else getE env t
 |[]=>by simp[delE,getE]
 |(k,x)::r=>by
  have ih:=getE_del d t r
  unfold delE
  split
  ·rename_i h
   rw[ih]
   simp only[getE]
   by_cases h2:t=d
   ·rw[if_pos h2,if_pos h2]
   ·rw[if_neg h2,if_neg h2,if_neg (by omega)]
  ·simp only[getE,ih]
   by_cases h2:t=d
   ·rw[if_pos h2,if_pos h2]
    rw[if_neg (by omega)]
   ·rw[if_neg h2,if_neg h2]
def mvs:List Src->List Nat
 |[]=>[]
 |.tmp t true::r=>t::mvs r
 |_::r=>mvs r
theorem getE_kill(t:Nat):∀(ss:List Src)(env:Env),getE (ss.foldl killE env) t=if t∈mvs ss then .none else getE env t
 |[],env=>by simp[mvs]
 |.tmp u true::r,env=>by
  simp only[List.foldl_cons,killE,mvs,getE_kill t r,getE_del,List.mem_cons]
  by_cases h1:t∈mvs r
  ·simp[h1]
  ·by_cases h2:t=u
   ·simp[h2]
   ·simp[h1,h2]
 |.tmp u false::r,env=>by rw[List.foldl_cons,getE_kill t r];rfl
 |.const a::r,env=>by rw[List.foldl_cons,getE_kill t r];rfl
theorem getE_clear(t:Nat):∀(l:List Nat)(env:Env),getE (clearE l env) t=if t∈l then .none else getE env t
 |[],env=>by simp[clearE]
 |u::l,env=>by
  simp only[clearE,getE_clear t l,getE_del,List.mem_cons]
  by_cases h1:t∈l
  ·simp[h1]
  ·by_cases h2:t=u
   ·simp[h2]
   ·simp[h1,h2]
theorem getE_args(t:Nat):∀(k:Nat)(l:List AV),getE (argsE k l) t=if k<=t then (match l[t-k]? with|some v=>.val v|none=>.none) else .none
 |k,[]=>by simp[argsE,getE]
 |k,v::r=>by
  simp only[argsE,getE,getE_args t (k+1) r]
  by_cases h:k=t
  ·subst h;simp
  ·rw[if_neg h]
   by_cases h2:k<=t
   ·rw[if_pos h2,if_pos (by omega),show t-k=(t-(k+1))+1 by omega]
    simp
   ·rw[if_neg h2,if_neg (by omega)]
theorem noFp_get{j:Nat}:∀{env:Env},noFp j env=true->∀t,(getE env t).notFp j=true
 |[],_,_=>rfl
 |(k,x)::r,h,t=>by
  simp only[noFp,List.all_cons,Bool.and_eq_true]at h
  simp only[getE]
  split
  ·exact h.1
  ·exact noFp_get (env:=r) (by simpa [noFp] using h.2) t
def sumN(f:Nat->Nat):Nat->Nat
 |0=>0
 |n+1=>sumN f n+f n
theorem sumN_congr{f g:Nat->Nat}:∀{n:Nat},(∀t,t<n->f t=g t)->sumN f n=sumN g n
 |0,_=>rfl
 |n+1,h=>by simp only[sumN];rw[sumN_congr fun t ht=>h t (by omega),h n (by omega)]
theorem sumN_le{f g:Nat->Nat}:∀{n:Nat},(∀t,t<n->f t<=g t)->sumN f n<=sumN g n
 |0,_=>Nat.le_refl _
 |n+1,h=>by
  simp only[sumN]
  have h1:=sumN_le (f:=f) (g:=g) (n:=n) fun t ht=>h t (by omega)
  have h2:=h n (by omega)
  omega
theorem sumN_upd{f g:Nat->Nat}{d:Nat}:∀{n:Nat},d<n->(∀t,t≠d->f t=g t)->sumN f n+g d=sumN g n+f d
 |0,h,_=>by omega
 |n+1,h,he=>by
  simp only[sumN]
  by_cases hd:d=n
  ·subst hd
   rw[sumN_congr (f:=f) (g:=g) fun t ht=>he t (by omega)]
   omega
  ·have:=sumN_upd (f:=f) (g:=g) (n:=n) (d:=d) (by omega) he
   rw[he n fun e=>hd e.symm]
   omega
theorem sumN_get{f:Nat->Nat}{t n:Nat}(h:t<n):f t<=sumN f n:=by
 have:=sumN_upd (f:=fun u=>if u=t then 0 else f u) (g:=f) (d:=t) h fun u hu=>if_neg hu
 simp only[if_true]at this
 omega
theorem sumN_zero{n:Nat}:sumN (fun _=>0) n=0:=by
 induction n with
 |zero=>rfl
 |succ n ih=>simp[sumN,ih]
def sumL(f:Nat->Nat):List Nat->Nat
 |[]=>0
 |t::l=>f t+sumL f l
theorem sumL_le{f:Nat->Nat}{n:Nat}(hf:∀t,n<=t->f t=0):∀(l:List Nat),l.Nodup->sumL f l+sumN (fun t=>if t∈l then 0 else f t) n<=sumN f n
 |[],_=>by simp[sumL]
 |t::l,h=>by
  have ih:=sumL_le hf l (List.nodup_cons.1 h).2
  have hn:=(List.nodup_cons.1 h).1
  simp only[sumL]
  by_cases ht:t<n
  ·have:=sumN_upd (f:=fun u=>if u∈t::l then 0 else f u) (g:=fun u=>if u∈l then 0 else f u) (d:=t) ht fun u hu=>by simp[hu]
   simp only[List.mem_cons,true_or,if_true,if_neg hn]at this
   simp only[List.mem_cons]
   omega
  ·rw[hf t (by omega)]
   rw[sumN_congr (f:=fun u=>if u∈t::l then 0 else f u) (g:=fun u=>if u∈l then 0 else f u) fun u hu=>by simp[show u≠t by omega]]
   omega
mutual
def AV.under(n:Nat):AV->Bool
 |.mu i _|.ptr i _ _ _|.map i=>decide (i<n)
 |.agg cs|.tup cs=>AV.underL n cs
 |.fn _ a b=>AV.underL n a&&AV.underL n b
 |_=>true
def AV.underL(n:Nat):List AV->Bool
 |[]=>true
 |v::r=>v.under n&&AV.underL n r
end
theorem underL_iff(n:Nat):∀cs:List AV,AV.underL n cs=true↔∀c∈cs,c.under n=true
 |[]=>by simp[AV.underL]
 |c::cs=>by simp[AV.underL,underL_iff n cs]
mutual
theorem under_pure(n:Nat):∀a:AV,a.isPure=true->a.under n=true
 |.mu _ _,h=>by simp[AV.isPure]at h
 |.ptr _ _ _ _,h=>by simp[AV.isPure]at h
 |.map _,h=>by simp[AV.isPure]at h
 |.agg cs,h=>by simp only[AV.isPure,AV.under]at *;exact underL_pure n cs h
 |.tup cs,h=>by simp only[AV.isPure,AV.under]at *;exact underL_pure n cs h
 |.fn _ a b,h=>by simp only[AV.isPure,AV.under,Bool.and_eq_true]at *;exact⟨underL_pure n a h.1,underL_pure n b h.2⟩
 |.undef,_|.gone,_|.bool _,_|.int _ _,_|.str _,_|.nilPtr,_|.nilSl,_|.nilMap,_|.nilFn,_|.nilIf,_|.lst _ _,_|.own _ _,_|.raw _ _,_|.emp,_|.pel _ _ _ _,_=>by simp[AV.under]
theorem underL_pure(n:Nat):∀cs:List AV,AV.allPure cs=true->AV.underL n cs=true
 |[],_=>rfl
 |c::cs,h=>by
  simp only[AV.allPure,Bool.and_eq_true]at h
  simp only[AV.underL,under_pure n c h.1,underL_pure n cs h.2,Bool.and_self]
end
mutual
theorem under_mono{m n:Nat}(hmn:m<=n):∀a:AV,a.under m=true->a.under n=true
 |.mu _ _,h|.ptr _ _ _ _,h|.map _,h=>by simp only[AV.under,decide_eq_true_eq]at *;omega
 |.agg cs,h=>by simp only[AV.under]at *;exact underL_mono hmn cs h
 |.tup cs,h=>by simp only[AV.under]at *;exact underL_mono hmn cs h
 |.fn _ a b,h=>by simp only[AV.under,Bool.and_eq_true]at *;exact⟨underL_mono hmn a h.1,underL_mono hmn b h.2⟩
 |.undef,_|.gone,_|.bool _,_|.int _ _,_|.str _,_|.nilPtr,_|.nilSl,_|.nilMap,_|.nilFn,_|.nilIf,_|.lst _ _,_|.own _ _,_|.raw _ _,_|.emp,_|.pel _ _ _ _,_=>by simp[AV.under]
theorem underL_mono{m n:Nat}(hmn:m<=n):∀cs:List AV,AV.underL m cs=true->AV.underL n cs=true
 |[],_=>rfl
 |c::cs,h=>by
  simp only[AV.underL,Bool.and_eq_true]at *
  exact⟨under_mono hmn c h.1,underL_mono hmn cs h.2⟩
end
theorem RepV.isUnder{a:AV}{v:Value}(h:RepV w G a v):a.under G.ls.length=true:=by
 induction h with
 |agg cs vs hl h ih=>
  simp only[AV.under]
  refine(underL_iff _ cs).2 fun c hc=>?_
  obtain⟨i,hi,rfl⟩:=List.mem_iff_getElem.1 hc
  have hi':i<vs.size:=by omega
  exact ih i cs[i] vs[i] (List.getElem?_eq_getElem hi) (by simp[hi'])
 |tup cs vs hl h ih=>
  simp only[AV.under]
  refine(underL_iff _ cs).2 fun c hc=>?_
  obtain⟨i,hi,rfl⟩:=List.mem_iff_getElem.1 hc
  have hi':i<vs.size:=by omega
  exact ih i cs[i] vs[i] (List.getElem?_eq_getElem hi) (by simp[hi'])
 |mu id ver v loc hp hl hv he=>simpa [AV.under] using (List.getElem?_eq_some_iff.1 hl).1
 |ptr id ver i k v loc hp hl hv he=>simpa [AV.under] using (List.getElem?_eq_some_iff.1 hl).1
 |map id loc b hl hm hb=>simpa [AV.under] using (List.getElem?_eq_some_iff.1 hl).1
 |fn f first caps vf vc hl hm hn h k ih ik=>
  simp only[AV.under,Bool.and_eq_true]
  refine⟨(underL_iff _ first).2 fun c hc=>?_,(underL_iff _ caps).2 fun c hc=>?_⟩
  ·obtain⟨i,hi,rfl⟩:=List.mem_iff_getElem.1 hc
   have hi':i<vf.size:=by omega
   exact ih i first[i] vf[i] (List.getElem?_eq_getElem hi) (by simp[hi'])
  ·obtain⟨i,hi,rfl⟩:=List.mem_iff_getElem.1 hc
   have hi':i<vc.size:=by omega
   exact ik i caps[i] vc[i] (List.getElem?_eq_getElem hi) (by simp[hi'])
 |_=>simp[AV.under]
def Ghost.cut(G:Ghost)(n:Nat):Ghost:=⟨G.ls.take n,G.tip⟩
theorem cut_get{n i:Nat}{loc:Loc}(h:G.ls[i]?=some loc)(hi:i<n):(G.cut n).ls[i]?=some loc:=by
 simp only[Ghost.cut];rw[List.getElem?_take,if_pos hi];exact h
theorem RepV.cutG{n:Nat}{a:AV}{v:Value}(h:RepV w G a v):a.under n=true->RepV w (G.cut n) a v:=by
 induction h with
 |undef=>exact fun _=>.undef
 |gone v h=>exact fun _=>.gone v h
 |bool b=>exact fun _=>.bool b
 |int k n=>exact fun _=>.int k n
 |str l s h=>exact fun _=>.str l s h
 |nilPtr=>exact fun _=>.nilPtr
 |nilSl=>exact fun _=>.nilSl
 |nilMap=>exact fun _=>.nilMap
 |nilFn=>exact fun _=>.nilFn
 |nilIf=>exact fun _=>.nilIf
 |agg cs vs hl h ih=>exact fun hb=>.agg cs vs hl fun i c v h1 h2=>ih i c v h1 h2 ((underL_iff n cs).1 (by simpa [AV.under] using hb) c (mem_get h1))
 |tup cs vs hl h ih=>exact fun hb=>.tup cs vs hl fun i c v h1 h2=>ih i c v h1 h2 ((underL_iff n cs).1 (by simpa [AV.under] using hb) c (mem_get h1))
 |lst sz rows a cap hsp hcap hfit hno hpu hce hc hr ih=>
  exact fun _=>.lst sz rows a cap hsp hcap hfit hno hpu hce hc fun i r j c v h1 h2 h3=>ih i r j c v h1 h2 h3 (under_pure n c ((allPure_iff r).1 (hpu r (mem_get h1)) c (mem_get h2)))
 |own sz rows a cap hsp hcap hfit hno hpu hce hc hr htip hblk ih=>
  exact fun _=>.own sz rows a cap hsp hcap hfit hno hpu hce hc (fun i r j c v h1 h2 h3=>ih i r j c v h1 h2 h3 (under_pure n c ((allPure_iff r).1 (hpu r (mem_get h1)) c (mem_get h2)))) htip hblk
 |raw sz rows a cap hsp hcap hfit hno hpu hce hc hr htip hblk ih=>
  exact fun _=>.raw sz rows a cap hsp hcap hfit hno hpu hce hc (fun i r j c v h1 h2 h3=>ih i r j c v h1 h2 h3 (under_pure n c ((allPure_iff r).1 (hpu r (mem_get h1)) c (mem_get h2)))) htip hblk
 |emp a=>exact fun _=>.emp a
 |mu id ver v loc hp hl hv he=>exact fun hb=>.mu id ver v loc hp (cut_get hl (by simpa [AV.under] using hb)) hv he
 |ptr id ver i k v loc hp hl hv he=>exact fun hb=>.ptr id ver i k v loc hp (cut_get hl (by simpa [AV.under] using hb)) hv he
 |pel sz rows i k a cap hs ih=>exact fun _=>.pel sz rows i k a cap (ih (by simp[AV.under]))
 |map id loc b hl hm hb=>exact fun hb'=>.map id loc b (cut_get hl (by simpa [AV.under] using hb')) hm hb
 |fn f first caps vf vc hl hm hn h k ih ik=>
  intro hb
  simp only[AV.under,Bool.and_eq_true]at hb
  exact .fn f first caps vf vc hl hm hn (fun i c v h1 h2=>ih i c v h1 h2 ((underL_iff n first).1 hb.1 c (mem_get h1))) fun i c v h1 h2=>ik i c v h1 h2 ((underL_iff n caps).1 hb.2 c (mem_get h1))
def AObj.under(n:Nat):AObj->Bool
 |.rows _ _ rs=>rs.all (AV.underL n)
 |.map es=>es.all fun e=>e.1.under n&&e.2.under n
theorem RepO.cutG{n:Nat}{ob:AObj}{loc:Loc}(h:RepO w G ob loc)(hb:ob.under n=true):RepO w (G.cut n) ob loc:=by
 cases ob with
 |rows ver sz rows=>
  obtain⟨h1,h2,h3⟩:=h
  simp only[AObj.under,List.all_eq_true]at hb
  refine⟨h1,h2,h3.fit,h3.cel,h3.len,h3.size,h3.vlen,fun i r xs e1 e2=>?_,h3.lies⟩
  obtain⟨a1,a2⟩:=h3.reps i r xs e1 e2
  exact⟨a1,fun j c v g1 g2=>(a2 j c v g1 g2).cutG ((underL_iff n r).1 (hb r (mem_get e1)) c (mem_get g1))⟩
 |map es=>
  obtain⟨h1,h2,b,es',clock,h3,h4,h5,h6,h7⟩:=h
  simp only[AObj.under,List.all_eq_true,Bool.and_eq_true]at hb
  refine⟨h1,h2,b,es',clock,h3,h4,h5,h6,fun i k v e e1 e2=>?_⟩
  obtain⟨g1,g2,g3,g4⟩:=h7 i k v e e1 e2
  have:=hb (k,v) (mem_get e1)
  exact⟨g1.cutG this.1,g2.cutG this.2,g3,g4⟩
theorem RepO.isUnder{ob:AObj}{loc:Loc}(h:RepO w G ob loc):ob.under G.ls.length=true:=by
 cases ob with
 |rows ver sz rows=>
  obtain⟨h1,h2,h3⟩:=h
  simp only[AObj.under,List.all_eq_true]
  intro r hr
  obtain⟨i,hi,rfl⟩:=List.mem_iff_getElem.1 hr
  have hi':i<loc.vals.length:=by rw[h3.vlen];exact hi
  obtain⟨a1,a2⟩:=h3.reps i rows[i] loc.vals[i] (List.getElem?_eq_getElem hi) (List.getElem?_eq_getElem hi')
  refine(underL_iff _ _).2 fun c hc=>?_
  obtain⟨j,hj,rfl⟩:=List.mem_iff_getElem.1 hc
  have hj':j<loc.vals[i].length:=by omega
  exact(a2 j _ _ (List.getElem?_eq_getElem hj) (List.getElem?_eq_getElem hj')).isUnder
 |map es=>
  obtain⟨h1,h2,b,es',clock,h3,h4,h5,h6,h7⟩:=h
  simp only[AObj.under,List.all_eq_true,Bool.and_eq_true]
  intro x hx
  obtain⟨i,hi,rfl⟩:=List.mem_iff_getElem.1 hx
  have hi':i<es'.size:=by omega
  obtain⟨g1,g2,_,_⟩:=h7 i es[i].1 es[i].2 es'[i] (List.getElem?_eq_getElem hi) (by simp[hi'])
  exact⟨g1.isUnder,g2.isUnder⟩
def LimOk(l:Nat)(st:Store):Prop:=∀(id:Nat) ob,id<l->st[id]?=some ob->ob.under l=true
theorem Inv.limOk{st:Store}(h:Inv w G st):LimOk st.length st:=by
 intro id ob _ hob
 obtain⟨loc,hl,hr⟩:=h.loc hob
 rw[<-h.len];exact hr.isUnder
theorem Inv.cutG{st:Store}{n:Nat}(h:Inv w G st)(hl:LimOk n st):Inv w (G.cut n) (st.take n) where
 len:=by simp[Ghost.cut,h.len]
 obj:=fun id ob loc h1 h2=>by
  simp only[Ghost.cut]at h2
  rw[List.getElem?_take]at h1 h2
  split at h1
  ·rename_i hid
   rw[if_pos hid]at h2
   exact(h.obj id ob loc h1 h2).cutG (hl id ob hid h1)
  ·cases h1
 tips:=h.tips
theorem stp_cut{n:Nat}(h:Stp w G w' G')(hn:G.ls.length<=n):Stp w G w' (G'.cut n) where
 imm:=h.imm
 ids:=fun id loc hl=>by
  obtain⟨loc',a1,a2,a3⟩:=h.ids id loc hl
  exact⟨loc',cut_get a1 (by have:=(List.getElem?_eq_some_iff.1 hl).1;omega),a2,a3⟩
theorem cntS_take(b:Nat):∀(n:Nat)(ls:List Loc)(st:Store),cntS b (ls.take n) (st.take n)<=cntS b ls st
 |0,ls,st=>by simp[cntS]
 |n+1,[],st=>by simp[cntS]
 |n+1,l::ls,[]=>by simp[cntS]
 |n+1,l::ls,o::st=>by
  have:=cntS_take b n ls st
  simp only[List.take_succ_cons,cntS];omega
end Ax
namespace Ax
open Go
structure Keeps (wl lim:Nat)(st st':Store):Prop where
 len:st.length<=st'.length
 low:∀id,id<wl->id<st.length->st'[id]?=st[id]?
 lim:∀l,l<=lim->l<=st.length->LimOk l st->LimOk l st'
variable {wl lim:Nat}{st st' st'':Store}
theorem Keeps.refl(wl lim:Nat)(st:Store):Keeps wl lim st st:=⟨Nat.le_refl _,fun _ _ _=>rfl,fun _ _ _ h=>h⟩
theorem Keeps.trans(h:Keeps wl lim st st')(k:Keeps wl lim st' st''):Keeps wl lim st st'':=
 ⟨Nat.le_trans h.len k.len,fun id h1 h2=>(k.low id h1 (Nat.lt_of_lt_of_le h2 h.len)).trans (h.low id h1 h2),fun l h1 h2 h3=>k.lim l h1 (Nat.le_trans h2 h.len) (h.lim l h1 h2 h3)⟩
theorem Keeps.push(wl lim:Nat)(st:Store)(ob:AObj):Keeps wl lim st (st++[ob]) where
 len:=by simp
 low:=fun id _ h=>by rw[List.getElem?_append_left h]
 lim:=fun l _ h1 h2 id ob' h3 h4=>h2 id ob' h3 (by rwa [List.getElem?_append_left (by omega)]at h4)
theorem Keeps.set{id:Nat}{ob ob':AObj}(hst:st[id]?=some ob)(hw:wl<=id)(h:∀l,l<=lim->id<l->ob.under l=true->ob'.under l=true):Keeps wl lim st (st.set id ob') where
 len:=by simp
 low:=fun i h1 _=>by rw[List.getElem?_set,if_neg (by omega)]
 lim:=fun l h1 h2 h3 i ob2 h4 h5=>by
  rw[List.getElem?_set]at h5
  split at h5
  ·rename_i e;subst e
   split at h5
   ·cases h5;exact h l h1 h4 (h3 _ ob h4 hst)
   ·cases h5
  ·exact h3 i ob2 h4 h5
theorem under_rows{l ver sz:Nat}{rs:List (List AV)}:(AObj.rows ver sz rs).under l=true↔∀r∈rs,∀c∈r,c.under l=true:=by
 simp only[AObj.under,List.all_eq_true]
 exact⟨fun h r hr=>(underL_iff l r).1 (h r hr),fun h r hr=>(underL_iff l r).2 (h r hr)⟩
theorem mem_paste{α:Type}{as vs:List α}{k:Nat}{x:α}(h:k+vs.length<=as.length)(hx:x∈paste as k vs):x∈as\/x∈vs:=by
 rw[paste_eq _ _ _ h]at hx
 rcases List.mem_append.1 hx with hx|hx
 ·rcases List.mem_append.1 hx with hx|hx
  ·exact .inl (List.mem_of_mem_take hx)
  ·exact .inr hx
 ·exact .inl (List.mem_of_mem_drop hx)
theorem writeP_keeps{p:AV}{cells:List AV}(h:writeP wl lim st p cells=some st')(hc:∀id ver i k,p=.ptr id ver i k->True:=fun _ _ _ _ _=>trivial):Keeps wl lim st st':=by
 unfold writeP at h
 split at h
 ·split at h
  ·rename_i v sz rows hst
   split at h
   ·rename_i hcond
    simp only[Bool.and_eq_true,decide_eq_true_eq,mayWrite,Bool.or_eq_true]at hcond
    obtain⟨_,hw,hl⟩:=hcond
    split at h
    ·rename_i r hr
     split at h
     ·rename_i hfit
      cases h
      refine Keeps.set hst hw fun l h1 h2 h3=>?_
      rw[under_rows]at h3 ⊢
      intro r' hr' c hc'
      rcases List.mem_or_eq_of_mem_set hr' with h4|h4
      ·exact h3 r' h4 c hc'
      ·subst h4
       rcases mem_paste hfit hc' with h5|h5
       ·exact h3 r (mem_get hr) c h5
       ·rcases hl with hl|hl
        ·omega
        ·exact under_pure l c ((allPure_iff cells).1 hl c h5)
     ·cases h
    ·cases h
   ·cases h
  ·cases h
 ·cases h
theorem appM_keeps{sz bytes:Nat}{s:AV}{new:List (List AV)}{bx bx':Boxes}{r:Ent}(h:appM wl lim sz bytes s new st bx=some (r,st',bx')):Keeps wl lim st st':=by
 unfold appM at h
 split at h
 ·split at h
  ·split at h
   ·cases h;exact Keeps.refl _ _ _
   ·split at h
    ·cases h;exact Keeps.push _ _ _ _
    ·cases h
  ·split at h
   ·cases h;exact Keeps.push _ _ _ _
   ·cases h
  ·split at h
   ·rename_i hst
    split at h
    ·rename_i hc
     simp only[Bool.and_eq_true,decide_eq_true_eq,Bool.or_eq_true,List.all_eq_true]at hc
     cases h
     refine Keeps.set hst hc.1.2 fun l h1 h2 h3=>?_
     rw[under_rows]at h3 ⊢
     intro r hr c hcr
     rcases List.mem_append.1 hr with h4|h4
     ·exact h3 r h4 c hcr
     ·rcases hc.2 with h5|h5
      ·omega
      ·exact under_pure l c ((allPure_iff r).1 (h5 r h4) c hcr)
    ·cases h
   ·cases h
  ·cases h
 ·cases h
theorem act0_keeps{op:SOp}{vals:List Ent}{bx bx':Boxes}{r:Ent}(h:act0 wl lim op vals st bx=some (r,st',bx')):Keeps wl lim st st':=by
 cases op
 case load agg n take=>
  unfold act0 at h
  simp only at h
  split at h
  ·split at h
   ·split at h
    ·split at h
     ·rename_i hw _;cases h;exact writeP_keeps hw
     ·cases h
    ·split at h
     ·cases h;exact Keeps.refl _ _ _
     ·cases h
   ·cases h
  ·cases h
 case store n=>
  unfold act0 at h
  simp only at h
  split at h
  ·split at h
   ·split at h
    ·rename_i hw;cases h;exact writeP_keeps hw
    ·cases h
   ·cases h
  ·cases h
 case sliceM sz=>
  unfold act0 at h
  simp only at h
  split at h
  ·split at h
   ·rename_i hst
    split at h
    ·rename_i hc
     simp only[Bool.and_eq_true,decide_eq_true_eq]at hc
     cases h
     refine Keeps.set hst hc.2 fun l _ _ h3=>?_
     rw[under_rows]at h3 ⊢
     exact fun r hr=>h3 r (List.mem_of_mem_take hr)
    ·cases h
   ·cases h
  ·cases h
 case appendM sz bytes=>
  unfold act0 at h
  simp only at h
  split at h
  ·split at h
   ·cases h
   ·exact appM_keeps h
  ·cases h
 case appendZ sz bytes zero=>
  unfold act0 at h
  simp only at h
  split at h
  ·split at h
   ·exact appM_keeps h
   ·cases h
  ·cases h
 case copy sz=>
  unfold act0 at h
  simp only at h
  split at h
  ·split at h
   ·rename_i hst hnew
    split at h
    ·rename_i hc
     simp only[Bool.and_eq_true,decide_eq_true_eq,Bool.or_eq_true,List.all_eq_true]at hc
     cases h
     refine Keeps.set hst hc.1.2 fun l h1 h2 h3=>?_
     rw[under_rows]at h3 ⊢
     intro r hr c hcr
     rcases List.mem_append.1 hr with h4|h4
     ·rcases hc.2 with h5|h5
      ·omega
      ·exact under_pure l c ((allPure_iff r).1 (h5 r h4) c hcr)
     ·exact h3 r (List.mem_of_mem_drop h4) c hcr
    ·cases h
   ·cases h
  ·cases h
 case mapUpdate kk=>
  unfold act0 at h
  simp only at h
  split at h
  ·rename_i id k v
   split at h
   ·rename_i es hst
    split at h
    ·rename_i hc
     simp only[Bool.and_eq_true,mayWrite,decide_eq_true_eq,Bool.or_eq_true]at hc
     split at h
     ·rename_i es' hput
      cases h
      refine Keeps.set hst hc.2.1 fun l h1 h2 h3=>?_
      have hk:k.under l=true:=by
       have:=hc.1
       unfold isKey at this
       split at this<;>first|rfl|cases this
      have hv:v.view.under l=true:=by
       rcases hc.2.2 with h5|h5
       ·omega
       ·simp only[AV.allPure,Bool.and_true]at h5
        exact under_pure l _ (isPure_view v h5)
      clear hst
      simp only[AObj.under,List.all_eq_true,Bool.and_eq_true]at h3 ⊢
      have key:∀(es es':List (AV×AV)),(∀x∈es,x.1.under l=true/\x.2.under l=true)->putV kk k v.view es=some es'->∀x∈es',x.1.under l=true/\x.2.under l=true:=by
       intro es
       induction es with
       |nil=>intro es' _ h x hx;simp[putV]at h;subst h;simp at hx;subst hx;exact⟨hk,hv⟩
       |cons c es ih=>
        intro es' hes h
        obtain⟨a,u⟩:=c
        simp only[putV]at h
        split at h
        ·cases h
         intro x hx
         rcases List.mem_cons.1 hx with rfl|hx
         ·exact⟨hk,hv⟩
         ·exact hes x (by simp[hx])
        ·split at h
         ·rename_i r' hr'
          cases h
          intro x hx
          rcases List.mem_cons.1 hx with rfl|hx
          ·exact hes _ (by simp)
          ·exact ih r' (fun x hx=>hes x (by simp[hx])) hr' x hx
         ·cases h
        ·cases h
      exact key es es' h3 hput
     ·cases h
    ·cases h
   ·cases h
  ·cases h
 all_goals
  unfold act0 at h
  simp only at h
  repeat' split at h
 all_goals first
  |(cases h;exact Keeps.refl _ _ _)
  |(cases h;exact Keeps.push _ _ _ _)
  |cases h
structure OKeeps (O:Orc):Prop where
 call:∀wl lim f args st v st',O.call wl lim f args st=some (v,st')->Keeps wl lim st st'
 loop:∀wl lim rs c s x s',O.loop wl lim rs c s=some (x,s')->Keeps wl lim s.st s'.st
variable {O:Orc}
theorem act_keeps(hO:OKeeps O){op:SOp}{vals:List Ent}{bx bx':Boxes}{r:Ent}(h:act O wl lim op vals st bx=some (r,st',bx')):Keeps wl lim st st':=by
 have call:∀x,actCall O wl lim x st bx=some (r,st',bx')->Keeps wl lim st st':=by
  intro x h
  unfold actCall at h
  split at h
  ·split at h
   ·rename_i hc;cases h;exact hO.call _ _ _ _ _ _ _ hc
   ·cases h
  ·cases h
 unfold act at h
 split at h
 ·exact call _ h
 ·exact call _ h
 ·exact act0_keeps h
theorem evalOp_keeps(hO:OKeeps O){o:SOper}{s s':St}(h:evalOp O wl lim o s=some s'):Keeps wl lim s.st s'.st:=by
 unfold evalOp at h
 split at h
 ·cases h
 ·cases h;exact Keeps.refl _ _ _
 ·split at h
  ·cases h
  ·rename_i ha
   have hk:=act_keeps hO ha
   split at h
   ·cases h;exact hk
   ·split at h
    ·cases h;exact hk
    ·cases h
theorem evalOps_keeps(hO:OKeeps O):∀{l:List SOper}{s s':St},evalOps O wl lim l s=some s'->Keeps wl lim s.st s'.st
 |[],s,s',h=>by simp only[evalOps,Option.some.injEq]at h;subst h;exact Keeps.refl _ _ _
 |o::l,s,s',h=>by
  simp only[evalOps]at h
  split at h
  ·rename_i s1 h1;exact(evalOp_keeps hO h1).trans (evalOps_keeps hO h)
  ·cases h
theorem evalRec_keeps(hO:OKeeps O):∀{l:List SOper}{s s':St}{sts:List St},evalRec O wl lim l s=some (s',sts)->Keeps wl lim s.st s'.st
 |[],s,s',sts,h=>by simp only[evalRec,Option.some.injEq,Prod.mk.injEq]at h;obtain⟨rfl,_⟩:=h;exact Keeps.refl _ _ _
 |o::l,s,s',sts,h=>by
  simp only[evalRec]at h
  split at h
  ·rename_i s1 h1
   split at h
   ·rename_i h2;cases h;exact(evalOp_keeps hO h1).trans (evalRec_keeps hO h2)
   ·cases h
  ·cases h
theorem evalDraw_keeps(hO:OKeeps O){l:List SOper}{pairs:List (Nat×Nat)}{s s':St}(h:evalDraw O wl lim l pairs s=some s'):Keeps wl lim s.st s'.st:=by
 unfold evalDraw at h
 split at h
 ·cases h
 ·rename_i hr
  split at h
  ·cases h;exact evalRec_keeps hO hr
  ·cases h
theorem freezeC_keeps{a a':AV}(h:freezeC wl a st=some (a',st')):Keeps wl lim st st':=by
 unfold freezeC at h
 split at h
 ·split at h
  ·rename_i hst
   split at h
   ·rename_i hc
    simp only[Bool.and_eq_true,decide_eq_true_eq]at hc
    cases h
    exact Keeps.set hst hc.2 fun l _ _ _=>by simp[AObj.under]
   ·cases h
  ·cases h
 ·split at h
  ·cases h;exact Keeps.refl _ _ _
  ·cases h
theorem freezeL_keeps:∀{l l':List AV}{st st':Store},freezeL wl l st=some (l',st')->Keeps wl lim st st'
 |[],l',st,st',h=>by simp only[freezeL,Option.some.injEq,Prod.mk.injEq]at h;obtain⟨_,rfl⟩:=h;exact Keeps.refl _ _ _
 |a::l,l',st,st',h=>by
  simp only[freezeL]at h
  split at h
  ·rename_i h1
   split at h
   ·rename_i h2;cases h;exact(freezeC_keeps h1).trans (freezeL_keeps h2)
   ·cases h
  ·cases h
theorem freezeLL_keeps:∀{l l':List (List AV)}{st st':Store},freezeLL wl l st=some (l',st')->Keeps wl lim st st'
 |[],l',st,st',h=>by simp only[freezeLL,Option.some.injEq,Prod.mk.injEq]at h;obtain⟨_,rfl⟩:=h;exact Keeps.refl _ _ _
 |a::l,l',st,st',h=>by
  simp only[freezeLL]at h
  split at h
  ·rename_i h1
   split at h
   ·rename_i h2;cases h;exact(freezeL_keeps h1).trans (freezeLL_keeps h2)
   ·cases h
  ·cases h
theorem freezeV_keeps{a a':AV}(h:freezeV wl a st=some (a',st')):Keeps wl lim st st':=by
 unfold freezeV at h
 split at h
 ·split at h
  ·rename_i hst
   split at h
   ·rename_i hc
    simp only[Bool.and_eq_true,decide_eq_true_eq]at hc
    split at h
    ·rename_i hl
     cases h
     exact(Keeps.set (lim:=lim) hst hc.2 fun l _ _ _=>by simp[AObj.under]).trans (freezeLL_keeps hl)
    ·cases h
   ·cases h
  ·cases h
 ·cases h;exact Keeps.refl _ _ _
 ·cases h
theorem freezeH_keeps{a a':AV}(h:freezeH wl a st=some (a',st')):Keeps wl lim st st':=by
 unfold freezeH at h
 split at h
 ·cases h;exact Keeps.push _ _ _ _
 ·exact freezeV_keeps h
theorem sem_keeps(hO:OKeeps O){rs:List SRes}:∀{c:SCode}{s:St}{x:Ex}{s':St},sem O wl lim rs c s=some (x,s')->Keeps wl lim s.st s'.st
 |.skip,s,x,s',h=>by simp only[sem,Option.some.injEq,Prod.mk.injEq]at h;obtain⟨_,rfl⟩:=h;exact Keeps.refl _ _ _
 |.region ops draw clr,s,x,s',h=>by
  simp only[sem]at h
  split at h
  ·rename_i s1 h1
   cases h
   show Keeps wl lim s.st s1.st
   cases draw with
   |none=>exact evalOps_keeps hO (by simpa only using h1)
   |some pairs=>exact evalDraw_keeps hO (by simpa only using h1)
  ·cases h
 |.seq a b,s,x,s',h=>by
  simp only[sem]at h
  split at h
  ·rename_i s1 h1;exact(sem_keeps hO h1).trans (sem_keeps hO h)
  ·exact sem_keeps hO h
 |.cond c ca a cb b,s,x,s',h=>by
  simp only[sem]at h
  split at h
  ·have:=sem_keeps (c:=a) hO h
   exact this
  ·have:=sem_keeps (c:=b) hO h
   exact this
  ·cases h
 |.block id c,s,x,s',h=>by
  simp only[sem]at h
  split at h
  ·rename_i h1
   split at h<;>(cases h;exact sem_keeps hO h1)
  ·exact sem_keeps hO h
 |.loop c,s,x,s',h=>by simp only[sem]at h;exact hO.loop _ _ _ _ _ _ _ h
 |.exit id,s,x,s',h=>by simp only[sem,Option.some.injEq,Prod.mk.injEq]at h;obtain⟨_,rfl⟩:=h;exact Keeps.refl _ _ _
 |.ret,s,x,s',h=>by
  simp only[sem]at h
  split at h
  ·cases h;exact Keeps.refl _ _ _
  ·cases h
 |.frz t,s,x,s',h=>by
  simp only[sem]at h
  split at h
  ·split at h
   ·rename_i hf;cases h;exact freezeV_keeps hf
   ·cases h
  ·cases h
 |.frzB j k,s,x,s',h=>by
  simp only[sem]at h
  split at h
  ·split at h
   ·split at h
    ·rename_i hf;cases h;exact freezeV_keeps hf
    ·cases h
   ·cases h
  ·cases h
 |.frzH t off,s,x,s',h=>by
  obtain⟨_,id,ver,i,k,v,v',st1,st2,_,_,g3,g4,rfl⟩:=sem_frzH h
  exact(freezeH_keeps g3).trans (writeP_keeps g4)
theorem mode_cases:∀m:Mode,m=.pure\/m=.scp\/m=.opn:=by
 intro m
 cases m<;>simp
theorem callBody0_keeps(hO:OKeeps O){sf:SFunc}{args:List AV}{v:AV}(h:callBody0 O wl lim sf args st=some (v,st')):Keeps wl lim st st':=by
 unfold callBody0 at h
 split at h
 ·split at h
  ·rename_i x s hs
   split at h
   ·rename_i u hu
    have hk:=sem_keeps hO hs
    simp only[begS]at hk
    rcases mode_cases sf.mode with hm|hm|hm
    ·rw[hm]at h
     simp only[Mode.fin]at h
     split at h
     ·cases h;exact Keeps.refl _ _ _
     ·cases h
    ·rw[hm]at h hk
     simp only[Mode.fin]at h
     simp only[Mode.wlOf,Mode.limOf]at hk
     split at h
     ·cases h
      refine⟨by rw[List.length_take];have:=hk.len;omega,fun id h1 h2=>?_,fun l h1 h2 h3 id ob h4 h5=>?_⟩
      ·rw[List.getElem?_take,if_pos h2];exact hk.low id h1 h2
      ·rw[List.getElem?_take]at h5
       split at h5
       ·exact hk.lim l h2 h2 h3 id ob h4 h5
       ·cases h5
     ·cases h
    ·rw[hm]at h hk
     simp only[Mode.fin]at h
     cases h
     exact hk
   ·cases h
  ·cases h
 ·cases h
theorem callBody_keeps(hO:OKeeps O){sf:SFunc}{args:List AV}{v:AV}(h:callBody O wl lim sf args st=some (v,st')):Keeps wl lim st st':=by
 unfold callBody at h
 split at h
 ·simp only[Option.map_eq_some_iff]at h
  obtain⟨x,_,hx⟩:=h
  cases hx
  exact Keeps.refl _ _ _
 ·exact callBody0_keeps hO h
theorem orc_keeps(S:Nat->Option SFunc):∀n,OKeeps (orc S n)
 |0=>⟨fun _ _ _ _ _ _ _ h=>by simp[orc]at h,fun _ _ _ _ _ _ _ h=>by simp[orc]at h⟩
 |n+1=>by
  have ih:=orc_keeps S n
  refine⟨fun wl lim f args st v st' h=>?_,fun wl lim rs c s x s' h=>?_⟩
  ·simp only[orc]at h
   split at h
   ·exact callBody_keeps ih h
   ·cases h
  ·simp only[orc]at h
   split at h
   ·rename_i s1 h1;exact(sem_keeps ih h1).trans (ih.loop _ _ _ _ _ _ _ h)
   ·exact sem_keeps ih h
end Ax
namespace Ax
open Go
variable {P:Program}{w w':World}{G G':Ghost}{β β':List BxG}
abbrev tau(a:Act)(t:Nat):Value:=a.tmps.getD t undef
structure FS (w:World)(G:Ghost)(β:List BxG)(a:Act)(η:Nat->Ent)(bx:Boxes)(st:Store)(n:Nat):Prop where
 defs:a.defers=[]
 size:n<=a.tmps.size
 rep:∀t,RepE w G β (η t) (tau a t)
 lt:∀t,n<=t->η t=.none
 inv:Inv w G st
 box:RepB w G β bx
def tot(β:List BxG)(a:Act)(η:Nat->Ent)(bx:Boxes)(st:Store)(G:Ghost)(n:Nat)(b:Nat):Nat:=
 sumN (fun t=>cntE b (η t) (tau a t)) n+cntB b β bx+cntS b G.ls st
structure Mv (w:World)(G:Ghost)(A:Nat->Nat)(w':World)(G':Ghost)(A':Nat->Nat):Prop where
 stp:Stp w G w' G'
 cnt:∀b,b<w.heap.size->A' b<=A b
 one:∀b,A' b<=1
 far:∀b,b<w.heap.size->A b=0->Untouched w G w' G' b
 size:w.heap.size<=w'.heap.size
 os:w'.os=w.os
 out:w'.output=w.output
theorem Mv.refl{A:Nat->Nat}(h:∀b,A b<=1):Mv w G A w G A:=⟨Stp.refl w G,fun _ _=>Nat.le_refl _,h,fun _ _ _=>⟨rfl,rfl⟩,Nat.le_refl _,rfl,rfl⟩
theorem Untouched.trans{w1 w2 w3:World}{G1 G2 G3:Ghost}{b:Nat}(h:Untouched w1 G1 w2 G2 b)(k:Untouched w2 G2 w3 G3 b):Untouched w1 G1 w3 G3 b:=⟨k.1.trans h.1,k.2.trans h.2⟩
theorem Mv.trans{A A' A'':Nat->Nat}{w'':World}{G'':Ghost}(h:Mv w G A w' G' A')(k:Mv w' G' A' w'' G'' A''):Mv w G A w'' G'' A'' where
 stp:=h.stp.trans k.stp
 cnt:=fun b hb=>Nat.le_trans (k.cnt b (Nat.lt_of_lt_of_le hb h.size)) (h.cnt b hb)
 one:=k.one
 far:=fun b hb h0=>(h.far b hb h0).trans (k.far b (Nat.lt_of_lt_of_le hb h.size) (by have:=h.cnt b hb;omega))
 size:=Nat.le_trans h.size k.size
 os:=k.os.trans h.os
 out:=k.out.trans h.out
theorem Mv.weaken{A A' B B':Nat->Nat}(h:Mv w G A w' G' A')(hB:∀b,A b<=B b)(hc:∀b,b<w.heap.size->B' b<=B b)(ho:∀b,B' b<=1):Mv w G B w' G' B':=
 ⟨h.stp,hc,ho,fun b hb h0=>h.far b hb (by have:=hB b;omega),h.size,h.os,h.out⟩
theorem cntE_held{e:Ent}{v:Value}{b:Nat}(h:RepE w G β e v)(hb:0<cntE b e v):b<w.heap.size:=by
 cases e with
 |none=>simp[cntE]at hb
 |fp j k=>simp[cntE]at hb
 |val a=>exact RepV.held h hb
section
variable {a:Act}{η:Nat->Ent}{bx:Boxes}{st:Store}{n:Nat}
theorem FS.held(h:FS w G β a η bx st n){b:Nat}(hb:0<tot β a η bx st G n b):b<w.heap.size:=by
 unfold tot at hb
 by_cases h1:0<cntB b β bx
 ·exact h.box.held h1
 ·by_cases h2:0<cntS b G.ls st
  ·exact h.inv.held h2
  ·have h3:0<sumN (fun t=>cntE b (η t) (tau a t)) n:=by omega
   have key:∀n,0<sumN (fun t=>cntE b (η t) (tau a t)) n->∃t,0<cntE b (η t) (tau a t):=by
    intro n
    induction n with
    |zero=>intro h;simp[sumN]at h
    |succ n ih=>
     intro h
     simp only[sumN]at h
     by_cases h0:0<cntE b (η n) (tau a n)
     ·exact⟨n,h0⟩
     ·exact ih (by omega)
   obtain⟨t,ht⟩:=key n h3
   exact cntE_held (h.rep t) ht
end
theorem RepE.bx{e:Ent}{v:Value}{nb:Option Nat}(h:RepE w G β e v)(hb:BxStep nb β β')(hn:∀j,nb=some j->e.notFp j=true):RepE w G β' e v:=by
 cases e with
 |none=>trivial
 |val a=>exact h
 |fp j k=>
  obtain⟨g,b,h1,h2,h3⟩:=h
  obtain⟨g',a1,a2⟩:=hb j g h1
  refine⟨g',b,a1,(a2 fun e=>?_).trans h2,h3⟩
  have:=hn j e
  simp[Ent.notFp]at this
theorem RepE.stp{e:Ent}{v:Value}(h:RepE w G β e v)(hs:Stp w G w' G')(hu:∀b,0<cntE b e v->Untouched w G w' G' b):RepE w' G' β e v:=by
 cases e with
 |none=>trivial
 |val a=>exact RepV.stp h hs hu
 |fp j k=>exact h
def rdH(η:Nat->Ent):Src->Ent
 |.tmp t true=>η t
 |.tmp t false=>(η t).view
 |.const a=>.val a
theorem rdE_rdH(env:Env)(s:Src):rdE env s=rdH (getE env) s:=by
 cases s with
 |tmp t mv=>cases mv<;>rfl
 |const a=>rfl
def wantedH(η:Nat->Ent):Option (Nat×Bool)->Option Bool
 |none=>some true
 |some (t,b)=>match η t with
  |.val (.bool c)=>some (c==b)
  |.val .undef=>some false
  |_=>none
theorem wantedE_H(env:Env)(g:Option (Nat×Bool)):wantedE env g=wantedH (getE env) g:=by
 cases g with
 |none=>rfl
 |some x=>rfl
def putH(η:Nat->Ent)(dst:Option Nat)(e:Ent):Nat->Ent:=fun t=>if dst=some t then e else η t
def killH(η:Nat->Ent)(l:List Nat):Nat->Ent:=fun t=>if t∈l then .none else η t
theorem mSrc_ok{a:Act}{η:Nat->Ent}(hr:∀t,RepE w G β (η t) (tau a t)):∀{x:Operand}{s:Src},mSrc x s=true->RepE w G β (rdH η s) (a.eval x)/\∀b,cntE b (rdH η s) (a.eval x)<=sumL (fun t=>cntE b (η t) (tau a t)) (mvs [s])
 |.tmp t,.tmp u true,h=>by
  simp only[mSrc,beq_iff_eq]at h
  subst h
  exact⟨hr t,fun b=>by simp only[mvs,sumL,rdH];exact Nat.le_refl _⟩
 |.tmp t,.tmp u false,h=>by
  simp only[mSrc,beq_iff_eq]at h
  subst h
  exact⟨(hr t).view,fun b=>by simp only[rdH,cntE_view];omega⟩
 |.const v,.const c,h=>by
  simp only[mSrc]at h
  obtain⟨h1,h2,_⟩:=constIs_ok h w G
  exact⟨h1,fun b=>by simp only[rdH,cntE,cnt_noOwn b c _ h2];omega⟩
 |.func f,.const (.fn g [] []),h=>by
  simp only[mSrc,Bool.and_eq_true,beq_iff_eq,decide_eq_true_eq]at h
  obtain⟨rfl,hf⟩:=h
  exact⟨RepV.fn f [] [] #[] #[] rfl rfl ⟨rfl,rfl,hf⟩ (fun i c v h=>by simp at h) (fun i c v h=>by simp at h),fun b=>by simp[rdH,cntE,cnt]⟩
theorem mvs_cons(s:Src)(r:List Src):mvs (s::r)=mvs [s]++mvs r:=by
 cases s with
 |tmp t mv=>cases mv<;>rfl
 |const a=>rfl
theorem sumL_append(f:Nat->Nat):∀(l m:List Nat),sumL f (l++m)=sumL f l+sumL f m
 |[],m=>by simp[sumL]
 |t::l,m=>by simp only[List.cons_append,sumL,sumL_append f l m];omega
theorem mSrcs_ok{a:Act}{η:Nat->Ent}(hr:∀t,RepE w G β (η t) (tau a t)):∀{xs:List Operand}{ss:List Src},mSrcs xs ss=true->RepEs w G β (ss.map (rdH η)) (xs.map a.eval)/\
  ∀b,cntEs b (ss.map (rdH η)) (xs.map a.eval)<=sumL (fun t=>cntE b (η t) (tau a t)) (mvs ss)
 |[],[],_=>⟨trivial,fun b=>by simp[cntEs]⟩
 |x::xs,s::ss,h=>by
  simp only[mSrcs,Bool.and_eq_true]at h
  obtain⟨h1,h2⟩:=mSrc_ok hr h.1
  obtain⟨h3,h4⟩:=mSrcs_ok hr h.2
  refine⟨⟨h1,h3⟩,fun b=>?_⟩
  have e1:=h2 b
  have e2:=h4 b
  rw[mvs_cons,sumL_append]
  simp only[List.map_cons,cntEs]
  omega
 |[],_::_,h=>by simp[mSrcs]at h
 |_::_,[],h=>by simp[mSrcs]at h
def mGuard(ops:Array Oper)(o:Oper)(so:SOper):Bool:=
 match o.guard,so.guard with
 |none,none=>true
 |some (j,b),some (t,c)=>b==c&&(match ops[j]? with|some q=>q.dst==some t|none=>false)
 |_,_=>false
def nodupB:List Nat->Bool
 |[]=>true
 |t::l=>!(l.contains t)&&nodupB l
theorem nodupB_ok:∀{l:List Nat},nodupB l=true->l.Nodup
 |[],_=>List.nodup_nil
 |t::l,h=>by
  simp only[nodupB,Bool.and_eq_true,Bool.not_eq_true',List.contains_eq_mem,decide_eq_false_iff_not]at h
  exact List.nodup_cons.2 ⟨h.1,nodupB_ok h.2⟩
def mOper(S:Nat->Option SFunc)(P:Program)(ops:Array Oper)(n:Nat)(o:Oper)(so:SOper):Bool:=
 mOp S P o so&&mGuard ops o so&&(match so.dst with|some d=>decide (d<n)|none=>true)&&nodupB (mvs so.args)
theorem mGuard_ok{ops:Array Oper}{o:Oper}{so:SOper}{a:Act}{η:Nat->Ent}{n:Nat}(hg:mGuard ops o so=true)(hr:∀t,RepE w G β (η t) (tau a t))(hlt:∀t,n<=t->η t=.none)(hsz:n<=a.tmps.size){b:Bool}
  (hw:wantedH η so.guard=some b):Region.wanted o (yielded ops a.tmps)=b:=by
 unfold mGuard at hg
 split at hg
 ·rename_i h1 h2
  rw[h2]at hw
  simp only[wantedH]at hw
  cases hw
  simp[Region.wanted,h1]
 ·rename_i j b1 t c h1 h2
  simp only[Bool.and_eq_true,beq_iff_eq]at hg
  obtain⟨rfl,hg⟩:=hg
  split at hg
  ·rename_i q hq
   simp only[beq_iff_eq]at hg
   rw[h2]at hw
   simp only[wantedH]at hw
   have hy:yielded ops a.tmps j=match a.tmps[t]? with|some (.bool b)=>some b|_=>none:=by
    simp only[yielded,hq,Option.bind_some,hg]
    rfl
   have hrt:=hr t
   split at hw
   ·rename_i c hc
    cases hw
    have ht:t<n:=by
     rcases Nat.lt_or_ge t n with h|h
     ·exact h
     ·rw[hlt t h]at hc;cases hc
    rw[hc]at hrt
    have hv:=RepV.bool_inv hrt
    have ht':a.tmps[t]?=some (.bool c):=by
     have hs:t<a.tmps.size:=by omega
     have:a.tmps.getD t undef=a.tmps[t]:=by simp[Array.getD,hs]
     rw[<-hv,tau,this];simp[hs]
    simp only[Region.wanted,h1,hy,ht']
    rfl
   ·rename_i hc
    cases hw
    have ht:t<n:=by
     rcases Nat.lt_or_ge t n with h|h
     ·exact h
     ·rw[hlt t h]at hc;cases hc
    rw[hc]at hrt
    have hv:tau a t=undef:=by
     generalize tau a t=v at hrt
     cases hrt;rfl
    have ht':a.tmps[t]?=some undef:=by
     have hs:t<a.tmps.size:=by omega
     have:a.tmps.getD t undef=a.tmps[t]:=by simp[Array.getD,hs]
     rw[<-hv,tau,this];simp[hs]
    simp only[Region.wanted,h1,hy,ht']
    rfl
   ·cases hw
  ·cases hg
 ·cases hg
end Ax
namespace Ax
open Go
variable {P:Program}{w w':World}{G G':Ghost}{β β':List BxG}
def FnOk (P : Program) (f : FuncId) : Prop := ∃ fn, P.funcs[f]? = some fn ∧ (fn.name == "runtime.NumGoroutine") = false ∧ fn.body.isNone = false
def SoundCall(S:Nat->Option SFunc)(P:Program)(O:Orc):Prop:=
 ∀wl lim f args st v st',O.call wl lim f args st=some (v,st')->∃sf,S f=some sf/\FnOk P sf.fid/\(f<100000->sf.fid=f)/\
  ∀(w:World) (G:Ghost) (vs:List Value),RepC w G args vs->Inv w G st->(∀b,cntL b args vs+cntS b G.ls st<=1)->
   Calls P sf.fid vs.toArray w fun e w'=>∃u G',e=.returned u/\RepV w' G' v u/\Inv w' G' st'/\
    Mv w G (fun b=>cntL b args vs+cntS b G.ls st) w' G' (fun b=>cnt b v u+cntS b G'.ls st')
theorem callFunc_enter{f:FuncId}(h:FnOk P f)(args:Array Value)(w:World):(callFunc f args).run P w=.ok (.enter f args) w:=by
 obtain⟨fn,h1,h2,h3⟩:=h
 have h4 : ¬ fn.name = "runtime.NumGoroutine" := by simpa using h2
 have h5:¬fn.body=none:=by intro h;rw[h]at h3;simp at h3
 simp[callFunc,h1,h4,h5]
theorem exec_call{ρ:Operand->Value}{o:Oper}{c:Call}{f:FuncId}{vf vc:Array Value}{x:Operand}(ho:o.op=.call c)(hc:c.callee=.value x)(hx:ρ x=.func (.func f) vf vc)(hf:FnOk P f)(w:World) :
  (execOp ρ o).run P w=.ok (.enter f (vf++c.args.map ρ++vc)) w:=by
 simp only[execOp,ho,resolve,hc,hx,Deferred.ofValue,Sem.run_bind,Sem.run_pure,Result.andThen_ok,invoke,callFunc_enter hf]
theorem callV_inv{l:List Ent}{x:Nat×List AV}(h:calleeOf .callV l=some x):∃f first caps l' vs,l=.val (.fn f first caps)::l'/\valsOf l'=some vs/\x=(f,first++vs++caps):=by
 unfold calleeOf at h
 split at h
 ·rename_i heq;cases heq
 ·rename_i f first caps l' _
  split at h
  ·rename_i vs hvs;cases h;exact⟨f,first,caps,l',vs,rfl,hvs,rfl⟩
  ·cases h
 ·cases h
section
variable {S:Nat->Option SFunc}{O:Orc}{ops:Array Oper}{n:Nat}{o:Oper}{so:SOper}{a:Act}{η:Nat->Ent}{bx bx':Boxes}{st st':Store}{wl lim:Nat}{e:Ent}
theorem FS.after(hs:FS w G β a η bx st n)(h1:∀b,tot β a η bx st G n b<=1){cO:Nat->Nat}(hcO:∀b,cO b=sumL (fun t=>cntE b (η t) (tau a t)) (mvs so.args))(hnd:(mvs so.args).Nodup)(hd:∀d,so.dst=some d->d<n){v:Value}
  (hA:Act1 w G β st bx cO w' G' β' st' bx' e v)(hB:BxStep so.op.newBox β β')(hfp:∀j,so.op.newBox=some j->∀t,so.dst≠some t->t ∉ mvs so.args->(η t).notFp j=true) :
  FS w' G' β' (a.put so.dst v) (putH (killH η (mvs so.args)) so.dst e) bx' st' n/\Mv w G (tot β a η bx st G n) w' G' (tot β' (a.put so.dst v) (putH (killH η (mvs so.args)) so.dst e) bx' st' G' n):=by
 have hput:∀t,tau (a.put so.dst v) t=if so.dst=some t then (if t<n then v else tau (a.put so.dst v) t) else tau a t:=by
  intro t
  cases hdst:so.dst with
  |none=>simp[Act.put]
  |some d=>
   have hdn:=hd d hdst
   have hdt:d<a.tmps.size:=Nat.lt_of_lt_of_le hdn hs.size
   by_cases ht:d=t
   ·subst ht
    simp[Act.put,tau,hdn,hdt]
   ·simp[ht,Act.put,tau]
 have hput':∀t,t<n->so.dst=some t->tau (a.put so.dst v) t=v:=fun t h1 h2=>by rw[hput t,if_pos h2,if_pos h1]
 have hput2:∀t,so.dst≠some t->tau (a.put so.dst v) t=tau a t:=fun t h=>by rw[hput t,if_neg h]
 have hsum:∀b,cO b+sumN (fun t=>if t∈mvs so.args then 0 else cntE b (η t) (tau a t)) n<=sumN (fun t=>cntE b (η t) (tau a t)) n:=fun b=>by
  rw[hcO]
  exact sumL_le (fun t ht=>by rw[hs.lt t ht];rfl) _ hnd
 have hone:∀b t,so.dst≠some t->t ∉ mvs so.args->0<cntE b (η t) (tau a t)->cO b+cntB b β bx+cntS b G.ls st=0:=by
  intro b t h2 h3 h4
  have htn:t<n:=by
   rcases Nat.lt_or_ge t n with h|h
   ·exact h
   ·rw[hs.lt t h]at h4;simp[cntE]at h4
  have h5:=sumN_get (f:=fun t=>if t∈mvs so.args then 0 else cntE b (η t) (tau a t)) htn
  simp only[if_neg h3]at h5
  have h6:=hsum b
  have h7:=h1 b
  unfold tot at h7
  omega
 have hrep:∀t,so.dst≠some t->t ∉ mvs so.args->RepE w' G' β' (η t) (tau a t):=fun t h2 h3=>
  ((hs.rep t).stp hA.stp fun b hb=>hA.far b (hone b t h2 h3 hb) (cntE_held (hs.rep t) hb)).bx hB fun j hj=>hfp j hj t h2 h3
 have hFS:FS w' G' β' (a.put so.dst v) (putH (killH η (mvs so.args)) so.dst e) bx' st' n:=by
  refine⟨?_,?_,fun t=>?_,fun t ht=>?_,hA.inv,hA.box⟩
  ·cases hdst:so.dst<;>simp[Act.put,hs.defs]
  ·cases hdst:so.dst<;>simp[Act.put,hs.size]
  ·simp only[putH,killH]
   by_cases h2:so.dst=some t
   ·rw[if_pos h2,hput' t (hd t h2) h2];exact hA.rep
   ·rw[if_neg h2,hput2 t h2]
    by_cases h3:t∈mvs so.args
    ·rw[if_pos h3];trivial
    ·rw[if_neg h3];exact hrep t h2 h3
  ·simp only[putH,killH]
   rw[if_neg (fun h=>by have:=hd t h;omega)]
   rw[hs.lt t ht];simp
 have hcnt:∀b,tot β' (a.put so.dst v) (putH (killH η (mvs so.args)) so.dst e) bx' st' G' n b<=tot β a η bx st G n b+(if w.heap.size<=b then 1 else 0):=by
  intro b
  have h2:=hA.cnt b
  have h3:=hsum b
  have h4:sumN (fun t=>cntE b (putH (killH η (mvs so.args)) so.dst e t) (tau (a.put so.dst v) t)) n<=sumN (fun t=>if t∈mvs so.args then 0 else cntE b (η t) (tau a t)) n+cntE b e v:=by
   cases hdst:so.dst with
   |none=>
    rw[hdst]at hput2
    have:sumN (fun t=>cntE b (putH (killH η (mvs so.args)) none e t) (tau (a.put none v) t)) n=sumN (fun t=>if t∈mvs so.args then 0 else cntE b (η t) (tau a t)) n:=sumN_congr fun t _=>by
     rw[hput2 t (by simp)]
     simp only[putH,killH]
     rw[if_neg (by simp)]
     split<;>rfl
    rw[this];omega
   |some d=>
    rw[hdst]at hput2 hput'
    have h5:=sumN_upd (f:=fun t=>cntE b (putH (killH η (mvs so.args)) (some d) e t) (tau (a.put (some d) v) t)) (g:=fun t=>if t∈mvs so.args then 0 else cntE b (η t) (tau a t)) (d:=d) (hd d hdst) fun t ht=>by
     rw[hput2 t (by simpa using fun h=>ht h.symm)]
     simp only[putH,killH]
     rw[if_neg (by simpa using fun h=>ht h.symm)]
     split<;>rfl
    have h6:cntE b (putH (killH η (mvs so.args)) (some d) e d) (tau (a.put (some d) v) d)=cntE b e v:=by
     rw[hput' d (hd d hdst) rfl];simp[putH]
    rw[h6]at h5
    omega
  unfold tot
  omega
 refine⟨hFS,hA.stp,fun b hb=>?_,fun b=>?_,fun b hb h0=>hA.far b ?_ hb,hA.size,hA.os,hA.out⟩
 ·have:=hcnt b
  rw[if_neg (by omega)]at this
  exact this
 ·have h2:=hcnt b
  by_cases hb:w.heap.size<=b
  ·rw[if_pos hb]at h2
   have h3:tot β a η bx st G n b=0:=by
    rcases Nat.eq_zero_or_pos (tot β a η bx st G n b) with h|h
    ·exact h
    ·have:=hs.held h;omega
   omega
  ·rw[if_neg hb]at h2
   have:=h1 b
   omega
 ·have h2:=hsum b
  unfold tot at h0
  omega
theorem act_call{v:AV}{u:Value}{args:List AV}{vs:List Value}{cO:Nat->Nat}(hB:RepB w G β bx)(hX:∀b,cO b+cntB b β bx+cntS b G.ls st<=1)(hc:∀b,cntL b args vs<=cO b)(hr:RepV w' G' v u)(hI':Inv w' G' st')
  (hM:Mv w G (fun b=>cntL b args vs+cntS b G.ls st) w' G' (fun b=>cnt b v u+cntS b G'.ls st')):Act1 w G β st bx cO w' G' β st' bx (.val v) u where
 stp:=hM.stp
 inv:=hI'
 box:=repB_keep hB hM.stp fun b hb=>hM.far b (hB.held hb) (by have h1:=hX b;have h2:=hc b;omega)
 rep:=hr
 cnt:=fun b=>by
  simp only[cntE]
  by_cases hb:w.heap.size<=b
  ·rw[if_pos hb]
   have h1:=hM.one b
   have h2:cntB b β bx=0:=by
    rcases Nat.eq_zero_or_pos (cntB b β bx) with h|h
    ·exact h
    ·have:=hB.held h;omega
   omega
  ·rw[if_neg hb]
   have h1:=hM.cnt b (by omega)
   have h2:=hc b
   omega
 far:=fun b h0 hb=>hM.far b hb (by have:=hc b;omega)
 size:=hM.size
 os:=hM.os
 out:=hM.out
theorem op_ok{Q:Exit->Act->World->Prop}{i:Nat}(hi:ops[i]?=some o)(hm:mOper S P ops n o so=true)(hO:SoundCall S P O)(hs:FS w G β a η bx st n)(h1:∀b,tot β a η bx st G n b<=1){K:Act->World->Prop}{b:Bool}
  (hw:wantedH η so.guard=some b)
  (hno:b=false->∀(a':Act),FS w G β a' (putH η so.dst (.val .undef)) bx st n->Mv w G (tot β a η bx st G n) w G (tot β a' (putH η so.dst (.val .undef)) bx st G n)->K a' w)
  (hyes:b=true->∃e st' bx',act O wl lim so.op (so.args.map (rdH η)) st bx=some (e,st',bx')/\(∀j,so.op.newBox=some j->∀t,so.dst≠some t->t ∉ mvs so.args->(η t).notFp j=true)/\
   ∀(w':World) (G':Ghost) (β':List BxG) (a':Act),FS w' G' β' a' (putH (killH η (mvs so.args)) so.dst e) bx' st' n->Mv w G (tot β a η bx st G n) w' G' (tot β' a' (putH (killH η (mvs so.args)) so.dst e) bx' st' G' n)->K a' w') :
  wpOp P ops Q i K a w:=by
 unfold mOper at hm
 simp only[Bool.and_eq_true]at hm
 obtain⟨⟨⟨hm,hg⟩,hd0⟩,hnd⟩:=hm
 have hd:∀d,so.dst=some d->d<n:=fun d hd=>by rw[hd]at hd0;simpa using hd0
 have hnd:=nodupB_ok hnd
 have hdst:o.dst=so.dst:=by
  unfold mOp at hm
  rw[Bool.and_eq_true]at hm
  have:=hm.1
  split at this
  ·rename_i h1 h2;simp only[beq_iff_eq]at this;rw[h1,h2,this]
  ·rename_i h1 h2;rw[h1,h2]
  ·cases this
 have hwant:=mGuard_ok hg hs.rep hs.lt hs.size hw
 unfold wpOp
 rw[hi]
 simp only[hwant]
 cases b with
 |false=>
  simp only[Bool.false_eq_true,if_false]
  rw[hdst]
  have hA:Act1 w G β st bx (fun b=>sumL (fun t=>cntE b (η t) (tau a t)) (mvs ([]:List Src))) w G β st bx (.val .undef) undef:=Act1.quiet hs.inv hs.box .undef fun b=>by simp[cntE,cnt]
  obtain⟨f1,f2⟩:=FS.after (so:=⟨so.dst,.move,[],none⟩) hs h1 (fun b=>rfl) List.nodup_nil hd hA (BxStep.refl _ _) (fun j hj=>by simp[SOp.newBox]at hj)
  have hk:killH η (mvs ([]:List Src))=η:=by funext t;simp[killH,mvs]
  simp only[hk]at f1 f2
  exact hno rfl _ f1 f2
 |true=>
  obtain⟨e,st',bx',ha,hfp,hK⟩:=hyes rfl
  simp only[if_true]
  refine .inl ?_
  have hX:∀b,sumL (fun t=>cntE b (η t) (tau a t)) (mvs so.args)+cntB b β bx+cntS b G.ls st<=1:=fun b=>by
   have h2:=sumL_le (f:=fun t=>cntE b (η t) (tau a t)) (n:=n) (fun t ht=>by rw[hs.lt t ht];rfl) _ hnd
   have h3:=h1 b
   unfold tot at h3
   omega
  have hA:∀xs,mSrcs xs so.args=true->RepEs w G β (so.args.map (rdH η)) (xs.map a.eval)/\∀b,cntEs b (so.args.map (rdH η)) (xs.map a.eval)<=sumL (fun t=>cntE b (η t) (tau a t)) (mvs so.args):=fun xs hxs=>mSrcs_ok hs.rep hxs
  have plain:act0 wl lim so.op (so.args.map (rdH η)) st bx=some (e,st',bx')->o.wp P a w K Q:=by
   intro ha
   obtain⟨nx,v,w',G',β',e1,e2,e3,e4⟩:=act_ok hm hs.inv hs.box hX hA ha
   obtain⟨f1,f2⟩:=FS.after hs h1 (fun b=>rfl) hnd hd e3 e4 hfp
   have hk:=hK w' G' β' _ f1 f2
   unfold Oper.wp
   rw[e1]
   rcases e2 with rfl|⟨rfl,rfl⟩
   ·rw[Oper.upon_value,hdst];exact hk
   ·rw[Oper.upon_skip,hdst];exact hk
  have call:∀(f i:Nat) (vs:List AV) (us:List Value) (G0:Prop),actCall O wl lim (some (i,vs)) st bx=some (e,st',bx')->RepC w G vs us->(∀b,cntL b vs us<=sumL (fun t=>cntE b (η t) (tau a t)) (mvs so.args))->so.op.newBox=none->
    (∀sf,S i=some sf->(i<100000->sf.fid=i)->sf.fid=f)->(FnOk P f->(execOp a.eval o).run P w=.ok (.enter f us.toArray) w)->o.wp P a w K Q:=by
   intro f i vs us _ hc hrep hcn hnb hsf hex
   unfold actCall at hc
   simp only at hc
   split at hc
   ·rename_i v st1 hcall
    cases hc
    obtain⟨sf,s1,s2,s3,s4⟩:=hO _ _ _ _ _ _ _ hcall
    have hf:=hsf sf s1 s3
    rw[hf]at s2 s4
    have hcalls:=s4 w G us hrep hs.inv fun b=>by have h2:=hX b;have h3:=hcn b;omega
    unfold Oper.wp
    rw[hex s2,Oper.upon_enter]
    refine hcalls.mono fun en w' hen=>?_
    obtain⟨u,G',rfl,r1,r2,r3⟩:=hen
    have hA1:=act_call hs.box hX hcn r1 r2 r3
    obtain⟨f1,f2⟩:=FS.after hs h1 (fun b=>rfl) hnd hd hA1 (BxStep.refl _ _) hfp
    have hk:=hK w' G' β _ f1 f2
    simp only
    rw[hdst]
    exact hk
   ·cases hc
  unfold act at ha
  split at ha
  ·rename_i i hop
   unfold mOp at hm
   rw[Bool.and_eq_true]at hm
   replace hm:=hm.2
   rw[hop]at hm
   simp only[calleeOf]at ha
   cases hvs:valsOf (so.args.map (rdH η)) with
   |none=>rw[hvs]at ha;simp[actCall]at ha
   |some vs=>
    rw[hvs]at ha
    split at hm<;>first|(rename_i h1 h2;cases h2;done)|(rename_i h2;cases h2;done)|(rename_i h1 h2;cases h1;done)|skip
    ·rename_i c i' hco heq
     cases heq
     split at hm
     ·rename_i f hcal
      simp only[Bool.and_eq_true]at hm
      obtain⟨hms,hmf⟩:=hm
      obtain⟨hR,hC⟩:=hA _ hms
      obtain⟨r1,r2⟩:=hR.repC hvs
      refine call f i vs _ True ha r1 (fun b=>by rw[<-r2];exact hC b) (by rw[hop];rfl) (fun sf h1 h2=>?_) fun hF=>?_
      ·rw[h1]at hmf;simpa using hmf
      ·have:=exec_call (ρ:=a.eval) hco hcal (show a.eval (.func f)=.func (.func f) #[] #[] from rfl) hF w
       rw[this]
       congr 2
       apply Array.ext'
       simp
     ·cases hm
    ·cases hm
  ·rename_i hop
   unfold mOp at hm
   rw[Bool.and_eq_true]at hm
   replace hm:=hm.2
   rw[hop]at hm
   split at hm<;>first|(rename_i h1 h2;cases h2;done)|(rename_i h2;cases h2;done)|(rename_i h1 h2;cases h1;done)|skip
   ·rename_i c hco heq
    split at hm
    ·rename_i x hcal
     obtain⟨hR,hC⟩:=hA _ hm
     cases hcv:calleeOf .callV (so.args.map (rdH η)) with
     |none=>rw[hcv]at ha;simp[actCall]at ha
     |some y=>
      rw[hcv]at ha
      obtain⟨f,first,caps,l,vs,hvl,hvs,rfl⟩:=callV_inv hcv
      rw[hvl]at hR hC
      simp only[List.map_cons]at hR hC
      obtain⟨hR0,hRl⟩:=hR
      obtain⟨r1,r2⟩:=RepEs.repC hRl hvs
      simp only[RepE]at hR0
      generalize hxv:a.eval x=xv at hR0 hC
      cases hR0 with
      |fn _ _ _ vf vc hl hm' hn hh hk'=>
      refine call f f (first++vs++caps) (vf.toList++c.args.toList.map a.eval++vc.toList) True ha ((RepC.append ⟨by simpa using hl,fun i c v e1 e2=>hh i c v e1 (by simpa using e2)⟩ r1).append ⟨by simpa using hm',fun i c v e1 e2=>hk' i c v e1 (by simpa using e2)⟩) (fun b=>?_) (by rw[hop];rfl) (fun sf h1 h2=>h2 hn.2.2) fun hF=>?_
      ·rw[cntL_append b _ _ _ _ (by simp only[List.length_append,hl,r1.1];simp),cntL_append b _ _ _ _ (by simpa using hl),cntL_noOwn b _ _ hn.1,cntL_noOwn b _ _ hn.2.1]
       have h2:=hC b
       have h3:=r2 b
       simp only[cntEs]at h2
       omega
      ·have:=exec_call (ρ:=a.eval) hco hcal hxv hF w
       rw[this]
       congr 2
       apply Array.ext'
       simp
    ·cases hm
   ·cases hm
  ·exact plain ha
end
end Ax
namespace Ax
open Go
variable {P:Program}{w w':World}{G G':Ghost}{β β':List BxG}
variable {S:Nat->Option SFunc}{O:Orc}{a:Act}{bx:Boxes}{st:Store}{n wl lim:Nat}{s s':St}{η:Nat->Ent}
abbrev FT(w:World)(G:Ghost)(β:List BxG)(a:Act)(s:St)(n:Nat):Prop:=FS w G β a (getE s.env) s.bx s.st n
abbrev totT(β:List BxG)(a:Act)(s:St)(G:Ghost)(n:Nat):Nat->Nat:=tot β a (getE s.env) s.bx s.st G n
theorem FS.congr{η':Nat->Ent}(h:FS w G β a η bx st n)(he:∀t,η' t=η t):FS w G β a η' bx st n:=by
 have:η'=η:=funext he
 rw[this];exact h
theorem FS.forget{η':Nat->Ent}(h:FS w G β a η bx st n)(he:∀t,η' t=η t\/η' t=.none):FS w G β a η' bx st n/\∀b,tot β a η' bx st G n b<=tot β a η bx st G n b:=by
 refine⟨⟨h.defs,h.size,fun t=>?_,fun t ht=>?_,h.inv,h.box⟩,fun b=>?_⟩
 ·rcases he t with e|e
  ·rw[e];exact h.rep t
  ·rw[e];trivial
 ·rcases he t with e|e
  ·rw[e];exact h.lt t ht
  ·exact e
 ·unfold tot
  have:=sumN_le (f:=fun t=>cntE b (η' t) (tau a t)) (g:=fun t=>cntE b (η t) (tau a t)) (n:=n) fun t _=>by
   rcases he t with e|e
   ·rw[e];exact Nat.le_refl _
   ·rw[e];simp[cntE]
  omega
theorem evalOp_putE(env:Env)(dst:Option Nat)(e:Ent):getE (putE env dst e)=putH (getE env) dst e:=by
 funext t
 cases dst with
 |none=>simp[putE,putH]
 |some d=>
  simp only[putE,putH,getE_set,Option.some.injEq]
  by_cases h:t=d
  ·rw[if_pos h,if_pos h.symm]
  ·rw[if_neg h,if_neg fun e=>h e.symm]
theorem getE_killH(env:Env)(ss:List Src):getE (ss.foldl killE env)=killH (getE env) (mvs ss):=by
 funext t
 rw[getE_kill]
 rfl
theorem evalOp_ok{ops:Array Oper}{o:Oper}{so:SOper}{Q:Exit->Act->World->Prop}{i:Nat}(hi:ops[i]?=some o)(hm:mOper S P ops n o so=true)(hO:SoundCall S P O)(hs:FT w G β a s n)(h1:∀b,totT β a s G n b<=1){K:Act->World->Prop}
  (he:evalOp O wl lim so s=some s')(hK:∀(w':World)(G':Ghost)(β':List BxG)(a':Act),FT w' G' β' a' s' n->Mv w G (totT β a s G n) w' G' (totT β' a' s' G' n)->K a' w'):wpOp P ops Q i K a w:=by
 unfold evalOp at he
 rw[wantedE_H]at he
 split at he
 ·cases he
 ·rename_i hw
  cases he
  refine op_ok (wl:=wl) (lim:=lim) hi hm hO hs h1 hw (fun _ a' f1 f2=>?_) (fun h=>by cases h)
  refine hK w G β a' ?_ ?_
  ·rw[FT,evalOp_putE];exact f1
  ·rw[show totT β a' { s with env:=putE s.env so.dst (.val .undef) } G n=tot β a' (putH (getE s.env) so.dst (.val .undef)) s.bx s.st G n by rw[totT,evalOp_putE]]
   exact f2
 ·rename_i hw
  have hargs:so.args.map (rdE s.env)=so.args.map (rdH (getE s.env)):=List.map_congr_left fun x _=>rdE_rdH s.env x
  rw[hargs]at he
  split at he
  ·cases he
  ·rename_i e st' bx' ha
   have fin:∀(w':World) (G':Ghost) (β':List BxG) (a':Act),s'=⟨putE (so.args.foldl killE s.env) so.dst e,bx',st'⟩->FS w' G' β' a' (putH (killH (getE s.env) (mvs so.args)) so.dst e) bx' st' n->
     Mv w G (tot β a (getE s.env) s.bx s.st G n) w' G' (tot β' a' (putH (killH (getE s.env) (mvs so.args)) so.dst e) bx' st' G' n)->K a' w':=by
    intro w' G' β' a' hs' f1 f2
    subst hs'
    refine hK w' G' β' a' ?_ ?_
    ·rw[FT,evalOp_putE,getE_killH];exact f1
    ·rw[show totT β' a' ⟨putE (so.args.foldl killE s.env) so.dst e,bx',st'⟩ G' n=tot β' a' (putH (killH (getE s.env) (mvs so.args)) so.dst e) bx' st' G' n by rw[totT,evalOp_putE,getE_killH]]
     exact f2
   split at he
   ·rename_i hnb
    cases he
    exact op_ok hi hm hO hs h1 hw (fun h=>by cases h) fun _=>⟨e,st',bx',ha,(fun j hj=>by rw[hnb]at hj;cases hj),fun w' G' β' a' f1 f2=>fin w' G' β' a' rfl f1 f2⟩
   ·rename_i j hnb
    split at he
    ·rename_i hfp
     cases he
     refine op_ok hi hm hO hs h1 hw (fun h=>by cases h) fun _=>⟨e,st',bx',ha,fun j' hj t ht1 ht2=>?_,fun w' G' β' a' f1 f2=>fin w' G' β' a' rfl f1 f2⟩
     rw[hnb]at hj;cases hj
     have:=noFp_get hfp t
     rw[evalOp_putE,getE_killH]at this
     simp only[putH,killH]at this
     rw[if_neg ht1,if_neg ht2]at this
     exact this
    ·cases he
def mOpers(S:Nat->Option SFunc)(P:Program)(ops:Array Oper)(n:Nat):List Oper->List SOper->Bool
 |[],[]=>true
 |o::l,so::m=>mOper S P ops n o so&&mOpers S P ops n l m
 |_,_=>false
theorem evalOps_ok{ops:Array Oper}{Q:Exit->Act->World->Prop}(hO:SoundCall S P O):∀(l:List Oper)(m:List SOper)(k:Nat)(w:World)(G:Ghost)(β:List BxG)(a:Act)(s:St),ops.toList.drop k=l->mOpers S P ops n l m=true->
  FT w G β a s n->(∀b,totT β a s G n b<=1)->evalOps O wl lim m s=some s'->(∀(w':World) (G':Ghost) (β':List BxG) (a':Act),FT w' G' β' a' s' n->Mv w G (totT β a s G n) w' G' (totT β' a' s' G' n)->Q .normal a' w')->
  wpOps P ops Q (List.range' k l.length) a w
 |[],[],k,w,G,β,a,s,hl,hm,hs,h1,he,hQ=>by
  simp only[evalOps,Option.some.injEq]at he
  subst he
  simp only[List.length_nil,List.range'_zero,wpOps]
  exact hQ w G β a hs (Mv.refl h1)
 |o::l,so::m,k,w,G,β,a,s,hl,hm,hs,h1,he,hQ=>by
  simp only[mOpers,Bool.and_eq_true]at hm
  simp only[evalOps]at he
  split at he
  ·rename_i s1 hs1
   simp only[List.length_cons,List.range'_succ]
   rw[wpOps_cons]
   have hi:ops[k]?=some o:=by
    have:(ops.toList.drop k)[0]?=some o:=by rw[hl];rfl
    rw[List.getElem?_drop]at this
    simpa using this
   refine evalOp_ok hi hm.1 hO hs h1 hs1 fun w1 G1 β1 a1 f1 f2=>?_
   refine evalOps_ok hO l m (k+1) w1 G1 β1 a1 s1 ?_ hm.2 f1 f2.one he fun w2 G2 β2 a2 g1 g2=>hQ w2 G2 β2 a2 g1 (f2.trans g2)
   rw[show k+1=k+1 from rfl,<-List.drop_drop,hl]
   rfl
  ·cases he
 |[],_::_,_,_,_,_,_,_,_,hm,_,_,_,_=>by simp[mOpers]at hm
 |_::_,[],_,_,_,_,_,_,_,hm,_,_,_,_=>by simp[mOpers]at hm
def mRes(P:Program):List ResultVar->List SRes->Bool
 |[],[]=>true
 |.tmp t::l,.tmp u _::m=>t==u&&mRes P l m
 |.cell t ty::l,.box u _ n agg::m=>t==u&&cellsIs P ty n&&isAggT P ty==some agg&&(agg||n==1)&&mRes P l m
 |.cell t ty::l,.cell u n agg::m=>t==u&&cellsIs P ty n&&isAggT P ty==some agg&&(agg||n==1)&&mRes P l m
 |_,_=>false
def resT:List SRes->List Nat
 |[]=>[]
 |.tmp t true::l=>t::resT l
 |_::l=>resT l
def resB:List SRes->List Nat
 |[]=>[]
 |.box _ j _ _::l=>j::resB l
 |_::l=>resB l
end Ax
namespace Ax
open Go
variable {P:Program}{w w':World}{G G':Ghost}{β β':List BxG}
variable {a:Act}{bx:Boxes}{st:Store}{n:Nat}{s:St}
def resF(tmps:Array Value):ResultVar->Sem Value
 |.tmp t=>pure (tmps.getD t undef)
 |.cell c t=>do loadVar t (<-asAddr (tmps.getD c undef))
def resU(us:List Value):Value:=match us with | [u]=>u|_=>.tuple us.toArray
theorem results_run{fn:Func}{tmps:Array Value}{us:List Value}(h:(fn.results.toList.mapM (resF tmps)).run P w=.ok us w):(results fn tmps).run P w=.ok (resU us) w:=by
 have h2:(fn.results.mapM (resF tmps)).run P w=.ok us.toArray w:=by
  have e:fn.results.mapM (resF tmps)=List.toArray <$> fn.results.toList.mapM (resF tmps):=by
   rw[Array.mapM_eq_mapM_toList]
  rw[e,map_eq_pure_bind,Sem.run_bind,h]
  rfl
 have e3:results fn tmps=(fn.results.mapM (resF tmps)).bind fun vs=>Pure.pure (if h:vs.size=1 then vs[0] else .tuple vs):=rfl
 rw[e3]
 show Sem.run P (fn.results.mapM (resF tmps) >>= fun vs=>Pure.pure (if h:vs.size=1 then vs[0] else .tuple vs)) w=_
 rw[Sem.run_bind,h2]
 simp only[Result.andThen_ok,Sem.run_pure]
 congr 1
 match us with
 |[]=>simp[resU]
 |[u]=>simp[resU]
 |_::_::_=>simp[resU]
def boxC(b:Nat)(β:List BxG)(bx:Boxes)(j:Nat):Nat:=match β[j]?,bx[j]? with|some g,some r=>cntL b r g.vals|_,_=>0
theorem boxC_sum(b:Nat):∀(β:List BxG)(bx:Boxes),sumN (boxC b β bx) bx.length<=cntB b β bx
 |β,[]=>by simp[sumN]
 |[],r::bx=>by
  have:sumN (boxC b [] (r::bx)) (r::bx).length=sumN (fun _=>0) (r::bx).length:=sumN_congr fun t _=>by simp[boxC]
  rw[this,sumN_zero];omega
 |g::β,r::bx=>by
  have ih:=boxC_sum b β bx
  have shift:∀m,sumN (boxC b (g::β) (r::bx)) (m+1)=boxC b (g::β) (r::bx) 0+sumN (boxC b β bx) m:=by
   intro m
   induction m with
   |zero=>simp[sumN]
   |succ m ih=>
    have:sumN (boxC b (g::β) (r::bx)) (m+1+1)=sumN (boxC b (g::β) (r::bx)) (m+1)+boxC b (g::β) (r::bx) (m+1):=rfl
    rw[this,ih]
    have e:boxC b (g::β) (r::bx) (m+1)=boxC b β bx m:=by simp[boxC]
    rw[e]
    simp only[sumN];omega
  simp only[List.length_cons]
  rw[shift]
  have e:boxC b (g::β) (r::bx) 0=cntL b r g.vals:=by simp[boxC]
  rw[e]
  simp only[cntB]
  omega
theorem RepC.cons{a:AV}{as:List AV}{x:Value}{xs:List Value}(h:RepV w G a x)(k:RepC w G as xs):RepC w G (a::as) (x::xs):=
 ⟨by simp[k.1],fun i c v e1 e2=>by
  cases i with
  |zero=>simp at e1 e2;subst e1;subst e2;exact h
  |succ i=>exact k.2 i c v (by simpa using e1) (by simpa using e2)⟩
theorem run_loadVar{t:TypeId}{n:Nat}{agg:Bool}(hn:cellsIs P t n=true)(hagg:isAggT P t=some agg){b off:Nat}{xs:List Value}(hlen:xs.length=n)(hone:agg=false->n=1)
  (hc:∀(j:Nat) x,xs[j]?=some x->w.cell? ⟨b,off+j,none⟩=some x):(loadVar t ⟨b,off,none⟩).run P w=.ok (if agg then .agg xs.toArray else xs.headD undef) w:=by
 have:=run_loadAt (P:=P) hn hagg hlen hone hc
 simpa [Instr.loadAt,Instr.sureAddr] using this
theorem resAll_ok(hs:FT w G β a s n):∀(l:List ResultVar)(rs:List SRes)(vs:List AV),mRes P l rs=true->resAll s rs=some vs->
  ∃us,(l.mapM (resF a.tmps)).run P w=.ok us w/\RepC w G vs us/\∀b,cntL b vs us<=sumL (fun t=>cntE b (getE s.env t) (tau a t)) (resT rs)+sumL (boxC b β s.bx) (resB rs)
 |[],[],vs,_,hr=>by
  simp only[resAll,Option.some.injEq]at hr
  subst hr
  exact⟨[],rfl,⟨rfl,fun i c v h=>by simp at h⟩,fun b=>by simp[cntL]⟩
 |x::l,r::rs,vs,hm,hr=>by
  simp only[resAll]at hr
  split at hr
  ·rename_i v vs' hr1 hr2
   cases hr
   have one:∃u,(resF a.tmps x).run P w=.ok u w/\RepV w G v u/\mRes P l rs=true/\∀b,cnt b v u+(sumL (fun t=>cntE b (getE s.env t) (tau a t)) (resT rs)+sumL (boxC b β s.bx) (resB rs))<=
     sumL (fun t=>cntE b (getE s.env t) (tau a t)) (resT (r::rs))+sumL (boxC b β s.bx) (resB (r::rs)):=by
    cases x with
    |tmp t=>
     cases r with
     |tmp u mv=>
      simp only[mRes,Bool.and_eq_true,beq_iff_eq]at hm
      obtain⟨rfl,hm⟩:=hm
      simp only[resOne]at hr1
      rw[rdE_rdH]at hr1
      split at hr1
      ·rename_i v' hv
       cases hr1
       have hrt:=hs.rep t
       refine⟨tau a t,by simp[resF],?_,hm,fun b=>?_⟩
       ·cases mv with
        |true=>simp only[rdH]at hv;rw[hv]at hrt;exact hrt
        |false=>have:=hrt.view;simp only[rdH]at hv;rw[hv]at this;exact this
       ·cases mv with
        |true=>simp only[rdH]at hv;simp only[resT,resB,sumL,hv,cntE];omega
        |false=>
         simp only[rdH]at hv
         have h0:=cntE_view b (getE s.env t) (tau a t)
         rw[hv]at h0
         simp only[cntE]at h0
         simp only[resT,resB];omega
      ·cases hr1
     |box u j m agg=>simp[mRes]at hm
     |cell u m agg=>simp[mRes]at hm
    |cell t ty=>
     cases r with
     |tmp u mv=>simp[mRes]at hm
     |box u j m agg=>
      simp only[mRes,Bool.and_eq_true,beq_iff_eq]at hm
      obtain⟨⟨⟨⟨rfl,hn⟩,hagg⟩,hone⟩,hm⟩:=hm
      simp only[resOne]at hr1
      split at hr1
      ·rename_i i row hfp hrow
       split at hr1
       ·rename_i hij
        simp only[Bool.and_eq_true,decide_eq_true_eq]at hij
        obtain⟨rfl,hlen⟩:=hij
        have hp:=hs.rep t
        rw[hfp]at hp
        obtain⟨g,b0,c,e,hg,hblk,hpv,hbox,hheap,hle,htip,hcells⟩:=box_row hs.box hp hrow
        obtain⟨u,hu,k1,k2,_⟩:=one_agg hr1 hbox.rep
        have hl:=run_loadVar (P:=P) hn hagg (by rw[<-hbox.rep.1];exact hlen) (fun h=>by subst h;simpa using hone) (b:=b0) (off:=0) (fun j x hx=>by rw[Nat.zero_add];exact hcells j x hx)
        refine⟨u,?_,k1,hm,fun b=>?_⟩
        ·simp only[resF,Sem.run_bind]
         rw[show a.tmps.getD t undef=.pointer (some ⟨b0,0,none⟩) from hpv]
         simp only[asAddr,Sem.run_pure,Result.andThen_ok,hl,hu]
        ·rw[k2 b]
         simp only[resT,resB,sumL,boxC,hg,hrow];omega
       ·cases hr1
      ·cases hr1
     |cell u m agg=>
      simp only[mRes,Bool.and_eq_true,beq_iff_eq]at hm
      obtain⟨⟨⟨⟨rfl,hn⟩,hagg⟩,hone⟩,hm⟩:=hm
      simp only[resOne]at hr1
      split at hr1
      ·rename_i p hp0
       split at hr1
       ·rename_i cs hread
        have hp:=hs.rep t
        rw[hp0]at hp
        obtain⟨b0,off,xs,g1,g2,g3,g4⟩:=readP_ok hs.inv hread hp
        obtain⟨u,hu,k1,k2,_⟩:=one_agg hr1 g3.view
        have hl:=run_loadVar (P:=P) hn hagg g2 (fun h=>by subst h;simpa using hone) g4
        refine⟨u,?_,k1,hm,fun b=>?_⟩
        ·simp only[resF,Sem.run_bind]
         rw[show a.tmps.getD t undef=.pointer (some ⟨b0,off,none⟩) from g1]
         simp only[asAddr,Sem.run_pure,Result.andThen_ok,hl,hu]
        ·rw[k2 b,cntL_noOwn b _ _ (noOwn_viewL cs)]
         simp only[resT,resB];omega
       ·cases hr1
      ·cases hr1
   obtain⟨u,h1,h2,h3,h4⟩:=one
   obtain⟨us,k1,k2,k3⟩:=resAll_ok hs l rs vs' h3 hr2
   refine⟨u::us,?_,RepC.cons h2 k2,fun b=>?_⟩
   ·rw[List.mapM_cons]
    simp only[Sem.run_bind,h1,Result.andThen_ok,k1,Sem.run_pure]
   ·have e1:=h4 b
    have e2:=k3 b
    simp only[cntL]
    omega
  ·cases hr
 |[],_::_,_,hm,_=>by simp[mRes]at hm
 |x::_,[],_,hm,_=>by cases x<;>simp[mRes]at hm
end Ax
namespace Ax
open Go
section
variable {K V:Type}
def valF(init:K->V)(eff:Nat->K->Option V)(D:Nat->Bool):Nat->K->V
 |0,x=>init x
 |k+1,x=>if D k then (eff k x).getD (valF init eff D k x) else valF init eff D k x
variable {init:K->V}{eff:Nat->K->Option V}
theorem valF_same{D D':Nat->Bool}{x:K}:∀{N:Nat},(∀k,k<N->D k≠D' k->eff k x=none)->valF init eff D N x=valF init eff D' N x
 |0,_=>rfl
 |N+1,h=>by
  have ih:=valF_same (N:=N) fun k hk=>h k (by omega)
  have hN:=h N (by omega)
  simp only[valF,ih]
  cases h1:D N<;>cases h2:D' N
  ·rfl
  ·rw[hN (by rw[h1,h2];simp)];simp
  ·rw[hN (by rw[h1,h2];simp)];simp
  ·rfl
theorem valF_skip{D:Nat->Bool}{x:K}{j:Nat}:∀{N:Nat},j<=N->(∀k,j<=k->k<N->D k=true->eff k x=none)->valF init eff D N x=valF init eff D j x
 |0,hj,_=>by
  have:j=0:=by omega
  subst this;rfl
 |N+1,hj,h=>by
  by_cases hjN:j=N+1
  ·subst hjN;rfl
  ·have ih:=valF_skip (N:=N) (j:=j) (by omega) fun k h1 h2=>h k h1 (by omega)
   simp only[valF]
   cases hD:D N
   ·simpa using ih
   ·rw[h N (by omega) (by omega) hD];simpa using ih
theorem valF_add{D D':Nat->Bool}{x:K}{j N:Nat}(hj:j<N)(hD:D j=false)(hD':∀k,D' k=if k=j then true else D k)(h:∀k,j<k->k<N->D k=true->eff j x≠none->eff k x=none) :
  valF init eff D' N x=(eff j x).getD (valF init eff D N x):=by
 cases he:eff j x with
 |none=>
  simp only[Option.getD_none]
  refine valF_same fun k hk hne=>?_
  have:=hD' k
  by_cases hkj:k=j
  ·subst hkj;exact he
  ·rw[if_neg hkj]at this;exact absurd this hne
 |some v=>
  simp only[Option.getD_some]
  have h1:valF init eff D' N x=valF init eff D' (j+1) x:=valF_skip (by omega) fun k h1 h2 h3=>by
   refine h k (by omega) h2 ?_ (by rw[he];simp)
   have:=hD' k
   rw[if_neg (by omega)]at this
   rw[<-this];exact h3
  rw[h1]
  have hjj:D' j=true:=by rw[hD' j,if_pos rfl]
  simp only[valF,hjj,if_true,he,Option.getD_some]
theorem valF_text{st:Nat->K->V}{N:Nat}(h0:∀x,st 0 x=init x)(hs:∀k,k<N->∀x,st (k+1) x=(eff k x).getD (st k x)):∀{j:Nat},j<=N->∀x,valF init eff (fun k=>decide (k<j)) N x=st j x:=by
 have key:∀m,m<=N->∀x,valF init eff (fun _=>true) m x=st m x:=by
  intro m
  induction m with
  |zero=>intro _ x;exact(h0 x).symm
  |succ m ih=>
   intro hm x
   simp only[valF,if_true]
   rw[ih (by omega) x,hs m (by omega) x]
 intro j hj x
 rw[valF_skip (j:=j) hj fun k h1 h2 h3=>by simp at h3;omega]
 rw[valF_same (D':=fun _=>true) fun k hk hne=>by simp[hk]at hne]
 exact key j hj x
end
end Ax
namespace Ax
open Go
def SOp.isW(S:Nat->Option SFunc):SOp->Bool
 |.litM .. | .alloc _|.box _|.store _|.appendM .. | .appendZ .. | .makeMap|.mapUpdate _|.sliceM _|.copy _|.callV=>true
 |.load _ _ take=>take
 |.makeSl _ _ _ mt=>mt
 |.call f=>match S f with|some sf=>(match sf.mode with|.pure=>false|_=>true)|none=>true
 |_=>false
def SOp.noS:SOp->Bool
 |.move|.pick|.bin _|.eqv .. | .un _|.conv _|.minmax _|.nilCheck|.extract _|.field .. | .build .. | .lit .. | .fieldAddr _|.index|.loadF .. | .storeF .. | .allocF .. | .boxF .. | .append .. | .makeFunc .. | .makeRaw .. | .capN=>true
 |.makeSl _ _ _ mt=>!mt
 |_=>false
def SOp.bA:SOp->Option Nat
 |.loadF j _ _ _|.storeF j _|.allocF j _|.boxF j _=>some j
 |_=>none
def SOp.bW:SOp->Option Nat
 |.loadF j _ _ take=>if take then some j else none
 |.storeF j _|.allocF j _|.boxF j _=>some j
 |_=>none
variable {wl lim:Nat}{st st':Store}{bx bx':Boxes}{vals:List Ent}{e:Ent}{S:Nat->Option SFunc}{O:Orc}{op:SOp}
theorem act0_noW(hw:op.isW S=false)(h:act0 wl lim op vals st bx=some (e,st',bx')):st'=st:=by
 cases op
 case load agg n take=>
  simp only[SOp.isW]at hw
  subst hw
  unfold act0 at h
  simp only[Bool.false_eq_true,if_false]at h
  repeat' split at h
  all_goals first|(cases h;rfl)|cases h
 case makeSl sz bytes zero mt=>
  simp only[SOp.isW]at hw
  subst hw
  unfold act0 at h
  simp only[Bool.false_eq_true,if_false]at h
  repeat' split at h
  all_goals first|(cases h;rfl)|cases h
 all_goals first
  |(simp[SOp.isW]at hw;done)
  |(unfold act0 at h;simp only at h;repeat' split at h)
 all_goals first|(cases h;rfl)|cases h
theorem act0_noS(hn:op.noS=true)(st2:Store):act0 wl lim op vals st2 bx=(act0 wl lim op vals st bx).map fun x=>(x.1,st2,x.2.2):=by
 cases op
 case makeSl sz bytes zero mt=>
  simp only[SOp.noS,Bool.not_eq_true']at hn
  subst hn
  unfold act0
  simp only[Bool.false_eq_true,if_false]
  repeat' split
  all_goals rfl
 all_goals first
  |(simp[SOp.noS]at hn;done)
  |(unfold act0;(try unfold appM);simp only;repeat' split)
 all_goals first|rfl|simp_all
theorem act0_noB(hb:op.bA=none)(bx2:Boxes):act0 wl lim op vals st bx2=(act0 wl lim op vals st bx).map fun x=>(x.1,x.2.1,bx2):=by
 cases op
 all_goals first
  |(simp[SOp.bA]at hb;done)
  |(unfold act0;(try unfold appM);simp only;repeat' split)
 all_goals first|rfl|simp_all
structure OPure (S:Nat->Option SFunc)(O:Orc):Prop where
 call:∀wl lim f args st v st' sf,O.call wl lim f args st=some (v,st')->S f=some sf->sf.mode=.pure->st'=st
theorem orc_pure(S:Nat->Option SFunc)(n:Nat):OPure S (orc S n):=by
 refine⟨fun wl lim f args st v st' sf h hS hm=>?_⟩
 cases n with
 |zero=>simp[orc]at h
 |succ n=>
  simp only[orc,hS]at h
  unfold callBody at h
  split at h
  ·simp only[Option.map_eq_some_iff]at h
   obtain⟨x,_,hx⟩:=h
   cases hx
   rfl
  unfold callBody0 at h
  split at h
  ·split at h
   ·split at h
    ·rw[hm]at h
     simp only[Mode.fin]at h
     split at h
     ·cases h;rfl
     ·cases h
    ·cases h
   ·cases h
  ·cases h
theorem act_noW(hO:OPure S O)(hw:op.isW S=false)(h:act O wl lim op vals st bx=some (e,st',bx')):st'=st:=by
 unfold act at h
 split at h
 ·rename_i f
  simp only[SOp.isW]at hw
  split at hw
  ·rename_i sf hsf
   split at hw
   ·rename_i hm
    unfold actCall at h
    split at h
    ·rename_i f' vs hc
     have hf:f'=f:=by
      simp only[calleeOf]at hc
      split at hc
      ·cases hc;rfl
      ·cases hc
     subst hf
     split at h
     ·rename_i hcall;cases h;exact hO.call _ _ _ _ _ _ _ _ hcall hsf hm
     ·cases h
    ·cases h
   ·cases hw
  ·cases hw
 ·simp[SOp.isW]at hw
 ·exact act0_noW hw h
theorem act_noS(hn:op.noS=true)(st2:Store)(h:act O wl lim op vals st bx=some (e,st',bx')):act O wl lim op vals st2 bx=some (e,st2,bx'):=by
 unfold act at h ⊢
 split at h
 ·simp[SOp.noS]at hn
 ·simp[SOp.noS]at hn
 ·rename_i h1 h2
  rw[act0_noS hn st2,h];rfl
theorem act_noB(hb:op.bA=none)(bx2:Boxes)(h:act O wl lim op vals st bx=some (e,st',bx')):bx'=bx/\act O wl lim op vals st bx2=some (e,st',bx2):=by
 have call:∀x,actCall O wl lim x st bx=some (e,st',bx')->bx'=bx/\actCall O wl lim x st bx2=some (e,st',bx2):=by
  intro x h
  unfold actCall at h ⊢
  split at h
  ·rename_i f vs
   cases hc:O.call wl lim f vs st with
   |none=>rw[hc]at h;cases h
   |some y=>rw[hc]at h;cases h;exact⟨rfl,rfl⟩
  ·cases h
 unfold act at h ⊢
 split at h
 ·exact call _ h
 ·exact call _ h
 ·rename_i h1 h2
  have e1:=act0_noB (wl:=wl) (lim:=lim) (vals:=vals) (st:=st) (bx:=bx) hb bx
  rw[h]at e1
  simp only[Option.map_some,Option.some.injEq,Prod.mk.injEq,true_and]at e1
  refine⟨e1,?_⟩
  rw[act0_noB hb bx2,h];rfl
theorem act_box2{bx2:Boxes}(hl:bx2.length=bx.length)(ha:∀b,op.bA=some b->bx2[b]?=bx[b]?)(h:act O wl lim op vals st bx=some (e,st',bx')) :
  ∃bx2',act O wl lim op vals st bx2=some (e,st',bx2')/\bx'.length=bx.length/\bx2'.length=bx2.length/\(∀b,op.bW=some b->bx2'[b]?=bx'[b]?)/\(∀b,op.bW≠some b->bx2'[b]?=bx2[b]?)/\(∀b,op.bW≠some b->bx'[b]?=bx[b]?):=by
 cases hb:op.bA with
 |none=>
  obtain⟨rfl,e2⟩:=act_noB hb bx2 h
  refine⟨bx2,e2,rfl,rfl,fun b h=>?_,fun _ _=>rfl,fun _ _=>rfl⟩
  cases op<;>simp_all [SOp.bA,SOp.bW]
 |some j=>
  have hj:=ha j hb
  have setOk:∀(row:List AV),j<bx.length->(bx.set j row).length=bx.length/\(bx2.set j row).length=bx2.length/\(bx2.set j row)[j]?=(bx.set j row)[j]?/\(∀b,j≠b->(bx2.set j row)[b]?=bx2[b]?)/\(∀b,j≠b->(bx.set j row)[b]?=bx[b]?):=by
   intro row hlt
   refine⟨by simp,by simp,?_,fun b hb=>?_,fun b hb=>?_⟩
   ·rw[List.getElem?_set,List.getElem?_set,if_pos rfl,if_pos rfl,if_pos hlt,if_pos (by omega)]
   ·rw[List.getElem?_set,if_neg hb]
   ·rw[List.getElem?_set,if_neg hb]
  cases op<;>simp only[SOp.bA]at hb<;>try cases hb
  case some.loadF.refl agg n take=>
   simp only[act]at h ⊢
   unfold act0 at h ⊢
   simp only at h ⊢
   split at h
   ·rename_i j' k
    split at h
    ·rename_i hjj
     subst hjj
     split at h
     ·rename_i row hrow
      have hlt:=(List.getElem?_eq_some_iff.1 hrow).1
      rw[if_pos rfl,hj,hrow]
      simp only
      split at h
      ·rename_i cs hcut
       cases take with
       |true=>
        simp only[if_true]at h ⊢
        split at h
        ·rename_i v hv
         cases h
         obtain⟨a1,a2,a3,a4,a5⟩:=setOk (paste row k (cs.map AV.took)) hlt
         exact⟨_,rfl,a1,a2,fun b hb=>by simp[SOp.bW]at hb;subst hb;exact a3,fun b hb=>a4 b (by simpa [SOp.bW] using hb),fun b hb=>a5 b (by simpa [SOp.bW] using hb)⟩
        ·cases h
       |false=>
        simp only[Bool.false_eq_true,if_false]at h ⊢
        split at h
        ·rename_i v hv
         cases h
         exact⟨_,rfl,rfl,rfl,fun b hb=>by simp[SOp.bW]at hb,fun _ _=>rfl,fun _ _=>rfl⟩
        ·cases h
      ·cases h
     ·cases h
    ·cases h
   ·cases h
  case some.storeF.refl n=>
   simp only[act]at h ⊢
   unfold act0 at h ⊢
   simp only at h ⊢
   split at h
   ·rename_i j' k v
    split at h
    ·rename_i hc
     have hjj:j=j':=by simp only[Bool.and_eq_true,decide_eq_true_eq]at hc;exact hc.1.1
     split at h
     ·rename_i row hrow
      have hlt:=(List.getElem?_eq_some_iff.1 hrow).1
      rw[if_pos hc,hj,hrow]
      simp only
      split at h
      ·rename_i hfit
       cases h
       rw[if_pos hfit]
       obtain⟨a1,a2,a3,a4,a5⟩:=setOk (paste row k v.cells) hlt
       exact⟨_,rfl,a1,a2,fun b hb=>by simp[SOp.bW]at hb;subst hb;exact a3,fun b hb=>a4 b (by simpa [SOp.bW] using hb),fun b hb=>a5 b (by simpa [SOp.bW] using hb)⟩
      ·cases h
     ·cases h
    ·cases h
   ·cases h
  case some.allocF.refl zero=>
   simp only[act]at h ⊢
   unfold act0 at h ⊢
   simp only at h ⊢
   split at h
   ·split at h
    ·rename_i hlt
     cases h
     rw[if_pos (by omega)]
     obtain⟨a1,a2,a3,a4,a5⟩:=setOk zero hlt
     exact⟨_,rfl,a1,a2,fun b hb=>by simp[SOp.bW]at hb;subst hb;exact a3,fun b hb=>a4 b (by simpa [SOp.bW] using hb),fun b hb=>a5 b (by simpa [SOp.bW] using hb)⟩
    ·cases h
   ·cases h
  case some.boxF.refl n=>
   simp only[act]at h ⊢
   unfold act0 at h ⊢
   simp only at h ⊢
   split at h
   ·rename_i v
    split at h
    ·rename_i hc
     have hc':=hc
     simp only[Bool.and_eq_true,decide_eq_true_eq]at hc'
     cases h
     rw[if_pos (by simp only[Bool.and_eq_true,decide_eq_true_eq];exact⟨⟨by omega,hc'.1.2⟩,hc'.2⟩)]
     obtain⟨a1,a2,a3,a4,a5⟩:=setOk v.cells hc'.1.1
     exact⟨_,rfl,a1,a2,fun b hb=>by simp[SOp.bW]at hb;subst hb;exact a3,fun b hb=>a4 b (by simpa [SOp.bW] using hb),fun b hb=>a5 b (by simpa [SOp.bW] using hb)⟩
    ·cases h
   ·cases h
theorem act_fp{b:Nat}(h:act O wl lim op vals st bx=some (e,st',bx'))(hv:∀x∈vals,x.notFp b=true)(hn:op.newBox≠some b):e.notFp b=true:=by
 have call:∀x,actCall O wl lim x st bx=some (e,st',bx')->e.notFp b=true:=by
  intro x h
  unfold actCall at h
  repeat' split at h
  all_goals first|(cases h;rfl)|cases h
 have val:∀a:AV,(Ent.val a).notFp b=true:=fun _=>rfl
 unfold act at h
 split at h
 ·exact call _ h
 ·exact call _ h
 ·cases op
  case move=>
   unfold act0 at h
   simp only at h
   split at h
   ·cases h;exact hv _ (by simp)
   ·cases h
  case pick=>
   unfold act0 at h
   simp only at h
   split at h
   ·rename_i c x y
    cases h
    cases c
    ·exact hv _ (by simp)
    ·exact hv _ (by simp)
   ·cases h
  case nilCheck=>
   unfold act0 at h
   simp only at h
   split at h
   ·cases h;exact hv _ (by simp)
   ·split at h<;>first|(cases h;rfl)|cases h
   ·cases h
  case fieldAddr off=>
   unfold act0 at h
   simp only at h
   split at h
   ·rename_i j k
    cases h
    have:=hv (.fp j k) (by simp)
    simpa [Ent.notFp] using this
   ·cases h;rfl
   ·cases h;rfl
   ·cases h
  case allocF j zero=>
   unfold act0 at h
   simp only at h
   split at h
   ·split at h
    ·cases h
     simp only[SOp.newBox,ne_eq,Option.some.injEq]at hn
     simpa [Ent.notFp] using hn
    ·cases h
   ·cases h
  case boxF j n=>
   unfold act0 at h
   simp only at h
   split at h
   ·split at h
    ·cases h
     simp only[SOp.newBox,ne_eq,Option.some.injEq]at hn
     simpa [Ent.notFp] using hn
    ·cases h
   ·cases h
  all_goals
   unfold act0 at h
   (try unfold appM at h)
   simp only at h
   repeat' split at h
  all_goals first|(cases h;rfl)|cases h
end Ax
namespace Ax
open Go
def predsO(o:Oper):List Nat:=(o.after.toList.filter (Region.binds .any)).map (·.on)
def bms:List Oper->List Nat->List Nat
 |[],acc=>acc
 |o::l,acc=>bms l (acc++[(predsO o).foldl (fun m p=>m ||| (1 <<< p) ||| acc.getD p 0) 0])
def bef(bm:List Nat)(i j:Nat):Bool:=(bm.getD j 0).testBit i
def touch(so:SOper):List Nat:=so.dst.toList++mvs so.args
def srcT:List Src->List Nat
 |[]=>[]
 |.tmp t _::l=>t::srcT l
 |_::l=>srcT l
def readsT(so:SOper):List Nat:=srcT so.args++(match so.guard with|some (t,_)=>[t]|none=>[])
def apart(S:Nat->Option SFunc)(pairs:List (Nat×Nat))(i j:Nat)(a b:SOper):Bool:=
 (touch a).all (fun t=>!(readsT b).contains t && !(touch b).contains t)&&(touch b).all (fun t=>!(readsT a).contains t) &&
 (match a.op.bW with|some x=>b.op.bA != some x|none=>true)&&(match b.op.bW with|some x=>a.op.bA != some x|none=>true) &&
 (!(a.op.isW S&&b.op.isW S)||pairs.contains (100000+i,j))&&(a.op.noS || !(b.op.isW S)||a.op.isW S||pairs.contains (i,j))&&(b.op.noS || !(a.op.isW S)||b.op.isW S||pairs.contains (j,i))
def allPairs(n:Nat)(f:Nat->Nat->Bool):Bool:=(List.range n).all fun j=>(List.range j).all fun i=>f i j
def isStore:SOp->Bool
 |.store _=>true
 |_=>false
def xTest(S:Nat->Option SFunc)(m:List SOper)(pairs:List (Nat×Nat)):Nat×Nat->Bool
 |(c,q)=>if 100000<=c&&decide (c<200000) then
   let p:=c-100000
   (match m[p]?,m[q]? with|some a,some b=>isStore a.op&&isStore b.op&&a.guard.isNone&&b.guard.isNone|_,_=>false) &&
   decide (p<q)&&(List.range (q-p-1)).all (fun d=>match m[p+1+d]? with|some o=>!(o.op.isW S)|none=>false) &&
   pairs.all (fun x=>decide (100000<=x.1) || !(x.2==p||x.2==q)||pairs.contains (100000*(x.1+2)+p,q)) &&
   pairs.all (fun x=>!(decide (100000<=x.1)&&decide (x.1<200000))||(x.1==c&&x.2==q))
  else true
def mDraw(S:Nat->Option SFunc)(P:Program)(ops:Array Oper)(n:Nat)(m:List SOper)(pairs:List (Nat×Nat)):Bool:=
 let bm:=bms ops.toList []
 P.follows .mixedOrders&&mOpers S P ops n ops.toList m&&(decide (ops.size<100000)&&pairs.all (xTest S m pairs)) &&
 (List.range ops.size).all (fun j=>match ops[j]? with
  |some o=>(predsO o).all (fun p=>decide (p<j))&&(List.range ops.size).all fun i=>!bef bm i j||(predsO o).any fun p=>i==p||bef bm i p
  |none=>true) &&
 allPairs ops.size (fun i j=>match m[i]?,m[j]? with
  |some a,some b=>(bef bm i j||apart S pairs i j a b)&&(match a.op.newBox,b.op.newBox with|some x,some y=>x != y|_,_=>true)
  |_,_=>true)
theorem allPairs_ok{n:Nat}{f:Nat->Nat->Bool}(h:allPairs n f=true){i j:Nat}(h1:i<j)(h2:j<n):f i j=true:=by
 simp only[allPairs,List.all_eq_true,List.mem_range]at h
 exact h j h2 i h1
end Ax
namespace Ax
open Go
variable {S:Nat->Option SFunc}{P:Program}{ops:Array Oper}{n:Nat}{m:List SOper}{pairs:List (Nat×Nat)}
theorem mOpers_get:∀{l:List Oper}{m:List SOper},mOpers S P ops n l m=true->l.length=m.length/\∀(i:Nat) o so,l[i]?=some o->m[i]?=some so->mOper S P ops n o so=true
 |[],[],_=>⟨rfl,fun i o so h=>by simp at h⟩
 |o::l,so::m,h=>by
  simp only[mOpers,Bool.and_eq_true]at h
  obtain⟨e1,e2⟩:=mOpers_get h.2
  refine⟨by simp[e1],fun i o' so' h1 h2=>?_⟩
  cases i with
  |zero=>simp at h1 h2;subst h1;subst h2;exact h.1
  |succ i=>exact e2 i o' so' (by simpa using h1) (by simpa using h2)
 |[],_::_,h=>by simp[mOpers]at h
 |_::_,[],h=>by simp[mOpers]at h
def Down(ops:Array Oper)(D:Nat->Bool):Prop:=∀(j:Nat) o,ops[j]?=some o->D j=true->∀p∈predsO o,D p=true
structure Drawn (S:Nat->Option SFunc)(P:Program)(ops:Array Oper)(n:Nat)(m:List SOper)(pairs:List (Nat×Nat)):Prop where
 fol:P.follows .mixedOrders=true
 len:m.length=ops.size
 get:∀(i:Nat) o so,ops[i]?=some o->m[i]?=some so->mOper S P ops n o so=true
 lt:∀(j:Nat) o,ops[j]?=some o->∀p∈predsO o,p<j
 apA:∀(D:Nat->Bool),Down ops D->∀(j:Nat) o,ops[j]?=some o->(∀p∈predsO o,D p=true)->∀(k:Nat) a b,k<j->D k=false->m[k]?=some a->m[j]?=some b->apart S pairs k j a b=true
 apB:∀(D:Nat->Bool),Down ops D->∀(j k:Nat) a b,j<k->D j=false->D k=true->m[j]?=some a->m[k]?=some b->apart S pairs j k a b=true
 small:m.length<100000
 xt:∀p q,p<100000->(100000+p,q)∈pairs->p<q/\(∃a b,m[p]?=some a/\m[q]?=some b/\isStore a.op=true/\isStore b.op=true/\a.guard=none/\b.guard=none)/\(∀(j:Nat) o,p<j->j<q->m[j]?=some o->o.op.isW S=false)/\
  (∀k w,(k,w)∈pairs->k<100000->w=p\/w=q->(100000*(k+2)+p,q)∈pairs)/\∀i j,i<100000->(100000+i,j)∈pairs->i=p/\j=q
 boxes:∀(i j:Nat) a b x,i<j->m[i]?=some a->m[j]?=some b->a.op.newBox=some x->b.op.newBox≠some x
theorem mDraw_ok(h:mDraw S P ops n m pairs=true):Drawn S P ops n m pairs:=by
 unfold mDraw at h
 simp only[Bool.and_eq_true,List.all_eq_true,List.mem_range]at h
 obtain⟨⟨⟨⟨h1,h2⟩,h5,h6⟩,h3⟩,h4⟩:=h
 obtain⟨e1,e2⟩:=mOpers_get h2
 have hlen:m.length=ops.size:=by rw[<-e1];simp
 have hlt:∀(j:Nat) o,ops[j]?=some o->∀p∈predsO o,p<j:=fun j o ho p hp=>by
  have:=h3 j (Array.getElem?_eq_some_iff.1 ho).1
  rw[ho]at this
  simp only[Bool.and_eq_true,List.all_eq_true,decide_eq_true_eq]at this
  exact this.1 p hp
 have hcl:∀(D:Nat->Bool),Down ops D->∀(j:Nat) o,ops[j]?=some o->(∀p∈predsO o,D p=true)->∀i,i<ops.size->bef (bms ops.toList []) i j=true->D i=true:=by
  intro D hD j
  induction j using Nat.strongRecOn with
  |_ j ih=>
   intro o ho hp i hi hb
   have:=h3 j (Array.getElem?_eq_some_iff.1 ho).1
   rw[ho]at this
   simp only[Bool.and_eq_true,List.all_eq_true,List.mem_range,Bool.or_eq_true,Bool.not_eq_true',List.any_eq_true,beq_iff_eq]at this
   rcases this.2 i hi with h5|⟨p,hpm,h6⟩
   ·rw[hb]at h5;cases h5
   ·rcases h6 with rfl|h6
    ·exact hp i hpm
    ·have hpj:=hlt j o ho p hpm
     have hps:p<ops.size:=by have:=(Array.getElem?_eq_some_iff.1 ho).1;omega
     have hop:ops[p]?=some ops[p]:=by simp[hps]
     exact ih p hpj ops[p] hop (fun q hq=>hD p ops[p] hop (hp p hpm) q hq) i hi h6
 refine⟨h1,hlen,fun i o so ho hso=>e2 i o so (by simpa using ho) hso,hlt,fun D hD j o ho hp k a b hk hDk ha hb=>?_,fun D hD j k a b hjk hDj hDk ha hb=>?_,by rw[hlen];simpa using h5,fun p q hp hpq=>?_,fun i j a b x hij ha hb hx hy=>?_⟩
 ·have hj:=(Array.getElem?_eq_some_iff.1 ho).1
  have:=allPairs_ok h4 hk hj
  rw[ha,hb]at this
  simp only[Bool.and_eq_true,Bool.or_eq_true]at this
  rcases this.1 with h5|h5
  ·rw[hcl D hD j o ho hp k (by omega) h5]at hDk;cases hDk
  ·exact h5
 ·have hk:k<ops.size:=by rw[<-hlen];exact(List.getElem?_eq_some_iff.1 hb).1
  have:=allPairs_ok h4 hjk hk
  rw[ha,hb]at this
  simp only[Bool.and_eq_true,Bool.or_eq_true]at this
  have hok:ops[k]?=some ops[k]:=by simp[hk]
  rcases this.1 with h5|h5
  ·rw[hcl D hD k ops[k] hok (hD k ops[k] hok hDk) j (by omega) h5]at hDj;cases hDj
  ·exact h5
 ·have:=h6 _ hpq
  simp only[xTest]at this
  rw[if_pos (by simp;omega)]at this
  simp only[Nat.add_sub_cancel_left,Bool.and_eq_true,decide_eq_true_eq,List.all_eq_true,List.mem_range,Bool.or_eq_true,Bool.not_eq_true',Bool.or_eq_false_iff,List.contains_eq_mem,Prod.forall,Bool.and_eq_false_iff,beq_iff_eq,beq_eq_false_iff_ne,decide_eq_false_iff_not]at this
  obtain⟨⟨⟨⟨t1,t2⟩,t3⟩,t4⟩,t5⟩:=this
  refine⟨t2,?_,fun j o hj1 hj2 ho=>?_,fun k w hk hk2 hw=>?_,fun i j hi hij=>?_⟩
  ·split at t1
   ·rename_i a b ha hb
    simp only[Bool.and_eq_true,Option.isNone_iff_eq_none]at t1
    exact⟨a,b,ha,hb,t1.1.1.1,t1.1.1.2,t1.1.2,t1.2⟩
   ·cases t1
  ·have:=t3 (j-p-1) (by omega)
   rw[show p+1+(j-p-1)=j by omega,ho]at this
   simpa using this
  ·rcases t4 k w hk with (h|h)|h
   ·omega
   ·exfalso;rcases hw with e|e
    ·exact h.1 e
    ·exact h.2 e
   ·exact h
  ·rcases t5 _ _ hij with h|h
   ·omega
   ·exact⟨by omega,h.2⟩
 ·have hj:j<ops.size:=by rw[<-hlen];exact(List.getElem?_eq_some_iff.1 hb).1
  have:=allPairs_ok h4 hij hj
  rw[ha,hb]at this
  simp only[Bool.and_eq_true]at this
  have h5:=this.2
  rw[hx,hy]at h5
  simp at h5
end Ax
