/- The library of this proof, part 4: an abstract interpreter of the loaded code, and its soundness. -/
import Derived.Test.YtachcambnjecnaaA3
import Derived.Orders

namespace Ax
open Go
variable {P:Program}{w w':World}{G G':aK}{β fI:List kO}{ρ:Operand->Value}{o:Oper}
variable {S:Nat->Option aC}{so:aU}{vals:List dK}{wl aa:Nat}{st bK:aj}{bx eI:aS}{cO:Nat->Nat}{r:dK}
theorem iz.le {cO cO':Nat->Nat}{v:Value}(h:iz w G β st bx cO w' G' fI bK eI r v)(hc:∀b,cO b<=cO' b):iz w G β st bx cO' w' G' fI bK eI r v:=
 { h with eH:=λb=>by have h1:=h.eH b;have h2:=hc b;omega,sB:=λb hb=>h.sB b (by have:=hc b;omega) }
theorem V9 {t e:TypeId}{parts:Array (Nat×Operand)}(ho:o.op=.buildSlice t 0 parts)(hu:P.underlying t=some (.slice e)){sz:Nat}(dL:ck P e sz=true)(hp:parts = #[]) :
  (execOp ρ o).run P w=.ok (.value (.slice (some ⟨w.heap.size,0,none⟩) 0 0)) (w.alloc (.cells #[] e)):=by
 obtain⟨i,hi,Ct,_⟩:=jM dL
 subst hp
 have h0:(Array.range 0).map (λ_:Nat=>(default:Value)) = #[]:=by apply Array.ext';simp
 simp[execOp,ho,Instr.buildSlice,run_underlying hu,Go.sizeOf,typeInfo,hi,Instr.fill,newRow]
 rw[h0]
theorem U0 {t:TypeId}{n n' sz:Nat}{parts:Array (Nat×Operand)}{zero:List AV}{qs:List Nat}{mu:Bool}(ho:o.op=.buildSlice t n parts)(NR:n=n')
  (hu:match P.underlying t with
   |some (.slice e)=>(ck P e sz&&decide (n*sz<=16777216)&&me P e zero&&decide (0<sz)&&(zero.length==sz)&&parts.toList.map (·.1)==qs)=true
   |_=>False) (hI:Inv w G st) (hB:jg w G β bx)
  (hR:jD w G β vals ((parts.toList.map (·.2)).map ρ)) (hcO:∀b,kh b vals ((parts.toList.map (·.2)).map ρ)<=cO b) (ha:aI wl aa (if mu then .RO sz n' zero qs else .lit sz n' zero qs) vals st bx=some (r,bK,eI)) :
  iA P ρ o w G β st bx cO none r bK eI:=by
 subst NR
 split at hu
 ·rename_i e AO
  simp only[Bool.and_eq_true,decide_eq_true_eq,beq_iff_eq]at hu
  obtain⟨⟨⟨⟨⟨dL,IE⟩,hz⟩,Sh⟩,J7⟩,hq⟩:=hu
  have D2:(parts.toList.map (·.2)).map ρ=parts.toList.map λp=>ρ p.2:=by simp
  rw[D2]at hR hcO
  cases mu with
  |true=>
   simp only[if_true]at ha
   unfold aI at ha
   simp only at ha
   split at ha
   ·rename_i vs Cs
    split at ha
    ·rename_i rows qq
     split at ha
     ·rename_i hc
      simp only[Bool.and_eq_true,decide_eq_true_eq]at hc
      cases ha
      obtain⟨hv,vK⟩:=hR.LJ Cs
      obtain⟨cells,e1,e2,e3,e4,e5,e6⟩:=UQ (w:=w) ho AO dL IE hz Sh J7 hq qq hc.2 hv
      obtain⟨G',hA,_⟩:=sC (sz:=sz) (cap:=n) (rows:=rows) (c:=cells) (e:=e) (xs:=cells.toList) (w':=w.alloc (.cells cells e)) (cO:=cO) hI hB rfl rfl rfl e4 (we hc.1) e2 hc.2 (by omega) (by omega) (by simp)
       (λb=>by have h1:=e3 b;have h2:=hcO b;rw[vK]at h2;omega)
      exact⟨_,_,_,G',β,e1,.inl rfl,hA,dQ.refl _ _⟩
     ·cases ha
    ·cases ha
   ·cases ha
  |false=>
   simp only[Bool.false_eq_true,if_false]at ha
   unfold aI at ha
   simp only at ha
   split at ha
   ·rename_i vs Cs
    split at ha
    ·rename_i rows qq
     split at ha
     ·rename_i hc
      simp only[Bool.and_eq_true]at hc
      cases ha
      obtain⟨hv,vK⟩:=hR.LJ Cs
      by_cases hn:n=0
      ·subst hn
       rw[if_pos rfl]
       have Wa:parts = #[]:=by
        cases Nt:parts.toList with
        |nil=>exact Array.toList_eq_nil_iff.1 Nt
        |cons p l=>
         rw[Nt]at hq
         subst hq
         simp only[List.map_cons,List.replicate_zero]at qq
         cases Kb:AV.cy vs with
         |nil=>rw[Kb]at qq;simp[fo]at qq
         |cons v l'=>rw[Kb]at qq;simp[fo]at qq
       exact⟨_,_,_,_,β,V9 ho AO dL Wa,.inl rfl,zJ (w':=w.alloc (.cells #[] e)) rfl rfl rfl none hI hB (.emp _) λb=>by simp[eH],dQ.refl _ _⟩
      ·rw[if_neg hn]
       have D8:0<n:=by omega
       obtain⟨cells,e1,e2,e3,e4,e5,e6⟩:=UQ (w:=w) ho AO dL IE hz Sh J7 hq qq D8 hv.view
       have hY:∀r∈rows,AV.dj r=true:=by
        obtain⟨_,_,_,_,_,FJ,_⟩:=j3 hz w G
        have:=wg (sz:=sz) (p:=λc=>c.bR=true) qs (AV.cy vs) _ rows (λr hr c hc=>by
         rw[List.eq_of_mem_replicate hr]at hc;exact(FJ c hc).1) (λv hv=>Ga (Gb vs v hv)) qq
        exact λr hr=>(cn r).2 (this r hr)
       have V0:=D5 (G:=G.new w.heap.size (some (rows.length*sz)) []) (w:=w.alloc (.cells cells e)) (cap:=n) (off:=0) e4 (we hc.2) hY (F9 hc.1) (e2.push (w':=w.alloc (.cells cells e)) rfl _ _) (oG rfl) (by omega) (by omega) (by simp[aK.new]) (λk x hk=>by rw[Nat.zero_add];simpa using hk)
       exact⟨_,_,_,_,β,e1,.inl rfl,zJ (w':=w.alloc (.cells cells e)) rfl rfl rfl (some (rows.length*sz)) hI hB V0.view λb=>by simp[eH],dQ.refl _ _⟩
     ·cases ha
    ·cases ha
   ·cases ha
 ·exact hu.elim
theorem AP {α:Type}{l:List α}(h:l.length=2):∃x y,l=[x,y]:=by
 match l,h with
 |[x,y],_=>exact⟨x,y,rfl⟩
theorem zv {sz:Nat}{vals:List dK}(wl aa:Nat):aI wl aa (.indexAddr sz) vals st bx=aI 0 0 (.indexAddr sz) vals st bx:=rfl
theorem aaQ {w:World}{G:aK}{b:Bool}{v:Value}(h:aL w G (.bool b) v):v=.bool b:=h.iR
theorem Wb (hm:Zb S P o so=true)(hI:Inv w G st)(hB:jg w G β bx)(hX:∀b,cO b+fj b β bx+bS b G.ls st<=1)
  (hA:∀xs,eK xs so.args=true->jD w G β vals (xs.map ρ)/\∀b,kh b vals (xs.map ρ)<=cO b) (ha:aI wl aa so.op vals st bx=some (r,bK,eI)) :
  iA P ρ o w G β st bx cO so.op.bq r bK eI:=by
 unfold Zb at hm
 rw[Bool.and_eq_true]at hm
 replace hm:=hm.2
 generalize hso:so.op=sop at hm ha
 split at hm
 ·
  rename_i x ho
  obtain⟨hR,hc⟩:=hA _ hm
  unfold aI at ha
  simp only at ha
  split at ha
  ·cases ha
   exact iA.quiet hI hB (u:=ρ x) (by simp[execOp,ho]) hR.1 λb=>by have:=hc b;simp only[List.map_cons,kh]at this;omega
  ·cases ha
 ·
  rename_i x ho
  obtain⟨hR,hc⟩:=hA _ hm
  unfold aI at ha
  simp only at ha
  split at ha
  ·cases ha
   exact iA.quiet hI hB (u:=ρ x) (by simp[execOp,ho]) hR.1 λb=>by have:=hc b;simp only[List.map_cons,kh]at this;omega
  ·cases ha
 ·
  rename_i c x y ho
  obtain⟨hR,hc⟩:=hA _ hm
  unfold aI at ha
  simp only at ha
  split at ha
  ·rename_i b x' y'
   cases ha
   obtain⟨h1,h2,h3,_⟩:=hR
   have hb:=aaQ h1
   refine iA.quiet hI hB (u:=if b then ρ x else ρ y) (by simp[execOp,ho,hb,asBool]) ?_ λd=>?_
   ·cases b
    ·exact h3
    ·exact h2
   ·have:=hc d
    simp only[List.map_cons,kh]at this
    cases b
    ·simp;omega
    ·simp;omega
  ·cases ha
 ·
  rename_i op t x y yt op' ho
  simp only[Bool.and_eq_true,beq_iff_eq]at hm
  obtain⟨rfl,hm⟩:=hm
  obtain⟨hR,hc⟩:=hA _ hm
  unfold aI at ha
  simp only at ha
  split at ha
  ·split at ha
   ·rename_i v hv
    cases ha
    obtain⟨u,e1,e2,e3⟩:=aat ho hv hR.1 hR.2.1
    exact iA.bR hI hB e1 e2 e3
   ·cases ha
  ·cases ha
 ·
  rename_i op t x y yt k neg ho
  simp only[Bool.and_eq_true,beq_iff_eq]at hm
  obtain⟨⟨rfl,hm⟩,ht⟩:=hm
  obtain⟨hR,hc⟩:=hA _ hm
  unfold aI at ha
  simp only at ha
  split at ha
  ·split at ha
   ·rename_i b hb
    cases ha
    obtain⟨u,e1,e2⟩:=aau ho ht hb hR.1 hR.2.1
    exact iA.bR hI hB e1 e2 rfl
   ·cases ha
  ·cases ha
 ·
  rename_i op t x y yt neg ho
  simp only[Bool.and_eq_true,beq_iff_eq]at hm
  obtain⟨⟨rfl,hm⟩,ht⟩:=hm
  obtain⟨hR,hc⟩:=hA _ hm
  unfold aI at ha
  simp only at ha
  split at ha
  ·rename_i id bP
   split at ha
   ·rename_i v sz rows eG
    split at ha
    ·rename_i jk
     cases ha
     exact iA.bR hI hB (R3 ho ht hI eG jk hR.1 hR.2.1) (.bool _) rfl
    ·cases ha
   ·cases ha
  ·cases ha
 ·
  rename_i op t x op' ho
  simp only[Bool.and_eq_true,beq_iff_eq]at hm
  obtain⟨rfl,hm⟩:=hm
  obtain⟨hR,hc⟩:=hA _ hm
  unfold aI at ha
  simp only at ha
  split at ha
  ·split at ha
   ·rename_i v hv
    cases ha
    obtain⟨u,e1,e2,e3⟩:=ae1 ho hv hR.1
    exact iA.bR hI hB e1 e2 e3
   ·cases ha
  ·cases ha
 ·
  rename_i s d x k ho
  simp only[Bool.and_eq_true]at hm
  obtain⟨hm,ht⟩:=hm
  obtain⟨hR,hc⟩:=hA _ hm
  unfold aI at ha
  simp only at ha
  split at ha
  ·cases ha
   split at ht
   ·rename_i k1 k2 h1 h2
    simp only[beq_iff_eq]at ht
    subst ht
    exact iA.bR hI hB (VZ ho h1 h2 hR.1) (.int _ _) rfl
   ·cases ht
  ·cases ha
 ·
  rename_i x ho
  obtain⟨hR,hc⟩:=hA _ hm
  unfold aI at ha
  simp only at ha
  split at ha
  ·cases ha
   obtain⟨g,b,h1,h2,h3⟩:=hR.1
   exact iA.quiet hI hB (vh ho h3) ⟨g,b,h1,h2,h3⟩ λd=>by simp[cg]
  ·split at ha
   ·cases ha
    have hp:∃a,ρ x=.pointer (some a):=by
     have h:=hR.1
     simp only[jv]at h
     cases h with|ptr _ _ _ _ _ _ hp=>exact hp
    obtain⟨a,hp⟩:=hp
    exact iA.quiet hI hB (vh ho hp) hR.1 λd=>by simp[cg,eH]
   ·cases ha
    have hp:∃a,ρ x=.pointer (some a):=by
     have h:=hR.1
     simp only[jv]at h
     generalize ρ x=v at h
     cases h;exact⟨_,rfl⟩
    obtain⟨a,hp⟩:=hp
    exact iA.quiet hI hB (vh ho hp) hR.1 λd=>by simp[cg,eH]
   ·cases ha
  ·cases ha
 ·
  rename_i x i j ho
  simp only[Bool.and_eq_true,beq_iff_eq]at hm
  obtain⟨rfl,hm⟩:=hm
  obtain⟨hR,hc⟩:=hA _ hm
  unfold aI at ha
  simp only at ha
  split at ha
  ·split at ha
   ·rename_i v hv
    cases ha
    obtain⟨u,e1,e2,e3⟩:=Lt ho hv hR.1
    exact iA.quiet hI hB e1 e2 λb=>by have h1:=hc b;have h2:=e3 b;simp only[List.map_cons,kh,cg]at h1 ⊢;omega
   ·cases ha
  ·cases ha
 ·
  rename_i t x f off n agg ho
  simp only[Bool.and_eq_true]at hm
  obtain⟨hm,ht⟩:=hm
  obtain⟨hR,hc⟩:=hA _ hm
  split at ht
  ·rename_i fs hu
   split at ht
   ·rename_i fd hf
    simp only[Bool.and_eq_true,beq_iff_eq]at ht
    obtain⟨⟨h1,h2⟩,h3⟩:=ht
    unfold aI at ha
    simp only at ha
    split at ha
    ·split at ha
     ·rename_i cs NM
      split at ha
      ·rename_i v hv
       cases ha
       obtain⟨u,e1,e2,e3⟩:=R7 ho hu hf h1 h2 h3 NM hv hR.1
       exact iA.quiet hI hB e1 e2 λb=>by have h1:=hc b;have h2:=e3 b;simp only[List.map_cons,kh,cg]at h1 ⊢;omega
      ·cases ha
     ·cases ha
    ·cases ha
   ·cases ht
  ·cases ht
 ·
  rename_i t parts zero qs ho
  simp only[Bool.and_eq_true]at hm
  obtain⟨⟨hm,hz⟩,ht⟩:=hm
  obtain⟨hR,hc⟩:=hA _ hm
  have D2:(parts.toList.map (·.2)).map ρ=parts.toList.map λp=>ρ p.2:=by simp
  rw[D2]at hR hc
  split at ht
  ·rename_i fs hu
   split at ht
   ·rename_i is Ct
    unfold aI at ha
    simp only at ha
    split at ha
    ·rename_i vs Cs
     split at ha
     ·rename_i cs qq
      cases ha
      obtain⟨hv,vK⟩:=hR.LJ Cs
      obtain⟨u,e1,e2,e3⟩:=R8 ho hu Ct hz ht qq hv
      exact iA.quiet hI hB e1 e2 λb=>by have h1:=hc b;have h2:=e3 b;have h3:=vK b;simp only[cg];omega
     ·cases ha
    ·cases ha
   ·cases ht
  ·cases ht
 ·
  rename_i t n parts sz n' zero qs ho
  simp only[Bool.and_eq_true,beq_iff_eq]at hm
  obtain⟨⟨hn,hm⟩,ht⟩:=hm
  obtain⟨hR,hc⟩:=hA _ hm
  refine U0 (mu:=false) ho hn ?_ hI hB hR hc ha
  split at ht
  ·rename_i he;rw[he];simpa using ht
  ·cases ht
 ·
  rename_i t n parts sz n' zero qs ho
  simp only[Bool.and_eq_true,beq_iff_eq]at hm
  obtain⟨⟨hn,hm⟩,ht⟩:=hm
  obtain⟨hR,hc⟩:=hA _ hm
  refine U0 (mu:=true) ho hn ?_ hI hB hR hc ha
  split at ht
  ·rename_i he;rw[he];simpa using ht
  ·cases ht
 ·
  rename_i t x f off ho
  simp only[Bool.and_eq_true]at hm
  obtain⟨hm,ht⟩:=hm
  obtain⟨hR,hc⟩:=hA _ hm
  split at ht
  ·rename_i fs hu
   split at ht
   ·rename_i fd hf
    simp only[Bool.and_eq_true,beq_iff_eq]at ht
    obtain⟨h1,h2⟩:=ht
    subst h1
    split at h2
    ·rename_i i hi
     have hs:i.size≠0:=by simpa using h2
     unfold aI at ha
     simp only at ha
     split at ha
     ·rename_i j k
      cases ha
      obtain⟨g,b,g1,g2,g3⟩:=hR.1
      refine iA.quiet hI hB (sy ho hu hf hi hs g3) ⟨g,b,g1,g2,?_⟩ λd=>by simp[cg]
      rw[jO]
     ·rename_i id bP i' k
      cases ha
      obtain⟨a,e1,e2⟩:=uJ hR.1 (.inl ⟨id,bP,i',k,rfl,rfl⟩)
      exact iA.bR hI hB (sy ho hu hf hi hs e1) e2 rfl
     ·rename_i sz rows i' k
      cases ha
      obtain⟨a,e1,e2⟩:=uJ hR.1 (.inr ⟨sz,rows,i',k,rfl,rfl⟩)
      exact iA.bR hI hB (sy ho hu hf hi hs e1) e2 rfl
     ·cases ha
    ·cases h2
   ·cases ht
  ·cases ht
 ·
  rename_i t x y sz ho
  simp only[Bool.and_eq_true]at hm
  obtain⟨hm,ht⟩:=hm
  obtain⟨hR,hc⟩:=hA _ hm
  split at ht
  ·rename_i e hu
   rw[zv]at ha
   have AQ:=ha
   unfold aI at ha
   simp only at ha
   split at ha
   ·obtain⟨rfl,rfl,p,u,rfl,e1,e2,e3⟩:=FL ho hu ht hI AQ hR.1 (aL.eS hR.2.1)
    exact iA.bR hI hB e1 e2 e3
   ·cases ha
  ·cases ht
 ·
  rename_i t x y ho
  simp only[Bool.and_eq_true]at hm
  obtain⟨hm,ht⟩:=hm
  obtain⟨hR,hc⟩:=hA _ hm
  split at ht
  ·rename_i hu
   unfold aI at ha
   simp only at ha
   split at ha
   ·split at ha
    ·rename_i h0
     split at ha
     ·rename_i b hb
      cases ha
      exact iA.bR hI hB (Sa ho hu h0 hb hR.1 (aL.eS hR.2.1)) (.int _ _) rfl
     ·cases ha
    ·cases ha
   ·cases ha
  ·cases ht
 ·
  rename_i t x lo hi mx sd l h m sz ho
  simp only[Bool.and_eq_true,beq_iff_eq]at hm
  obtain⟨⟨⟨⟨⟨hm,rfl⟩,rfl⟩,rfl⟩,V8⟩,ht⟩:=hm
  obtain⟨hR,hc⟩:=hA _ hm
  refine Sz ho (λh=>by rw[h]at V8;simpa using V8) ?_ hI hB hR hc ha
  split at ht
  ·rename_i he;rw[he];exact ht
  ·rename_i he;rw[he];exact ht
  ·cases ht
 ·
  rename_i t x hi sz ho
  simp only[Bool.and_eq_true]at hm
  obtain⟨hm,ht⟩:=hm
  obtain⟨hR,hc⟩:=hA _ hm
  split at ht
  ·rename_i e hu
   have AQ:=ha
   unfold aI at ha
   simp only at ha
   split at ha
   ·obtain⟨v,G',e1,e2⟩:=NN ho hu ht hI hB hX hR.1 hR.2.1 AQ
    exact⟨_,_,_,_,_,e1,.inl rfl,e2,dQ.refl _ _⟩
   ·cases ha
  ·cases ht
 ·
  rename_i t x agg n take ho
  simp only[Bool.and_eq_true]at hm
  obtain⟨⟨⟨hm,hn⟩,p7⟩,kq⟩:=hm
  obtain⟨hR,hc⟩:=hA _ hm
  have Kc:lA P t=some agg:=by simpa using p7
  have Ke:agg=false->n=1:=λh=>by subst h;simpa using kq
  have AQ:=ha
  unfold aI at ha
  simp only at ha
  split at ha
  ·rename_i p
   cases take with
   |true=>
    obtain⟨v,e1,e2⟩:=IP ho hn Kc Ke hI hB hX hR.1 AQ
    exact⟨_,_,_,_,_,e1,.inl rfl,e2,dQ.refl _ _⟩
   |false=>
    split at ha
    ·rename_i cs AI
     simp only[Bool.false_eq_true,if_false]at ha
     split at ha
     ·rename_i v hv
      cases ha
      obtain⟨b,off,xs,h1,h2,h3,h4⟩:=FM hI AI hR.1
      obtain⟨u,e1,e2,e3⟩:=D4 ho hn Kc Ke h1 h2 h3.view h4 hv
      exact iA.quiet hI hB e1 e2 λd=>by
       simp only[cg,e3 d]
       rw[cU d _ _ (fB cs)]
       omega
     ·cases ha
    ·cases ha
  ·cases ha
 ·
  rename_i t x j agg n take ho
  simp only[Bool.and_eq_true]at hm
  obtain⟨⟨⟨hm,hn⟩,p7⟩,kq⟩:=hm
  obtain⟨hR,hc⟩:=hA _ hm
  have Kc:lA P t=some agg:=by simpa using p7
  have Ke:agg=false->n=1:=λh=>by subst h;simpa using kq
  have AQ:=ha
  unfold aI at ha
  simp only at ha
  split at ha
  ·obtain⟨v,e1,e2⟩:=Ss ho hn Kc Ke hI hB hX hR.1 AQ
   exact⟨_,_,_,_,_,e1,.inl rfl,e2,dQ.refl _ _⟩
  ·cases ha
 ·
  rename_i t x y n ho
  simp only[Bool.and_eq_true]at hm
  obtain⟨hm,hn⟩:=hm
  obtain⟨hR,hc⟩:=hA _ hm
  have AQ:=ha
  unfold aI at ha
  simp only at ha
  split at ha
  ·obtain⟨w',G',e1,e2⟩:=Sq ho hn hI hB hX hR.1 hR.2.1 (λb=>by have:=hc b;simp only[List.map_cons,kh,cg]at this;omega) AQ
   exact⟨_,_,_,_,_,e1,.inr ⟨rfl,rfl⟩,e2,dQ.refl _ _⟩
  ·cases ha
 ·
  rename_i t x y j n ho
  simp only[Bool.and_eq_true]at hm
  obtain⟨hm,hn⟩:=hm
  obtain⟨hR,hc⟩:=hA _ hm
  have AQ:=ha
  unfold aI at ha
  simp only at ha
  split at ha
  ·obtain⟨w',G',fI,e1,e2,e3⟩:=NL ho hn hI hB hX hR.1 hR.2.1 (λb=>by have:=hc b;simp only[List.map_cons,kh]at this;simp only[cg]at this ⊢;omega) AQ
   exact⟨_,_,_,_,_,e1,.inr ⟨rfl,rfl⟩,e2,e3⟩
  ·cases ha
 ·
  rename_i t zero ho
  simp only[Bool.and_eq_true]at hm
  obtain⟨_,hz⟩:=hm
  obtain⟨i,z,hi,Nx,lX,FJ,M0⟩:=j3 hz w G
  unfold aI at ha
  simp only at ha
  split at ha
  ·cases ha
   obtain⟨G',Gc⟩:=Lz (t:=t) (cO:=cO) hI hB lX FJ M0
   exact⟨_,_,_,_,_,J6 ho hi Nx,.inl rfl,Gc,dQ.refl _ _⟩
  ·cases ha
 ·
  rename_i t j zero ho
  simp only[Bool.and_eq_true]at hm
  obtain⟨_,hz⟩:=hm
  obtain⟨i,z,hi,Nx,lX,FJ,M0⟩:=j3 hz w G
  unfold aI at ha
  simp only at ha
  split at ha
  ·split at ha
   ·rename_i hj
    cases ha
    have hb:j<β.length:=by rw[hB.len];exact hj
    refine⟨_,_,_,_,_,J6 ho hi Nx,.inl rfl,J5 (c:=z.cells) (e:=t) (w':=w.alloc (.cells z.cells t)) hI hB rfl rfl rfl hj lX M0 (λb=>by rw[CX FJ];omega),?_⟩
    exact dQ.set (List.getElem?_eq_getElem hb) λh=>absurd rfl h
   ·cases ha
  ·cases ha
 ·
  rename_i t x n ho
  obtain⟨hR,hc⟩:=hA _ hm
  unfold aI at ha
  simp only at ha
  split at ha
  ·split at ha
   ·rename_i jk
    simp only[Bool.and_eq_true,decide_eq_true_eq]at jk
    cases ha
    obtain⟨G',Gc⟩:=NA (t:=t) (cO:=cO) hI hB hR.1 jk.1 jk.2 (λb=>by have:=hc b;simp only[List.map_cons,kh,cg]at this;omega)
    exact⟨_,_,_,_,_,UP ho,.inl rfl,Gc,dQ.refl _ _⟩
   ·cases ha
  ·cases ha
 ·
  rename_i t x j n ho
  obtain⟨hR,hc⟩:=hA _ hm
  unfold aI at ha
  simp only at ha
  split at ha
  ·split at ha
   ·rename_i jk
    simp only[Bool.and_eq_true,decide_eq_true_eq]at jk
    cases ha
    have hb:j<β.length:=by rw[hB.len];exact jk.1.1
    obtain⟨vK,J1⟩:=aL.cells hR.1
    refine⟨_,_,_,_,_,UP ho,.inl rfl,J5 (c:=(ρ x).cells) (e:=t) (w':=w.alloc (.cells (ρ x).cells t)) hI hB rfl rfl rfl jk.1.1 vK jk.2 (λb=>by have:=hc b;simp only[List.map_cons,kh,cg]at this;rw[J1];omega),?_⟩
    exact dQ.set (List.getElem?_eq_getElem hb) λh=>absurd rfl h
   ·cases ha
  ·cases ha
 ·
  rename_i t x y sz bytes zero mt ho
  simp only[Bool.and_eq_true]at hm
  obtain⟨hm,ht⟩:=hm
  obtain⟨hR,hc⟩:=hA _ hm
  split at ht
  ·rename_i e hu
   simp only[Bool.and_eq_true,decide_eq_true_eq]at ht
   obtain⟨⟨⟨⟨h1,h2⟩,h3⟩,h4⟩,h5⟩:=ht
   unfold aI at ha
   simp only at ha
   split at ha
   ·rename_i n c
    split at ha
    ·rename_i jk
     obtain⟨c1,c2,c3,c4⟩:=jk
     have hcm:c<=9223372036854775807:=by
      have:c*1<=c*bytes:=Int.mul_le_mul_of_nonneg_left (by omega) (by omega)
      simp only[room]at c3
      omega
     obtain⟨cells,e1,e2,e3,e4⟩:=FU (w:=w) (G:=G) ho hu h1 h2 h3 h4 c4 (aL.eS hR.1) (aL.eS hR.2.1) c1 c2 c3 hcm
     obtain⟨_,_,_,_,_,FJ,M0⟩:=j3 h3 w G
     have hle:n.toNat*sz<=c.toNat*sz:=Nat.mul_le_mul_right _ (by omega)
     have bY:fits sz (List.replicate n.toNat zero)=true:=bZ.2 λr hr=>by rw[List.eq_of_mem_replicate hr,c4]
     have gK:∀r∈List.replicate n.toNat zero,AV.aH r=true:=λr hr=>by rw[List.eq_of_mem_replicate hr];exact M0
     have hx:∀(k:Nat) x,(cells.toList.take (n.toNat*sz))[k]?=some x->cells[k]?=some x:=λk x hk=>by
      rw[List.getElem?_take]at hk
      split at hk
      ·simpa using hk
      ·cases hk
     split at ha
     ·cases ha
      by_cases xJ:c.toNat=0
      ·have D8:n.toNat=0:=by omega
       rw[D8,xJ]at e1
       rw[D8]
       have hA0:iz w G β st bx cO (w.alloc (.cells cells e)) (G.new w.heap.size (some 0) [⟨some ⟨w.heap.size,0,none⟩,0,0,sz,0,false,[]⟩]) β (st++[.rows 0 sz []]) bx (.val (.mu st.length 0)) (.slice (some ⟨w.heap.size,0,none⟩) 0 0):=by
        have hl:(G.new w.heap.size (some 0) [⟨some ⟨w.heap.size,0,none⟩,0,0,sz,0,false,[]⟩]).ls[st.length]?=some ⟨some ⟨w.heap.size,0,none⟩,0,0,sz,0,false,[]⟩:=by
         simp only[aK.new]
         rw[List.getElem?_append_right (by rw[hI.len];exact Nat.le_refl _),hI.len]
         simp
        exact pI (w':=w.alloc (.cells cells e)) (ao:=.rows 0 sz []) (ob:=.cells cells e) rfl rfl rfl hI hB ⟨rfl,rfl,by simp[fits],by simp,rfl,rfl,rfl,λi r xs h=>by simp at h,.inl ⟨rfl,rfl,rfl⟩⟩ (.mu _ _ _ _ ⟨_,_,_,rfl⟩ hl (Nat.le_refl _) λ_=>rfl) rfl λb=>by simp[gu,Loc.iQ,eM]
       exact⟨_,_,_,_,_,e1,.inl rfl,hA0,dQ.refl _ _⟩
      ·obtain⟨G',Gc,_⟩:=sC (sz:=sz) (cap:=c.toNat) (rows:=List.replicate n.toNat zero) (c:=cells) (e:=e) (xs:=cells.toList.take (n.toNat*sz)) (w':=w.alloc (.cells cells e)) (cO:=cO) hI hB rfl rfl rfl bY gK e3 (by omega) (by omega) (by simp;omega) hx (λb=>by rw[e4];omega)
       rw[List.length_replicate]at Gc
       exact⟨_,_,_,_,_,e1,.inl rfl,Gc,dQ.refl _ _⟩
     ·split at ha
      ·rename_i hpz
       cases ha
       obtain⟨G',Gc⟩:=D6 (sz:=sz) (cap:=c.toNat) (rows:=List.replicate n.toNat zero) (c:=cells) (e:=e) (xs:=cells.toList.take (n.toNat*sz)) (w':=w.alloc (.cells cells e)) (cO:=cO) hI hB rfl rfl rfl bY gK
        (λr hr=>by rw[List.eq_of_mem_replicate hr];exact(cn zero).2 λc hc=>(FJ c hc).1) (λr hr=>by rw[List.eq_of_mem_replicate hr];exact hpz) e3 (by omega) (by simp;omega) hx
       rw[List.length_replicate]at Gc
       exact⟨_,_,_,_,_,e1,.inl rfl,Gc,dQ.refl _ _⟩
      ·cases ha
    ·cases ha
   ·cases ha
  ·cases ht
 ·
  rename_i t ho
  unfold aI at ha
  simp only at ha
  split at ha
  ·cases ha
   obtain⟨G',Gc⟩:=Sj (cO:=cO) hI hB
   exact⟨_,_,_,_,_,by simp only[execOp,ho,Option.map_none,Sem.run_bind,show (Instr.makeMap t none).run P w=.ok (.map (some w.heap.size)) (w.alloc (.map #[] 0)) from rfl,Result.andThen_ok,Sem.run_pure],.inl rfl,Gc,dQ.refl _ _⟩
  ·cases ha
 ·
  rename_i t m k x kk ho
  simp only[Bool.and_eq_true]at hm
  obtain⟨hm,ht⟩:=hm
  obtain⟨hR,hc⟩:=hA _ hm
  split at ht
  ·rename_i kt et hu
   have AQ:=ha
   unfold aI at ha
   simp only at ha
   split at ha
   ·obtain⟨w',G',e1,e2⟩:=yP (.inl ho) hu ht hI hB hX hR.1 hR.2.1 hR.2.2.1 AQ
    exact⟨_,_,_,_,_,e1,.inr ⟨rfl,rfl⟩,e2,dQ.refl _ _⟩
   ·cases ha
  ·cases ht
 ·
  rename_i t m k x kk ho
  simp only[Bool.and_eq_true]at hm
  obtain⟨hm,ht⟩:=hm
  obtain⟨hR,hc⟩:=hA _ hm
  split at ht
  ·rename_i kt et hu
   have AQ:=ha
   unfold aI at ha
   simp only at ha
   split at ha
   ·obtain⟨w',G',e1,e2⟩:=yP (.inr ho) hu ht hI hB hX hR.1 hR.2.1 hR.2.2.1 AQ
    exact⟨_,_,_,_,_,e1,.inr ⟨rfl,rfl⟩,e2,dQ.refl _ _⟩
   ·cases ha
  ·cases ht
 ·
  rename_i t m k ok kk zero ok' ho
  simp only[Bool.and_eq_true,beq_iff_eq]at hm
  obtain⟨⟨rfl,hm⟩,ht⟩:=hm
  obtain⟨hR,hc⟩:=hA _ hm
  split at ht
  ·rename_i kt et hu
   simp only[Bool.and_eq_true]at ht
   obtain⟨ht,hz⟩:=ht
   split at hz
   ·rename_i ie hie
    split at hz
    ·rename_i z hzz
     unfold aI at ha
     simp only at ha
     split at ha
     ·rename_i am ak
      split at ha
      ·cases ha
      ·rename_i es o6
       split at ha
       ·split at ha
        ·cases ha
        ·rename_i res hf
         cases ha
         have afk:(am=.eX/\es=[])\/∃id,am=.map id/\st[id]?=some (.map es):=by
          split at o6
          ·cases o6;exact .inl ⟨rfl,rfl⟩
          ·rename_i id
           split at o6
           ·rename_i eG;cases o6;exact .inr ⟨id,rfl,eG⟩
           ·cases o6
          ·cases o6
         obtain⟨u,e1,e2,e3⟩:=Ny ho hu ht hie hzz hz hI afk hf hR.1 hR.2.1
         refine iA.bR hI hB e1 e2 ?_
         cases ok
         ·exact e3
         ·simp[AV.bR,AV.dj,e3]
       ·cases ha
     ·cases ha
    ·cases hz
   ·cases hz
  ·cases ht
 ·
  rename_i f first jI f' n ho
  simp only[Bool.and_eq_true,beq_iff_eq,decide_eq_true_eq]at hm
  obtain⟨⟨⟨rfl,hm⟩,rfl⟩,hf⟩:=hm
  obtain⟨hR,hc⟩:=hA _ hm
  unfold aI at ha
  simp only at ha
  split at ha
  ·rename_i vs Cs
   cases ha
   obtain⟨hv,vK⟩:=hR.LJ Cs
   obtain⟨e1,e2⟩:=IB (P:=P) hf ho hv
   exact iA.bR hI hB e1 e2 rfl
  ·cases ha
 ·
  rename_i c k ho
  simp only[Bool.and_eq_true,beq_iff_eq]at hm
  obtain⟨⟨hm,dL⟩,ht⟩:=hm
  obtain⟨hR,hc⟩:=hA _ hm
  obtain⟨x,hx⟩:∃x,c.args.toList=[x]:=List.length_eq_one_iff.1 (by simpa using dL)
  rw[hx]at hR hc
  split at ht
  ·rename_i t qS U1
   unfold aI at ha
   simp only at ha
   split at ha
   ·split at ha
    ·rename_i n hn
     cases ha
     refine iA.bR hI hB (aav ho qS hx U1 (k:=k) ?_ hI hn hR.1) (.int _ _) rfl
     split at ht
     ·assumption
     ·exact⟨_,by assumption⟩
     ·exact⟨_,_,by assumption⟩
     ·cases ht
    ·cases ha
   ·cases ha
  ·cases ht
 ·
  rename_i c mx ho
  simp only[Bool.and_eq_true,beq_iff_eq]at hm
  obtain⟨⟨hm,dL⟩,ht⟩:=hm
  obtain⟨hR,hc⟩:=hA _ hm
  obtain⟨x,y,hx⟩:∃x y,c.args.toList=[x,y]:=AP (by simpa using dL)
  rw[hx]at hR hc
  unfold aI at ha
  simp only at ha
  split at ha
  ·split at ha
   ·rename_i hk
    subst hk
    cases ha
    split at ht
    ·rename_i qS
     rw[if_pos ht]
     exact iA.bR hI hB (aaw ho qS hx hR.1 hR.2.1) (.int _ _) rfl
    ·rename_i qS
     rw[if_neg (by simpa using ht)]
     exact iA.bR hI hB (aax ho qS hx hR.1 hR.2.1) (.int _ _) rfl
    ·cases ht
   ·cases ha
  ·cases ha
 ·
  rename_i c sz bytes ho
  simp only[Bool.and_eq_true,beq_iff_eq]at hm
  obtain⟨⟨⟨hm,dL⟩,IW⟩,ht⟩:=hm
  obtain⟨hR,hc⟩:=hA _ hm
  obtain⟨x,y,hx⟩:∃x y,c.args.toList=[x,y]:=AP (by simpa using dL)
  rw[hx]at hR hc
  split at ht
  ·rename_i t u qS Wc Kf
   simp only[Bool.and_eq_true]at ht
   obtain⟨xA,LM⟩:=ht
   split at xA
   ·rename_i e hu
    simp only[Bool.and_eq_true,decide_eq_true_eq]at xA
    obtain⟨⟨⟨⟨h1,h2⟩,h3⟩,h4⟩,h5⟩:=xA
    split at h5
    ·rename_i i hi
     split at h5
     ·rename_i z hz
      simp only[beq_iff_eq]at h5
      have hT:II P t u e sz bytes i z:=by
       refine⟨hu,hi,hz,?_,?_,h5,h3,h4,?_⟩
       ·obtain⟨i',n8,Ct,_⟩:=jM h1
        rw[hi]at n8;cases n8;exact Ct
       ·simpa [mK,hi] using h2
       ·split at LM
        ·exact .inl ⟨_,by assumption⟩
        ·exact .inr (by assumption)
        ·cases LM
      have AQ:=ha
      unfold aI at ha
      simp only at ha
      split at ha
      ·obtain⟨v,w',G',e1,e2⟩:=ND (ty:=o.type) hT hI hB hX hR.1 hR.2.1 (λb=>by have:=hc b;simp only[List.map_cons,kh,cg]at this;omega) AQ
       refine⟨_,_,_,_,_,?_,.inl rfl,e2,dQ.refl _ _⟩
       simp only[execOp,ho,resolve,qS,Sem.run_bind,Sem.run_pure,Result.andThen_ok,invoke,builtin,mh hx,tQ IW Wc Kf]
       simp[e1]
      ·cases ha
     ·cases h5
    ·cases h5
   ·cases xA
  ·cases ht
 ·
  rename_i c sz bytes ho
  simp only[Bool.and_eq_true,beq_iff_eq]at hm
  obtain⟨⟨⟨hm,dL⟩,IW⟩,ht⟩:=hm
  obtain⟨hR,hc⟩:=hA _ hm
  obtain⟨x,y,hx⟩:∃x y,c.args.toList=[x,y]:=AP (by simpa using dL)
  rw[hx]at hR hc
  split at ht
  ·rename_i t u qS Wc Kf
   simp only[Bool.and_eq_true]at ht
   obtain⟨xA,LM⟩:=ht
   split at xA
   ·rename_i e hu
    simp only[Bool.and_eq_true,decide_eq_true_eq]at xA
    obtain⟨⟨⟨⟨h1,h2⟩,h3⟩,h4⟩,h5⟩:=xA
    split at h5
    ·rename_i i hi
     split at h5
     ·rename_i z hz
      simp only[beq_iff_eq]at h5
      have hT:II P t u e sz bytes i z:=by
       refine⟨hu,hi,hz,?_,?_,h5,h3,h4,?_⟩
       ·obtain⟨i',n8,Ct,_⟩:=jM h1
        rw[hi]at n8;cases n8;exact Ct
       ·simpa [mK,hi] using h2
       ·split at LM
        ·exact .inl ⟨_,by assumption⟩
        ·exact .inr (by assumption)
        ·cases LM
      have AQ:=ha
      unfold aI at ha
      simp only at ha
      split at ha
      ·obtain⟨v,w',G',e1,e2⟩:=LD (ty:=o.type) hT hI hB hX hR.1 hR.2.1 AQ
       refine⟨_,_,_,_,_,?_,.inl rfl,e2,dQ.refl _ _⟩
       simp only[execOp,ho,resolve,qS,Sem.run_bind,Sem.run_pure,Result.andThen_ok,invoke,builtin,mh hx,tQ IW Wc Kf]
       simp[e1]
      ·cases ha
     ·cases h5
    ·cases h5
   ·cases xA
  ·cases ht
 ·
  rename_i c sz ho
  simp only[Bool.and_eq_true,beq_iff_eq]at hm
  obtain⟨⟨⟨hm,dL⟩,IW⟩,ht⟩:=hm
  obtain⟨hR,hc⟩:=hA _ hm
  obtain⟨x,y,hx⟩:∃x y,c.args.toList=[x,y]:=AP (by simpa using dL)
  rw[hx]at hR hc
  split at ht
  ·rename_i t u qS Wc Kf
   simp only[Bool.and_eq_true]at ht
   obtain⟨xA,LM⟩:=ht
   split at xA
   ·rename_i e hu
    have hk:(∃e',P.underlying u=some (.slice e'))\/P.underlying u=some .string:=by
     split at LM
     ·exact .inl ⟨_,by assumption⟩
     ·exact .inr (by assumption)
     ·cases LM
    have AQ:=ha
    unfold aI at ha
    simp only at ha
    split at ha
    ·obtain⟨v,w',G',e1,e2⟩:=V4 (ty:=o.type) hu xA hk hI hB hX hR.1 hR.2.1 AQ
     refine⟨_,_,_,_,_,?_,.inl rfl,e2,dQ.refl _ _⟩
     simp only[execOp,ho,resolve,qS,Sem.run_bind,Sem.run_pure,Result.andThen_ok,invoke,builtin,mh hx,tQ IW Wc Kf]
     simp[e1]
    ·cases ha
   ·cases xA
  ·cases ht
 ·
  rename_i s d x ho
  simp only[Bool.and_eq_true]at hm
  obtain⟨hm,ht⟩:=hm
  obtain⟨hR,hc⟩:=hA _ hm
  split at ht
  ·rename_i e h1 h2
   split at ht
   ·rename_i h3
    unfold aI at ha
    simp only at ha
    split at ha
    ·split at ha
     ·rename_i rows v9
      split at ha
      ·rename_i l hl
       cases ha
       obtain⟨u,e1,e2⟩:=Sv ho h1 h3 h2 hI hR.1 v9 hl
       exact iA.bR hI hB e1 e2 rfl
      ·cases ha
     ·cases ha
    ·cases ha
   ·cases ht
  ·cases ht
 ·
  unfold aI at ha
  cases ha
 ·
  unfold aI at ha
  cases ha
 ·
  rename_i t x y sz bytes zero ho
  simp only[Bool.and_eq_true]at hm
  obtain⟨hm,ht⟩:=hm
  obtain⟨hR,hc⟩:=hA _ hm
  split at ht
  ·rename_i e hu
   simp only[Bool.and_eq_true,decide_eq_true_eq]at ht
   obtain⟨⟨⟨⟨h1,h2⟩,h3⟩,h4⟩,h5⟩:=ht
   unfold aI at ha
   simp only at ha
   split at ha
   ·rename_i n c
    split at ha
    ·rename_i jk
     obtain⟨c1,c2,c3,c4,hpz⟩:=jk
     have hcm:c<=9223372036854775807:=by
      have:c*1<=c*bytes:=Int.mul_le_mul_of_nonneg_left (by omega) (by omega)
      simp only[room]at c3
      omega
     obtain⟨cells,e1,e2,e3,e4⟩:=FU (w:=w) (G:=G) ho hu h1 h2 h3 h4 c4 (aL.eS hR.1) (aL.eS hR.2.1) c1 c2 c3 hcm
     obtain⟨_,_,_,_,_,FJ,M0⟩:=j3 h3 w G
     have hle:n.toNat*sz<=c.toNat*sz:=Nat.mul_le_mul_right _ (by omega)
     have bY:fits sz (List.replicate n.toNat zero)=true:=bZ.2 λr hr=>by rw[List.eq_of_mem_replicate hr,c4]
     have gK:∀r∈List.replicate n.toNat zero,AV.aH r=true:=λr hr=>by rw[List.eq_of_mem_replicate hr];exact M0
     have hx:∀(k:Nat) x,(cells.toList.take (n.toNat*sz))[k]?=some x->cells[k]?=some x:=λk x hk=>by
      rw[List.getElem?_take]at hk
      split at hk
      ·simpa using hk
      ·cases hk
     cases ha
     obtain⟨G',Gc⟩:=Sf (sz:=sz) (cap:=c.toNat) (rows:=List.replicate n.toNat zero) (c:=cells) (e:=e) (xs:=cells.toList.take (n.toNat*sz)) (w':=w.alloc (.cells cells e)) (cO:=cO) hI hB rfl rfl rfl bY gK
      (λr hr=>by rw[List.eq_of_mem_replicate hr];exact(cn zero).2 λc hc=>(FJ c hc).1) (λr hr=>by rw[List.eq_of_mem_replicate hr];exact hpz) e3 (by omega) (by simp;omega) hx
     rw[List.length_replicate]at Gc
     exact⟨_,_,_,_,_,e1,.inl rfl,Gc,dQ.refl _ _⟩
    ·cases ha
   ·cases ha
  ·cases ht
 ·
  rename_i c sz bytes zero ho
  simp only[Bool.and_eq_true,beq_iff_eq]at hm
  obtain⟨⟨⟨hm,dL⟩,IW⟩,ht⟩:=hm
  obtain⟨hR,hc⟩:=hA _ hm
  obtain⟨x,y,hx⟩:∃x y,c.args.toList=[x,y]:=AP (by simpa using dL)
  rw[hx]at hR hc
  split at ht
  ·rename_i t u qS Wc Kf
   simp only[Bool.and_eq_true]at ht
   obtain⟨xA,LM⟩:=ht
   split at xA
   ·rename_i e hu
    simp only[Bool.and_eq_true,decide_eq_true_eq]at xA
    obtain⟨⟨⟨⟨h1,h2⟩,h3⟩,h4⟩,h5⟩:=xA
    have hk:∃k,P.underlying u=some (.int k):=by
     split at LM
     ·exact⟨_,by assumption⟩
     ·cases LM
    have AQ:=ha
    unfold aI at ha
    simp only at ha
    split at ha
    ·obtain⟨v,w',G',e1,e2⟩:=LF (ty:=o.type) hu hk h1 h2 h3 h4 h5 hI hB hX hR.1 hR.2.1 AQ
     refine⟨_,_,_,_,_,?_,.inl rfl,e2,dQ.refl _ _⟩
     simp only[execOp,ho,resolve,qS,Sem.run_bind,Sem.run_pure,Result.andThen_ok,invoke,builtin,mh hx,tQ IW Wc Kf]
     simp[e1]
    ·cases ha
   ·cases xA
  ·cases ht
 ·
  rename_i c ho
  simp only[Bool.and_eq_true,beq_iff_eq]at hm
  obtain⟨⟨hm,dL⟩,ht⟩:=hm
  obtain⟨hR,hc⟩:=hA _ hm
  obtain⟨x,hx⟩:∃x,c.args.toList=[x]:=List.length_eq_one_iff.1 (by simpa using dL)
  rw[hx]at hR hc
  split at ht
  ·rename_i t qS U1
   split at ht
   ·rename_i e hu
    unfold aI at ha
    simp only at ha
    split at ha
    ·cases ha
     refine iA.bR hI hB ?_ (.int _ _) rfl
     have e1:∃n,ρ x=.slice none n 0:=by
      have h1:aL w G .U (ρ x):=hR.1
      generalize ρ x=v at h1
      cases h1
      exact⟨_,rfl⟩
     obtain⟨n,e1⟩:=e1
     simp[execOp,ho,resolve,qS,invoke,builtin,Iz hx,Builtin.cap_,U1,run_underlying hu,e1,goInt]
    ·cases ha
   ·cases ht
  ·cases ht
 ·
  have h0:so.args=[]:=by simpa using hm
  have hv:=(hA [] (by rw[h0];rfl)).1
  cases vals with
  |nil=>unfold aI at ha;simp at ha
  |cons a l=>simp[jD]at hv
 ·cases hm
end Ax
namespace Ax
open Go
variable {P:Program}{w w':World}{G G':aK}{β fI:List kO}
theorem sI (d:Nat)(e:dK)(t:Nat):∀env:Env,cA (rZ env d e) t=if t=d then e else cA env t
 |[]=>by
  simp only[rZ,cA]
  by_cases h:d=t
  ·rw[if_pos h,if_pos h.symm]
  ·rw[if_neg h,if_neg (show ¬t=d from λe=>h e.symm)]
 |(k,x)::r=>by
  have ih:=sI d e t r
  unfold rZ
  split
  ·simp only[cA]
   by_cases h:d=t
   ·rw[if_pos h,if_pos h.symm]
   ·rw[if_neg h,if_neg (show ¬t=d from λe=>h e.symm)]
  ·split
   ·rename_i hk
    subst hk
    simp only[cA]
    by_cases h:d=t
    ·rw[if_pos h,if_pos h.symm]
    ·rw[if_neg h,if_neg (show ¬t=d from λe=>h e.symm),if_neg h]
   ·simp only[cA,ih]
    by_cases h:k=t
    ·rw[if_pos h,if_pos h,if_neg (by omega)]
    ·rw[if_neg h,if_neg h]
theorem AR (d t:Nat):∀env:Env,cA (zk env d) t=if t=d then .none else cA env t
 |[]=>by simp[zk,cA]
 |(k,x)::r=>by
  have ih:=AR d t r
  unfold zk
  split
  ·rename_i h
   rw[ih]
   simp only[cA]
   by_cases h2:t=d
   ·rw[if_pos h2,if_pos h2]
   ·rw[if_neg h2,if_neg h2,if_neg (by omega)]
  ·simp only[cA,ih]
   by_cases h2:t=d
   ·rw[if_pos h2,if_pos h2]
    rw[if_neg (by omega)]
   ·rw[if_neg h2,if_neg h2]
def nU:List Src->List Nat
 |[]=>[]
 |.tmp t true::r=>t::nU r
 |_::r=>nU r
theorem qu (t:Nat):∀(ss:List Src)(env:Env),cA (ss.foldl kD env) t=if t∈nU ss then .none else cA env t
 |[],env=>by simp[nU]
 |.tmp u true::r,env=>by
  simp only[List.foldl_cons,kD,nU,qu t r,AR,List.mem_cons]
  by_cases h1:t∈nU r
  ·simp[h1]
  ·by_cases h2:t=u
   ·simp[h2]
   ·simp[h1,h2]
 |.tmp u false::r,env=>by rw[List.foldl_cons,qu t r];rfl
 |.const a::r,env=>by rw[List.foldl_cons,qu t r];rfl
theorem qT (t:Nat):∀(l:List Nat)(env:Env),cA (gH l env) t=if t∈l then .none else cA env t
 |[],env=>by simp[gH]
 |u::l,env=>by
  simp only[gH,qT t l,AR,List.mem_cons]
  by_cases h1:t∈l
  ·simp[h1]
  ·by_cases h2:t=u
   ·simp[h2]
   ·simp[h1,h2]
theorem C2 (t:Nat):∀(k:Nat)(l:List AV),cA (CT k l) t=if k<=t then (match l[t-k]? with|some v=>.val v|none=>.none) else .none
 |k,[]=>by simp[CT,cA]
 |k,v::r=>by
  simp only[CT,cA,C2 t (k+1) r]
  by_cases h:k=t
  ·subst h;simp
  ·rw[if_neg h]
   by_cases h2:k<=t
   ·rw[if_pos h2,if_pos (by omega),show t-k=(t-(k+1))+1 by omega]
    simp
   ·rw[if_neg h2,if_neg (by omega)]
theorem AS {j:Nat}:∀{env:Env},nw j env=true->∀t,(cA env t).mT j=true
 |[],_,_=>rfl
 |(k,x)::r,h,t=>by
  simp only[nw,List.all_cons,Bool.and_eq_true]at h
  simp only[cA]
  split
  ·exact h.1
  ·exact AS (env:=r) (by simpa [nw] using h.2) t
def fH (f:Nat->Nat):Nat->Nat
 |0=>0
 |n+1=>fH f n+f n
theorem mj {f g:Nat->Nat}:∀{n:Nat},(∀t,t<n->f t=g t)->fH f n=fH g n
 |0,_=>rfl
 |n+1,h=>by simp only[fH];rw[mj λt ht=>h t (by omega),h n (by omega)]
theorem zM {f g:Nat->Nat}:∀{n:Nat},(∀t,t<n->f t<=g t)->fH f n<=fH g n
 |0,_=>Nat.le_refl _
 |n+1,h=>by
  simp only[fH]
  have h1:=zM (f:=f) (g:=g) (n:=n) λt ht=>h t (by omega)
  have h2:=h n (by omega)
  omega
theorem qv {f g:Nat->Nat}{d:Nat}:∀{n:Nat},d<n->(∀t,t≠d->f t=g t)->fH f n+g d=fH g n+f d
 |0,h,_=>by omega
 |n+1,h,he=>by
  simp only[fH]
  by_cases hd:d=n
  ·subst hd
   rw[mj (f:=f) (g:=g) λt ht=>he t (by omega)]
   omega
  ·have:=qv (f:=f) (g:=g) (n:=n) (d:=d) (by omega) he
   rw[he n λe=>hd e.symm]
   omega
theorem sJ {f:Nat->Nat}{t n:Nat}(h:t<n):f t<=fH f n:=by
 have:=qv (f:=λu=>if u=t then 0 else f u) (g:=f) (d:=t) h λu hu=>if_neg hu
 simp only[if_true]at this
 omega
theorem C3 {n:Nat}:fH (λ_=>0) n=0:=by
 induction n with
 |zero=>rfl
 |succ n ih=>simp[fH,ih]
def nD (f:Nat->Nat):List Nat->Nat
 |[]=>0
 |t::l=>f t+nD f l
theorem wh {f:Nat->Nat}{n:Nat}(hf:∀t,n<=t->f t=0):∀(l:List Nat),l.Nodup->nD f l+fH (λt=>if t∈l then 0 else f t) n<=fH f n
 |[],_=>by simp[nD]
 |t::l,h=>by
  have ih:=wh hf l (List.nodup_cons.1 h).2
  have hn:=(List.nodup_cons.1 h).1
  simp only[nD]
  by_cases ht:t<n
  ·have:=qv (f:=λu=>if u∈t::l then 0 else f u) (g:=λu=>if u∈l then 0 else f u) (d:=t) ht λu hu=>by simp[hu]
   simp only[List.mem_cons,true_or,if_true,if_neg hn]at this
   simp only[List.mem_cons]
   omega
  ·rw[hf t (by omega)]
   rw[mj (f:=λu=>if u∈t::l then 0 else f u) (g:=λu=>if u∈l then 0 else f u) λu hu=>by simp[show u≠t by omega]]
   omega
mutual
def AV.under (n:Nat):AV->Bool
 |.mu i _|.ptr i _ _ _|.map i=>decide (i<n)
 |.agg cs|.fm cs=>AV.mm n cs
 |.fn _ a b=>AV.mm n a&&AV.mm n b
 |_=>true
def AV.mm (n:Nat):List AV->Bool
 |[]=>true
 |v::r=>v.under n&&AV.mm n r
end
theorem fJ (n:Nat):∀cs:List AV,AV.mm n cs=true↔∀c∈cs,c.under n=true
 |[]=>by simp[AV.mm]
 |c::cs=>by simp[AV.mm,fJ n cs]
mutual
theorem gO (n:Nat):∀a:AV,a.an=true->a.under n=true
 |.mu _ _,h=>by simp[AV.an]at h
 |.ptr _ _ _ _,h=>by simp[AV.an]at h
 |.map _,h=>by simp[AV.an]at h
 |.agg cs,h=>by simp only[AV.an,AV.under]at *;exact mX n cs h
 |.fm cs,h=>by simp only[AV.an,AV.under]at *;exact mX n cs h
 |.fn _ a b,h=>by simp only[AV.an,AV.under,Bool.and_eq_true]at *;exact⟨mX n a h.1,mX n b h.2⟩
 |.undef,_|.gone,_|.bool _,_|.int _ _,_|.str _,_|.dY,_|.U,_|.eX,_|.gD,_|.jj,_|.cN _ _,_|.own _ _,_|.raw _ _,_|.emp,_|.nJ _ _ _ _,_=>by simp[AV.under]
theorem mX (n:Nat):∀cs:List AV,AV.ah cs=true->AV.mm n cs=true
 |[],_=>rfl
 |c::cs,h=>by
  simp only[AV.ah,Bool.and_eq_true]at h
  simp only[AV.mm,gO n c h.1,mX n cs h.2,Bool.and_self]
end
mutual
theorem IX {m n:Nat}(Wd:m<=n):∀a:AV,a.under m=true->a.under n=true
 |.mu _ _,h|.ptr _ _ _ _,h|.map _,h=>by simp only[AV.under,decide_eq_true_eq]at *;omega
 |.agg cs,h=>by simp only[AV.under]at *;exact mY Wd cs h
 |.fm cs,h=>by simp only[AV.under]at *;exact mY Wd cs h
 |.fn _ a b,h=>by simp only[AV.under,Bool.and_eq_true]at *;exact⟨mY Wd a h.1,mY Wd b h.2⟩
 |.undef,_|.gone,_|.bool _,_|.int _ _,_|.str _,_|.dY,_|.U,_|.eX,_|.gD,_|.jj,_|.cN _ _,_|.own _ _,_|.raw _ _,_|.emp,_|.nJ _ _ _ _,_=>by simp[AV.under]
theorem mY {m n:Nat}(Wd:m<=n):∀cs:List AV,AV.mm m cs=true->AV.mm n cs=true
 |[],_=>rfl
 |c::cs,h=>by
  simp only[AV.mm,Bool.and_eq_true]at *
  exact⟨IX Wd c h.1,mY Wd cs h.2⟩
end
theorem aL.wj {a:AV}{v:Value}(h:aL w G a v):a.under G.ls.length=true:=by
 induction h with
 |agg cs vs hl h ih=>
  simp only[AV.under]
  refine(fJ _ cs).2 λc hc=>?_
  obtain⟨i,hi,rfl⟩:=List.mem_iff_getElem.1 hc
  have n8:i<vs.size:=by omega
  exact ih i cs[i] vs[i] (List.getElem?_eq_getElem hi) (by simp[n8])
 |fm cs vs hl h ih=>
  simp only[AV.under]
  refine(fJ _ cs).2 λc hc=>?_
  obtain⟨i,hi,rfl⟩:=List.mem_iff_getElem.1 hc
  have n8:i<vs.size:=by omega
  exact ih i cs[i] vs[i] (List.getElem?_eq_getElem hi) (by simp[n8])
 |mu id bP v loc hp hl hv he=>simpa [AV.under] using (List.getElem?_eq_some_iff.1 hl).1
 |ptr id bP i k v loc hp hl hv he=>simpa [AV.under] using (List.getElem?_eq_some_iff.1 hl).1
 |map id loc b hl hm hb=>simpa [AV.under] using (List.getElem?_eq_some_iff.1 hl).1
 |fn f first jI vf vc hl hm hn h k ih ik=>
  simp only[AV.under,Bool.and_eq_true]
  refine⟨(fJ _ first).2 λc hc=>?_,(fJ _ jI).2 λc hc=>?_⟩
  ·obtain⟨i,hi,rfl⟩:=List.mem_iff_getElem.1 hc
   have n8:i<vf.size:=by omega
   exact ih i first[i] vf[i] (List.getElem?_eq_getElem hi) (by simp[n8])
  ·obtain⟨i,hi,rfl⟩:=List.mem_iff_getElem.1 hc
   have n8:i<vc.size:=by omega
   exact ik i jI[i] vc[i] (List.getElem?_eq_getElem hi) (by simp[n8])
 |_=>simp[AV.under]
def aK.cut (G:aK)(n:Nat):aK:=⟨G.ls.take n,G.kg⟩
theorem zN {n i:Nat}{loc:Loc}(h:G.ls[i]?=some loc)(hi:i<n):(G.cut n).ls[i]?=some loc:=by
 simp only[aK.cut];rw[List.getElem?_take,if_pos hi];exact h
theorem aL.AT {n:Nat}{a:AV}{v:Value}(h:aL w G a v):a.under n=true->aL w (G.cut n) a v:=by
 induction h with
 |undef=>exact λ_=>.undef
 |gone v h=>exact λ_=>.gone v h
 |bool b=>exact λ_=>.bool b
 |int k n=>exact λ_=>.int k n
 |str l s h=>exact λ_=>.str l s h
 |dY=>exact λ_=>.dY
 |U=>exact λ_=>.U
 |eX=>exact λ_=>.eX
 |gD=>exact λ_=>.gD
 |jj=>exact λ_=>.jj
 |agg cs vs hl h ih=>exact λhb=>.agg cs vs hl λi c v h1 h2=>ih i c v h1 h2 ((fJ n cs).1 (by simpa [AV.under] using hb) c (cD h1))
 |fm cs vs hl h ih=>exact λhb=>.fm cs vs hl λi c v h1 h2=>ih i c v h1 h2 ((fJ n cs).1 (by simpa [AV.under] using hb) c (cD h1))
 |cN sz rows a cap nS eJ bY hY mU tH hc hr ih=>
  exact λ_=>.cN sz rows a cap nS eJ bY hY mU tH hc λi r j c v h1 h2 h3=>ih i r j c v h1 h2 h3 (gO n c ((fC r).1 (mU r (cD h1)) c (cD h2)))
 |own sz rows a cap nS eJ bY hY mU tH hc hr gq eF ih=>
  exact λ_=>.own sz rows a cap nS eJ bY hY mU tH hc (λi r j c v h1 h2 h3=>ih i r j c v h1 h2 h3 (gO n c ((fC r).1 (mU r (cD h1)) c (cD h2)))) gq eF
 |raw sz rows a cap nS eJ bY hY mU tH hc hr gq eF ih=>
  exact λ_=>.raw sz rows a cap nS eJ bY hY mU tH hc (λi r j c v h1 h2 h3=>ih i r j c v h1 h2 h3 (gO n c ((fC r).1 (mU r (cD h1)) c (cD h2)))) gq eF
 |emp a=>exact λ_=>.emp a
 |mu id bP v loc hp hl hv he=>exact λhb=>.mu id bP v loc hp (zN hl (by simpa [AV.under] using hb)) hv he
 |ptr id bP i k v loc hp hl hv he=>exact λhb=>.ptr id bP i k v loc hp (zN hl (by simpa [AV.under] using hb)) hv he
 |nJ sz rows i k a cap hs ih=>exact λ_=>.nJ sz rows i k a cap (ih (by simp[AV.under]))
 |map id loc b hl hm hb=>exact λkW=>.map id loc b (zN hl (by simpa [AV.under] using kW)) hm hb
 |fn f first jI vf vc hl hm hn h k ih ik=>
  intro hb
  simp only[AV.under,Bool.and_eq_true]at hb
  exact .fn f first jI vf vc hl hm hn (λi c v h1 h2=>ih i c v h1 h2 ((fJ n first).1 hb.1 c (cD h1))) λi c v h1 h2=>ik i c v h1 h2 ((fJ n jI).1 hb.2 c (cD h1))
def fh.under (n:Nat):fh->Bool
 |.rows _ _ rs=>rs.all (AV.mm n)
 |.map es=>es.all λe=>e.1.under n&&e.2.under n
theorem nC.AT {n:Nat}{ob:fh}{loc:Loc}(h:nC w G ob loc)(hb:ob.under n=true):nC w (G.cut n) ob loc:=by
 cases ob with
 |rows bP sz rows=>
  obtain⟨h1,h2,h3⟩:=h
  simp only[fh.under,List.all_eq_true]at hb
  refine⟨h1,h2,h3.fit,h3.zG,h3.len,h3.size,h3.p6,λi r xs e1 e2=>?_,h3.nB⟩
  obtain⟨a1,a2⟩:=h3.qo i r xs e1 e2
  exact⟨a1,λj c v g1 g2=>(a2 j c v g1 g2).AT ((fJ n r).1 (hb r (cD e1)) c (cD g1))⟩
 |map es=>
  obtain⟨h1,h2,b,se,clock,h3,h4,h5,h6,h7⟩:=h
  simp only[fh.under,List.all_eq_true,Bool.and_eq_true]at hb
  refine⟨h1,h2,b,se,clock,h3,h4,h5,h6,λi k v e e1 e2=>?_⟩
  obtain⟨g1,g2,g3,g4⟩:=h7 i k v e e1 e2
  have:=hb (k,v) (cD e1)
  exact⟨g1.AT this.1,g2.AT this.2,g3,g4⟩
theorem nC.wj {ob:fh}{loc:Loc}(h:nC w G ob loc):ob.under G.ls.length=true:=by
 cases ob with
 |rows bP sz rows=>
  obtain⟨h1,h2,h3⟩:=h
  simp only[fh.under,List.all_eq_true]
  intro r hr
  obtain⟨i,hi,rfl⟩:=List.mem_iff_getElem.1 hr
  have n8:i<loc.vals.length:=by rw[h3.p6];exact hi
  obtain⟨a1,a2⟩:=h3.qo i rows[i] loc.vals[i] (List.getElem?_eq_getElem hi) (List.getElem?_eq_getElem n8)
  refine(fJ _ _).2 λc hc=>?_
  obtain⟨j,hj,rfl⟩:=List.mem_iff_getElem.1 hc
  have hj':j<loc.vals[i].length:=by omega
  exact(a2 j _ _ (List.getElem?_eq_getElem hj) (List.getElem?_eq_getElem hj')).wj
 |map es=>
  obtain⟨h1,h2,b,se,clock,h3,h4,h5,h6,h7⟩:=h
  simp only[fh.under,List.all_eq_true,Bool.and_eq_true]
  intro x hx
  obtain⟨i,hi,rfl⟩:=List.mem_iff_getElem.1 hx
  have n8:i<se.size:=by omega
  obtain⟨g1,g2,_,_⟩:=h7 i es[i].1 es[i].2 se[i] (List.getElem?_eq_getElem hi) (by simp[n8])
  exact⟨g1.wj,g2.wj⟩
def C4 (l:Nat)(st:aj):Prop:=∀(id:Nat) ob,id<l->st[id]?=some ob->ob.under l=true
theorem Inv.aaR {st:aj}(h:Inv w G st):C4 st.length st:=by
 intro id ob _ hob
 obtain⟨loc,hl,hr⟩:=h.loc hob
 rw[<-h.len];exact hr.wj
theorem Inv.AT {st:aj}{n:Nat}(h:Inv w G st)(hl:C4 n st):Inv w (G.cut n) (st.take n) where
 len:=by simp[aK.cut,h.len]
 obj:=λid ob loc h1 h2=>by
  simp only[aK.cut]at h2
  rw[List.getElem?_take]at h1 h2
  split at h1
  ·rename_i Il
   rw[if_pos Il]at h2
   exact(h.obj id ob loc h1 h2).AT (hl id ob Il h1)
  ·cases h1
 kP:=h.kP
theorem SA {n:Nat}(h:pF w G w' G')(hn:G.ls.length<=n):pF w G w' (G'.cut n) where
 No:=h.No
 ids:=λid loc hl=>by
  obtain⟨loc',a1,a2,a3⟩:=h.ids id loc hl
  exact⟨loc',zN a1 (by have:=(List.getElem?_eq_some_iff.1 hl).1;omega),a2,a3⟩
theorem C5 (b:Nat):∀(n:Nat)(ls:List Loc)(st:aj),bS b (ls.take n) (st.take n)<=bS b ls st
 |0,ls,st=>by simp[bS]
 |n+1,[],st=>by simp[bS]
 |n+1,l::ls,[]=>by simp[bS]
 |n+1,l::ls,o::st=>by
  have:=C5 b n ls st
  simp only[List.take_succ_cons,bS];omega
end Ax
namespace Ax
open Go
structure cL (wl aa:Nat)(st bK:aj):Prop where
 len:st.length<=bK.length
 low:∀id,id<wl->id<st.length->bK[id]?=st[id]?
 aa:∀l,l<=aa->l<=st.length->C4 l st->C4 l bK
variable {wl aa:Nat}{st bK Lp:aj}
theorem cL.refl (wl aa:Nat)(st:aj):cL wl aa st st:=⟨Nat.le_refl _,λ_ _ _=>rfl,λ_ _ _ h=>h⟩
theorem cL.trans (h:cL wl aa st bK)(k:cL wl aa bK Lp):cL wl aa st Lp:=
 ⟨Nat.le_trans h.len k.len,λid h1 h2=>(k.low id h1 (Nat.lt_of_lt_of_le h2 h.len)).trans (h.low id h1 h2),λl h1 h2 h3=>k.aa l h1 (Nat.le_trans h2 h.len) (h.aa l h1 h2 h3)⟩
theorem cL.push (wl aa:Nat)(st:aj)(ob:fh):cL wl aa st (st++[ob]) where
 len:=by simp
 low:=λid _ h=>by rw[List.getElem?_append_left h]
 aa:=λl _ h1 h2 id Fx h3 h4=>h2 id Fx h3 (by rwa [List.getElem?_append_left (by omega)]at h4)
theorem cL.set {id:Nat}{ob Fx:fh}(eG:st[id]?=some ob)(hw:wl<=id)(h:∀l,l<=aa->id<l->ob.under l=true->Fx.under l=true):cL wl aa st (st.set id Fx) where
 len:=by simp
 low:=λi h1 _=>by rw[List.getElem?_set,if_neg (by omega)]
 aa:=λl h1 h2 h3 i V2 h4 h5=>by
  rw[List.getElem?_set]at h5
  split at h5
  ·rename_i e;subst e
   split at h5
   ·cases h5;exact h l h1 h4 (h3 _ ob h4 eG)
   ·cases h5
  ·exact h3 i V2 h4 h5
theorem qU {l bP sz:Nat}{rs:List (List AV)}:(fh.rows bP sz rs).under l=true↔∀r∈rs,∀c∈r,c.under l=true:=by
 simp only[fh.under,List.all_eq_true]
 exact⟨λh r hr=>(fJ l r).1 (h r hr),λh r hr=>(fJ l r).2 (h r hr)⟩
theorem LN {α:Type}{as vs:List α}{k:Nat}{x:α}(h:k+vs.length<=as.length)(hx:x∈af as k vs):x∈as\/x∈vs:=by
 rw[iS _ _ _ h]at hx
 rcases List.mem_append.1 hx with hx|hx
 ·rcases List.mem_append.1 hx with hx|hx
  ·exact .inl (List.mem_of_mem_take hx)
  ·exact .inr hx
 ·exact .inl (List.mem_of_mem_drop hx)
theorem qV {p:AV}{cells:List AV}(h:dz wl aa st p cells=some bK)(hc:∀id bP i k,p=.ptr id bP i k->True:=λ_ _ _ _ _=>trivial):cL wl aa st bK:=by
 unfold dz at h
 split at h
 ·split at h
  ·rename_i v sz rows eG
   split at h
   ·rename_i jk
    simp only[Bool.and_eq_true,decide_eq_true_eq,bf,Bool.or_eq_true]at jk
    obtain⟨_,hw,hl⟩:=jk
    split at h
    ·rename_i r hr
     split at h
     ·rename_i bY
      cases h
      refine cL.set eG hw λl h1 h2 h3=>?_
      rw[qU]at h3 ⊢
      intro r' uA c MZ
      rcases List.mem_or_eq_of_mem_set uA with h4|h4
      ·exact h3 r' h4 c MZ
      ·subst h4
       rcases LN bY MZ with h5|h5
       ·exact h3 r (cD hr) c h5
       ·rcases hl with hl|hl
        ·omega
        ·exact gO l c ((fC cells).1 hl c h5)
     ·cases h
    ·cases h
   ·cases h
  ·cases h
 ·cases h
theorem AU {sz bytes:Nat}{s:AV}{new:List (List AV)}{bx eI:aS}{r:dK}(h:xE wl aa sz bytes s new st bx=some (r,bK,eI)):cL wl aa st bK:=by
 unfold xE at h
 split at h
 ·split at h
  ·split at h
   ·cases h;exact cL.refl _ _ _
   ·split at h
    ·cases h;exact cL.push _ _ _ _
    ·cases h
  ·split at h
   ·cases h;exact cL.push _ _ _ _
   ·cases h
  ·split at h
   ·rename_i eG
    split at h
    ·rename_i hc
     simp only[Bool.and_eq_true,decide_eq_true_eq,Bool.or_eq_true,List.all_eq_true]at hc
     cases h
     refine cL.set eG hc.1.2 λl h1 h2 h3=>?_
     rw[qU]at h3 ⊢
     intro r hr c RC
     rcases List.mem_append.1 hr with h4|h4
     ·exact h3 r h4 c RC
     ·rcases hc.2 with h5|h5
      ·omega
      ·exact gO l c ((fC r).1 (h5 r h4) c RC)
    ·cases h
   ·cases h
  ·cases h
 ·cases h
theorem IY {op:fA}{vals:List dK}{bx eI:aS}{r:dK}(h:aI wl aa op vals st bx=some (r,bK,eI)):cL wl aa st bK:=by
 cases op
 case load agg n take=>
  unfold aI at h
  simp only at h
  split at h
  ·split at h
   ·split at h
    ·split at h
     ·rename_i hw _;cases h;exact qV hw
     ·cases h
    ·split at h
     ·cases h;exact cL.refl _ _ _
     ·cases h
   ·cases h
  ·cases h
 case store n=>
  unfold aI at h
  simp only at h
  split at h
  ·split at h
   ·split at h
    ·rename_i hw;cases h;exact qV hw
    ·cases h
   ·cases h
  ·cases h
 case u6 sz=>
  unfold aI at h
  simp only at h
  split at h
  ·split at h
   ·rename_i eG
    split at h
    ·rename_i hc
     simp only[Bool.and_eq_true,decide_eq_true_eq]at hc
     cases h
     refine cL.set eG hc.2 λl _ _ h3=>?_
     rw[qU]at h3 ⊢
     exact λr hr=>h3 r (List.mem_of_mem_take hr)
    ·cases h
   ·cases h
  ·cases h
 case lu sz bytes=>
  unfold aI at h
  simp only at h
  split at h
  ·split at h
   ·cases h
   ·exact AU h
  ·cases h
 case tG sz bytes zero=>
  unfold aI at h
  simp only at h
  split at h
  ·split at h
   ·exact AU h
   ·cases h
  ·cases h
 case copy sz=>
  unfold aI at h
  simp only at h
  split at h
  ·split at h
   ·rename_i eG qt
    split at h
    ·rename_i hc
     simp only[Bool.and_eq_true,decide_eq_true_eq,Bool.or_eq_true,List.all_eq_true]at hc
     cases h
     refine cL.set eG hc.1.2 λl h1 h2 h3=>?_
     rw[qU]at h3 ⊢
     intro r hr c RC
     rcases List.mem_append.1 hr with h4|h4
     ·rcases hc.2 with h5|h5
      ·omega
      ·exact gO l c ((fC r).1 (h5 r h4) c RC)
     ·exact h3 r (List.mem_of_mem_drop h4) c RC
    ·cases h
   ·cases h
  ·cases h
 case mapUpdate kk=>
  unfold aI at h
  simp only at h
  split at h
  ·rename_i id k v
   split at h
   ·rename_i es eG
    split at h
    ·rename_i hc
     simp only[Bool.and_eq_true,bf,decide_eq_true_eq,Bool.or_eq_true]at hc
     split at h
     ·rename_i se LH
      cases h
      refine cL.set eG hc.2.1 λl h1 h2 h3=>?_
      have hk:k.under l=true:=by
       have:=hc.1
       unfold isKey at this
       split at this<;>first|rfl|cases this
      have hv:v.view.under l=true:=by
       rcases hc.2.2 with h5|h5
       ·omega
       ·simp only[AV.ah,Bool.and_true]at h5
        exact gO l _ (sG v h5)
      clear eG
      simp only[fh.under,List.all_eq_true,Bool.and_eq_true]at h3 ⊢
      have key:∀(es se:List (AV×AV)),(∀x∈es,x.1.under l=true/\x.2.under l=true)->Cw kk k v.view es=some se->∀x∈se,x.1.under l=true/\x.2.under l=true:=by
       intro es
       induction es with
       |nil=>intro se _ h x hx;simp[Cw]at h;subst h;simp at hx;subst hx;exact⟨hk,hv⟩
       |cons c es ih=>
        intro se o6 h
        obtain⟨a,u⟩:=c
        simp only[Cw]at h
        split at h
        ·cases h
         intro x hx
         rcases List.mem_cons.1 hx with rfl|hx
         ·exact⟨hk,hv⟩
         ·exact o6 x (by simp[hx])
        ·split at h
         ·rename_i r' uA
          cases h
          intro x hx
          rcases List.mem_cons.1 hx with rfl|hx
          ·exact o6 _ (by simp)
          ·exact ih r' (λx hx=>o6 x (by simp[hx])) uA x hx
         ·cases h
        ·cases h
      exact key es se h3 LH
     ·cases h
    ·cases h
   ·cases h
  ·cases h
 all_goals
  unfold aI at h
  simp only at h
  repeat' split at h
 all_goals first
  |(cases h;exact cL.refl _ _ _)
  |(cases h;exact cL.push _ _ _ _)
  |cases h
structure oK (O:jf):Prop where
 call:∀wl aa f args st v bK,O.call wl aa f args st=some (v,bK)->cL wl aa st bK
 loop:∀wl aa rs c s x s',O.loop wl aa rs c s=some (x,s')->cL wl aa s.st s'.st
variable {O:jf}
theorem LO (hO:oK O){op:fA}{vals:List dK}{bx eI:aS}{r:dK}(h:act O wl aa op vals st bx=some (r,bK,eI)):cL wl aa st bK:=by
 have call:∀x,eR O wl aa x st bx=some (r,bK,eI)->cL wl aa st bK:=by
  intro x h
  unfold eR at h
  split at h
  ·split at h
   ·rename_i hc;cases h;exact hO.call _ _ _ _ _ _ _ hc
   ·cases h
  ·cases h
 unfold act at h
 split at h
 ·exact call _ h
 ·exact call _ h
 ·exact IY h
theorem wk (hO:oK O){o:aU}{s s':St}(h:evalOp O wl aa o s=some s'):cL wl aa s.st s'.st:=by
 unfold evalOp at h
 split at h
 ·cases h
 ·cases h;exact cL.refl _ _ _
 ·split at h
  ·cases h
  ·rename_i ha
   have hk:=LO hO ha
   split at h
   ·cases h;exact hk
   ·split at h
    ·cases h;exact hk
    ·cases h
theorem uM (hO:oK O):∀{l:List aU}{s s':St},eC O wl aa l s=some s'->cL wl aa s.st s'.st
 |[],s,s',h=>by simp only[eC,Option.some.injEq]at h;subst h;exact cL.refl _ _ _
 |o::l,s,s',h=>by
  simp only[eC]at h
  split at h
  ·rename_i s1 h1;exact(wk hO h1).trans (uM hO h)
  ·cases h
theorem uN (hO:oK O):∀{l:List aU}{s s':St}{gp:List St},dm O wl aa l s=some (s',gp)->cL wl aa s.st s'.st
 |[],s,s',gp,h=>by simp only[dm,Option.some.injEq,Prod.mk.injEq]at h;obtain⟨rfl,_⟩:=h;exact cL.refl _ _ _
 |o::l,s,s',gp,h=>by
  simp only[dm]at h
  split at h
  ·rename_i s1 h1
   split at h
   ·rename_i h2;cases h;exact(wk hO h1).trans (uN hO h2)
   ·cases h
  ·cases h
theorem AW (hO:oK O){l:List aU}{bD:List (Nat×Nat)}{s s':St}(h:fq O wl aa l bD s=some s'):cL wl aa s.st s'.st:=by
 unfold fq at h
 split at h
 ·cases h
 ·rename_i hr
  split at h
  ·cases h;exact uN hO hr
  ·cases h
theorem CF {a a':AV}(h:pC wl a st=some (a',bK)):cL wl aa st bK:=by
 unfold pC at h
 split at h
 ·split at h
  ·rename_i eG
   split at h
   ·rename_i hc
    simp only[Bool.and_eq_true,decide_eq_true_eq]at hc
    cases h
    exact cL.set eG hc.2 λl _ _ _=>by simp[fh.under]
   ·cases h
  ·cases h
 ·split at h
  ·cases h;exact cL.refl _ _ _
  ·cases h
theorem uQ:∀{l l':List AV}{st bK:aj},jZ wl l st=some (l',bK)->cL wl aa st bK
 |[],l',st,bK,h=>by simp only[jZ,Option.some.injEq,Prod.mk.injEq]at h;obtain⟨_,rfl⟩:=h;exact cL.refl _ _ _
 |a::l,l',st,bK,h=>by
  simp only[jZ]at h
  split at h
  ·rename_i h1
   split at h
   ·rename_i h2;cases h;exact(CF h1).trans (uQ h2)
   ·cases h
  ·cases h
theorem sK:∀{l l':List (List AV)}{st bK:aj},kF wl l st=some (l',bK)->cL wl aa st bK
 |[],l',st,bK,h=>by simp only[kF,Option.some.injEq,Prod.mk.injEq]at h;obtain⟨_,rfl⟩:=h;exact cL.refl _ _ _
 |a::l,l',st,bK,h=>by
  simp only[kF]at h
  split at h
  ·rename_i h1
   split at h
   ·rename_i h2;cases h;exact(uQ h1).trans (sK h2)
   ·cases h
  ·cases h
theorem p9 {a a':AV}(h:jq wl a st=some (a',bK)):cL wl aa st bK:=by
 unfold jq at h
 split at h
 ·split at h
  ·rename_i eG
   split at h
   ·rename_i hc
    simp only[Bool.and_eq_true,decide_eq_true_eq]at hc
    split at h
    ·rename_i hl
     cases h
     exact(cL.set (aa:=aa) eG hc.2 λl _ _ _=>by simp[fh.under]).trans (sK hl)
    ·cases h
   ·cases h
  ·cases h
 ·cases h;exact cL.refl _ _ _
 ·cases h
theorem CG {a a':AV}(h:nP wl a st=some (a',bK)):cL wl aa st bK:=by
 unfold nP at h
 split at h
 ·cases h;exact cL.push _ _ _ _
 ·exact p9 h
theorem iU (hO:oK O){rs:List jA}:∀{c:bG}{s:St}{x:Ex}{s':St},gm O wl aa rs c s=some (x,s')->cL wl aa s.st s'.st
 |.skip,s,x,s',h=>by simp only[gm,Option.some.injEq,Prod.mk.injEq]at h;obtain⟨_,rfl⟩:=h;exact cL.refl _ _ _
 |.region ops draw dx,s,x,s',h=>by
  simp only[gm]at h
  split at h
  ·rename_i s1 h1
   cases h
   show cL wl aa s.st s1.st
   cases draw with
   |none=>exact uM hO (by simpa only using h1)
   |some bD=>exact AW hO (by simpa only using h1)
  ·cases h
 |.seq a b,s,x,s',h=>by
  simp only[gm]at h
  split at h
  ·rename_i s1 h1;exact(iU hO h1).trans (iU hO h)
  ·exact iU hO h
 |.cond c ca a cb b,s,x,s',h=>by
  simp only[gm]at h
  split at h
  ·have:=iU (c:=a) hO h
   exact this
  ·have:=iU (c:=b) hO h
   exact this
  ·cases h
 |.block id c,s,x,s',h=>by
  simp only[gm]at h
  split at h
  ·rename_i h1
   split at h<;>(cases h;exact iU hO h1)
  ·exact iU hO h
 |.loop c,s,x,s',h=>by simp only[gm]at h;exact hO.loop _ _ _ _ _ _ _ h
 |.exit id,s,x,s',h=>by simp only[gm,Option.some.injEq,Prod.mk.injEq]at h;obtain⟨_,rfl⟩:=h;exact cL.refl _ _ _
 |.ret,s,x,s',h=>by
  simp only[gm]at h
  split at h
  ·cases h;exact cL.refl _ _ _
  ·cases h
 |.Nl t,s,x,s',h=>by
  simp only[gm]at h
  split at h
  ·split at h
   ·rename_i hf;cases h;exact p9 hf
   ·cases h
  ·cases h
 |.Ai j k,s,x,s',h=>by
  simp only[gm]at h
  split at h
  ·split at h
   ·split at h
    ·rename_i hf;cases h;exact p9 hf
    ·cases h
   ·cases h
  ·cases h
 |.uw t off,s,x,s',h=>by
  obtain⟨_,id,bP,i,k,v,v',kV,lf,_,_,g3,g4,rfl⟩:=Am h
  exact(CG g3).trans (qV g4)
theorem IZ:∀m:Mode,m=.pure\/m=.lq\/m=.Cv:=by
 intro m
 cases m<;>simp
theorem zw (hO:oK O){sf:aC}{args:List AV}{v:AV}(h:cM O wl aa sf args st=some (v,bK)):cL wl aa st bK:=by
 unfold cM at h
 split at h
 ·split at h
  ·rename_i x s hs
   split at h
   ·rename_i u hu
    have hk:=iU hO hs
    simp only[oA]at hk
    rcases IZ sf.mode with hm|hm|hm
    ·rw[hm]at h
     simp only[Mode.fin]at h
     split at h
     ·cases h;exact cL.refl _ _ _
     ·cases h
    ·rw[hm]at h hk
     simp only[Mode.fin]at h
     simp only[Mode.va,Mode.oz]at hk
     split at h
     ·cases h
      refine⟨by rw[List.length_take];have:=hk.len;omega,λid h1 h2=>?_,λl h1 h2 h3 id ob h4 h5=>?_⟩
      ·rw[List.getElem?_take,if_pos h2];exact hk.low id h1 h2
      ·rw[List.getElem?_take]at h5
       split at h5
       ·exact hk.aa l h2 h2 h3 id ob h4 h5
       ·cases h5
     ·cases h
    ·rw[hm]at h hk
     simp only[Mode.fin]at h
     cases h
     exact hk
   ·cases h
  ·cases h
 ·cases h
theorem AX (hO:oK O){sf:aC}{args:List AV}{v:AV}(h:dD O wl aa sf args st=some (v,bK)):cL wl aa st bK:=by
 unfold dD at h
 split at h
 ·simp only[Option.map_eq_some_iff]at h
  obtain⟨x,_,hx⟩:=h
  cases hx
  exact cL.refl _ _ _
 ·exact zw hO h
theorem C6 (S:Nat->Option aC):∀n,oK (ny S n)
 |0=>⟨λ_ _ _ _ _ _ _ h=>by simp[ny]at h,λ_ _ _ _ _ _ _ h=>by simp[ny]at h⟩
 |n+1=>by
  have ih:=C6 S n
  refine⟨λwl aa f args st v bK h=>?_,λwl aa rs c s x s' h=>?_⟩
  ·simp only[ny]at h
   split at h
   ·exact AX ih h
   ·cases h
  ·simp only[ny]at h
   split at h
   ·rename_i s1 h1;exact(iU ih h1).trans (ih.loop _ _ _ _ _ _ _ h)
   ·exact iU ih h
end Ax
namespace Ax
open Go
variable {P:Program}{w w':World}{G G':aK}{β fI:List kO}
abbrev jP (a:Act)(t:Nat):Value:=a.tmps.getD t undef
structure FS (w:World)(G:aK)(β:List kO)(a:Act)(η:Nat->dK)(bx:aS)(st:aj)(n:Nat):Prop where
 defs:a.defers=[]
 size:n<=a.tmps.size
 rep:∀t,jv w G β (η t) (jP a t)
 lt:∀t,n<=t->η t=.none
 inv:Inv w G st
 box:jg w G β bx
def rJ (β:List kO)(a:Act)(η:Nat->dK)(bx:aS)(st:aj)(G:aK)(n:Nat)(b:Nat):Nat:=
 fH (λt=>cg b (η t) (jP a t)) n+fj b β bx+bS b G.ls st
structure Mv (w:World)(G:aK)(A:Nat->Nat)(w':World)(G':aK)(A':Nat->Nat):Prop where
 iu:pF w G w' G'
 eH:∀b,b<w.heap.size->A' b<=A b
 one:∀b,A' b<=1
 sB:∀b,b<w.heap.size->A b=0->dw w G w' G' b
 size:w.heap.size<=w'.heap.size
 os:w'.os=w.os
 out:w'.output=w.output
theorem Mv.refl {A:Nat->Nat}(h:∀b,A b<=1):Mv w G A w G A:=⟨pF.refl w G,λ_ _=>Nat.le_refl _,h,λ_ _ _=>⟨rfl,rfl⟩,Nat.le_refl _,rfl,rfl⟩
theorem dw.trans {w1 w2 w3:World}{G1 G2 G3:aK}{b:Nat}(h:dw w1 G1 w2 G2 b)(k:dw w2 G2 w3 G3 b):dw w1 G1 w3 G3 b:=⟨k.1.trans h.1,k.2.trans h.2⟩
theorem Mv.trans {A A' A'':Nat->Nat}{w'':World}{G'':aK}(h:Mv w G A w' G' A')(k:Mv w' G' A' w'' G'' A''):Mv w G A w'' G'' A'' where
 iu:=h.iu.trans k.iu
 eH:=λb hb=>Nat.le_trans (k.eH b (Nat.lt_of_lt_of_le hb h.size)) (h.eH b hb)
 one:=k.one
 sB:=λb hb h0=>(h.sB b hb h0).trans (k.sB b (Nat.lt_of_lt_of_le hb h.size) (by have:=h.eH b hb;omega))
 size:=Nat.le_trans h.size k.size
 os:=k.os.trans h.os
 out:=k.out.trans h.out
theorem Mv.weaken {A A' B B':Nat->Nat}(h:Mv w G A w' G' A')(hB:∀b,A b<=B b)(hc:∀b,b<w.heap.size->B' b<=B b)(ho:∀b,B' b<=1):Mv w G B w' G' B':=
 ⟨h.iu,hc,ho,λb hb h0=>h.sB b hb (by have:=hB b;omega),h.size,h.os,h.out⟩
theorem C7 {e:dK}{v:Value}{b:Nat}(h:jv w G β e v)(hb:0<cg b e v):b<w.heap.size:=by
 cases e with
 |none=>simp[cg]at hb
 |fp j k=>simp[cg]at hb
 |val a=>exact aL.held h hb
section
variable {a:Act}{η:Nat->dK}{bx:aS}{st:aj}{n:Nat}
theorem FS.held (h:FS w G β a η bx st n){b:Nat}(hb:0<rJ β a η bx st G n b):b<w.heap.size:=by
 unfold rJ at hb
 by_cases h1:0<fj b β bx
 ·exact h.box.held h1
 ·by_cases h2:0<bS b G.ls st
  ·exact h.inv.held h2
  ·have h3:0<fH (λt=>cg b (η t) (jP a t)) n:=by omega
   have key:∀n,0<fH (λt=>cg b (η t) (jP a t)) n->∃t,0<cg b (η t) (jP a t):=by
    intro n
    induction n with
    |zero=>intro h;simp[fH]at h
    |succ n ih=>
     intro h
     simp only[fH]at h
     by_cases h0:0<cg b (η n) (jP a n)
     ·exact⟨n,h0⟩
     ·exact ih (by omega)
   obtain⟨t,ht⟩:=key n h3
   exact C7 (h.rep t) ht
end
theorem jv.bx {e:dK}{v:Value}{nb:Option Nat}(h:jv w G β e v)(hb:dQ nb β fI)(hn:∀j,nb=some j->e.mT j=true):jv w G fI e v:=by
 cases e with
 |none=>trivial
 |val a=>exact h
 |fp j k=>
  obtain⟨g,b,h1,h2,h3⟩:=h
  obtain⟨g',a1,a2⟩:=hb j g h1
  refine⟨g',b,a1,(a2 λe=>?_).trans h2,h3⟩
  have:=hn j e
  simp[dK.mT]at this
theorem jv.iu {e:dK}{v:Value}(h:jv w G β e v)(hs:pF w G w' G')(hu:∀b,0<cg b e v->dw w G w' G' b):jv w' G' β e v:=by
 cases e with
 |none=>trivial
 |val a=>exact aL.iu h hs hu
 |fp j k=>exact h
def xB (η:Nat->dK):Src->dK
 |.tmp t true=>η t
 |.tmp t false=>(η t).view
 |.const a=>.val a
theorem zP (env:Env)(s:Src):Fv env s=xB (cA env) s:=by
 cases s with
 |tmp t mv=>cases mv<;>rfl
 |const a=>rfl
def qW (η:Nat->dK):Option (Nat×Bool)->Option Bool
 |none=>some true
 |some (t,b)=>match η t with
  |.val (.bool c)=>some (c==b)
  |.val .undef=>some false
  |_=>none
theorem C8 (env:Env)(g:Option (Nat×Bool)):kL env g=qW (cA env) g:=by
 cases g with
 |none=>rfl
 |some x=>rfl
def js (η:Nat->dK)(dst:Option Nat)(e:dK):Nat->dK:=λt=>if dst=some t then e else η t
def iL (η:Nat->dK)(l:List Nat):Nat->dK:=λt=>if t∈l then .none else η t
theorem Kg {a:Act}{η:Nat->dK}(hr:∀t,jv w G β (η t) (jP a t)):∀{x:Operand}{s:Src},Ix x s=true->jv w G β (xB η s) (a.eval x)/\∀b,cg b (xB η s) (a.eval x)<=nD (λt=>cg b (η t) (jP a t)) (nU [s])
 |.tmp t,.tmp u true,h=>by
  simp only[Ix,beq_iff_eq]at h
  subst h
  exact⟨hr t,λb=>by simp only[nU,nD,xB];exact Nat.le_refl _⟩
 |.tmp t,.tmp u false,h=>by
  simp only[Ix,beq_iff_eq]at h
  subst h
  exact⟨(hr t).view,λb=>by simp only[xB,CV];omega⟩
 |.const v,.const c,h=>by
  simp only[Ix]at h
  obtain⟨h1,h2,_⟩:=vg h w G
  exact⟨h1,λb=>by simp only[xB,cg,dN b c _ h2];omega⟩
 |.func f,.const (.fn g [] []),h=>by
  simp only[Ix,Bool.and_eq_true,beq_iff_eq,decide_eq_true_eq]at h
  obtain⟨rfl,hf⟩:=h
  exact⟨aL.fn f [] [] #[] #[] rfl rfl ⟨rfl,rfl,hf⟩ (λi c v h=>by simp at h) (λi c v h=>by simp at h),λb=>by simp[xB,cg,eH]⟩
theorem NS (s:Src)(r:List Src):nU (s::r)=nU [s]++nU r:=by
 cases s with
 |tmp t mv=>cases mv<;>rfl
 |const a=>rfl
theorem yR (f:Nat->Nat):∀(l m:List Nat),nD f (l++m)=nD f l+nD f m
 |[],m=>by simp[nD]
 |t::l,m=>by simp only[List.cons_append,nD,yR f l m];omega
theorem Gd {a:Act}{η:Nat->dK}(hr:∀t,jv w G β (η t) (jP a t)):∀{xs:List Operand}{ss:List Src},eK xs ss=true->jD w G β (ss.map (xB η)) (xs.map a.eval)/\
  ∀b,kh b (ss.map (xB η)) (xs.map a.eval)<=nD (λt=>cg b (η t) (jP a t)) (nU ss)
 |[],[],_=>⟨trivial,λb=>by simp[kh]⟩
 |x::xs,s::ss,h=>by
  simp only[eK,Bool.and_eq_true]at h
  obtain⟨h1,h2⟩:=Kg hr h.1
  obtain⟨h3,h4⟩:=Gd hr h.2
  refine⟨⟨h1,h3⟩,λb=>?_⟩
  have e1:=h2 b
  have e2:=h4 b
  rw[NS,yR]
  simp only[List.map_cons,kh]
  omega
 |[],_::_,h=>by simp[eK]at h
 |_::_,[],h=>by simp[eK]at h
def I0 (ops:Array Oper)(o:Oper)(so:aU):Bool:=
 match o.guard,so.guard with
 |none,none=>true
 |some (j,b),some (t,c)=>b==c&&(match ops[j]? with|some q=>q.dst==some t|none=>false)
 |_,_=>false
def sL:List Nat->Bool
 |[]=>true
 |t::l=>!(l.contains t)&&sL l
theorem tR:∀{l:List Nat},sL l=true->l.Nodup
 |[],_=>List.nodup_nil
 |t::l,h=>by
  simp only[sL,Bool.and_eq_true,Bool.not_eq_true',List.contains_eq_mem,decide_eq_false_iff_not]at h
  exact List.nodup_cons.2 ⟨h.1,tR h.2⟩
def C9 (S:Nat->Option aC)(P:Program)(ops:Array Oper)(n:Nat)(o:Oper)(so:aU):Bool:=
 Zb S P o so&&I0 ops o so&&(match so.dst with|some d=>decide (d<n)|none=>true)&&sL (nU so.args)
theorem LP {ops:Array Oper}{o:Oper}{so:aU}{a:Act}{η:Nat->dK}{n:Nat}(hg:I0 ops o so=true)(hr:∀t,jv w G β (η t) (jP a t))(aZ:∀t,n<=t->η t=.none)(dL:n<=a.tmps.size){b:Bool}
  (hw:qW η so.guard=some b):Region.wanted o (yielded ops a.tmps)=b:=by
 unfold I0 at hg
 split at hg
 ·rename_i h1 h2
  rw[h2]at hw
  simp only[qW]at hw
  cases hw
  simp[Region.wanted,h1]
 ·rename_i j b1 t c h1 h2
  simp only[Bool.and_eq_true,beq_iff_eq]at hg
  obtain⟨rfl,hg⟩:=hg
  split at hg
  ·rename_i q hq
   simp only[beq_iff_eq]at hg
   rw[h2]at hw
   simp only[qW]at hw
   have hy:yielded ops a.tmps j=match a.tmps[t]? with|some (.bool b)=>some b|_=>none:=by
    simp only[yielded,hq,Option.bind_some,hg]
    rfl
   have CH:=hr t
   split at hw
   ·rename_i c hc
    cases hw
    have ht:t<n:=by
     rcases Nat.lt_or_ge t n with h|h
     ·exact h
     ·rw[aZ t h]at hc;cases hc
    rw[hc]at CH
    have hv:=aL.iR CH
    have ht':a.tmps[t]?=some (.bool c):=by
     have hs:t<a.tmps.size:=by omega
     have:a.tmps.getD t undef=a.tmps[t]:=by simp[Array.getD,hs]
     rw[<-hv,jP,this];simp[hs]
    simp only[Region.wanted,h1,hy,ht']
    rfl
   ·rename_i hc
    cases hw
    have ht:t<n:=by
     rcases Nat.lt_or_ge t n with h|h
     ·exact h
     ·rw[aZ t h]at hc;cases hc
    rw[hc]at CH
    have hv:jP a t=undef:=by
     generalize jP a t=v at CH
     cases CH;rfl
    have ht':a.tmps[t]?=some undef:=by
     have hs:t<a.tmps.size:=by omega
     have:a.tmps.getD t undef=a.tmps[t]:=by simp[Array.getD,hs]
     rw[<-hv,jP,this];simp[hs]
    simp only[Region.wanted,h1,hy,ht']
    rfl
   ·cases hw
  ·cases hg
 ·cases hg
end Ax
namespace Ax
open Go
variable {P:Program}{w w':World}{G G':aK}{β fI:List kO}
def LQ (P : Program) (f : FuncId) : Prop := ∃ fn, P.funcs[f]? = some fn ∧ (fn.name == "runtime.NumGoroutine") = false ∧ fn.body.isNone = false
def iV (S:Nat->Option aC)(P:Program)(O:jf):Prop:=
 ∀wl aa f args st v bK,O.call wl aa f args st=some (v,bK)->∃sf,S f=some sf/\LQ P sf.fD/\(f<100000->sf.fD=f)/\
  ∀(w:World) (G:aK) (vs:List Value),bV w G args vs->Inv w G st->(∀b,bM b args vs+bS b G.ls st<=1)->
   Calls P sf.fD vs.toArray w λe w'=>∃u G',e=.returned u/\aL w' G' v u/\Inv w' G' bK/\
    Mv w G (λb=>bM b args vs+bS b G.ls st) w' G' (λb=>eH b v u+bS b G'.ls bK)
theorem AY {f:FuncId}(h:LQ P f)(args:Array Value)(w:World):(callFunc f args).run P w=.ok (.enter f args) w:=by
 obtain⟨fn,h1,h2,h3⟩:=h
 have h4 : ¬ fn.name = "runtime.NumGoroutine" := by simpa using h2
 have h5:¬fn.body=none:=by intro h;rw[h]at h3;simp at h3
 simp[callFunc,h1,h4,h5]
theorem Da {ρ:Operand->Value}{o:Oper}{c:Call}{f:FuncId}{vf vc:Array Value}{x:Operand}(ho:o.op=.call c)(hc:c.callee=.value x)(hx:ρ x=.func (.func f) vf vc)(hf:LQ P f)(w:World) :
  (execOp ρ o).run P w=.ok (.enter f (vf++c.args.map ρ++vc)) w:=by
 simp only[execOp,ho,resolve,hc,hx,Deferred.ofValue,Sem.run_bind,Sem.run_pure,Result.andThen_ok,invoke,AY hf]
theorem LR {l:List dK}{x:Nat×List AV}(h:kE .ox l=some x):∃f first jI l' vs,l=.val (.fn f first jI)::l'/\iq l'=some vs/\x=(f,first++vs++jI):=by
 unfold kE at h
 split at h
 ·rename_i heq;cases heq
 ·rename_i f first jI l' _
  split at h
  ·rename_i vs Cs;cases h;exact⟨f,first,jI,l',vs,rfl,Cs,rfl⟩
  ·cases h
 ·cases h
section
variable {S:Nat->Option aC}{O:jf}{ops:Array Oper}{n:Nat}{o:Oper}{so:aU}{a:Act}{η:Nat->dK}{bx eI:aS}{st bK:aj}{wl aa:Nat}{e:dK}
theorem FS.after (hs:FS w G β a η bx st n)(h1:∀b,rJ β a η bx st G n b<=1){cO:Nat->Nat}(hcO:∀b,cO b=nD (λt=>cg b (η t) (jP a t)) (nU so.args))(We:(nU so.args).Nodup)(hd:∀d,so.dst=some d->d<n){v:Value}
  (hA:iz w G β st bx cO w' G' fI bK eI e v) (hB:dQ so.op.bq β fI) (Lu:∀j,so.op.bq=some j->∀t,so.dst≠some t->t ∉ nU so.args->(η t).mT j=true) :
  FS w' G' fI (a.put so.dst v) (js (iL η (nU so.args)) so.dst e) eI bK n/\Mv w G (rJ β a η bx st G n) w' G' (rJ fI (a.put so.dst v) (js (iL η (nU so.args)) so.dst e) eI bK G' n):=by
 have LH:∀t,jP (a.put so.dst v) t=if so.dst=some t then (if t<n then v else jP (a.put so.dst v) t) else jP a t:=by
  intro t
  cases xM:so.dst with
  |none=>simp[Act.put]
  |some d=>
   have hdn:=hd d xM
   have hdt:d<a.tmps.size:=Nat.lt_of_lt_of_le hdn hs.size
   by_cases ht:d=t
   ·subst ht
    simp[Act.put,jP,hdn,hdt]
   ·simp[ht,Act.put,jP]
 have NT:∀t,t<n->so.dst=some t->jP (a.put so.dst v) t=v:=λt h1 h2=>by rw[LH t,if_pos h2,if_pos h1]
 have Ge:∀t,so.dst≠some t->jP (a.put so.dst v) t=jP a t:=λt h=>by rw[LH t,if_neg h]
 have Gf:∀b,cO b+fH (λt=>if t∈nU so.args then 0 else cg b (η t) (jP a t)) n<=fH (λt=>cg b (η t) (jP a t)) n:=λb=>by
  rw[hcO]
  exact wh (λt ht=>by rw[hs.lt t ht];rfl) _ We
 have kq:∀b t,so.dst≠some t->t ∉ nU so.args->0<cg b (η t) (jP a t)->cO b+fj b β bx+bS b G.ls st=0:=by
  intro b t h2 h3 h4
  have htn:t<n:=by
   rcases Nat.lt_or_ge t n with h|h
   ·exact h
   ·rw[hs.lt t h]at h4;simp[cg]at h4
  have h5:=sJ (f:=λt=>if t∈nU so.args then 0 else cg b (η t) (jP a t)) htn
  simp only[if_neg h3]at h5
  have h6:=Gf b
  have h7:=h1 b
  unfold rJ at h7
  omega
 have dc:∀t,so.dst≠some t->t ∉ nU so.args->jv w' G' fI (η t) (jP a t):=λt h2 h3=>
  ((hs.rep t).iu hA.iu λb hb=>hA.sB b (kq b t h2 h3 hb) (C7 (hs.rep t) hb)).bx hB λj hj=>Lu j hj t h2 h3
 have hFS:FS w' G' fI (a.put so.dst v) (js (iL η (nU so.args)) so.dst e) eI bK n:=by
  refine⟨?_,?_,λt=>?_,λt ht=>?_,hA.inv,hA.box⟩
  ·cases xM:so.dst<;>simp[Act.put,hs.defs]
  ·cases xM:so.dst<;>simp[Act.put,hs.size]
  ·simp only[js,iL]
   by_cases h2:so.dst=some t
   ·rw[if_pos h2,NT t (hd t h2) h2];exact hA.rep
   ·rw[if_neg h2,Ge t h2]
    by_cases h3:t∈nU so.args
    ·rw[if_pos h3];trivial
    ·rw[if_neg h3];exact dc t h2 h3
  ·simp only[js,iL]
   rw[if_neg (λh=>by have:=hd t h;omega)]
   rw[hs.lt t ht];simp
 have ID:∀b,rJ fI (a.put so.dst v) (js (iL η (nU so.args)) so.dst e) eI bK G' n b<=rJ β a η bx st G n b+(if w.heap.size<=b then 1 else 0):=by
  intro b
  have h2:=hA.eH b
  have h3:=Gf b
  have h4:fH (λt=>cg b (js (iL η (nU so.args)) so.dst e t) (jP (a.put so.dst v) t)) n<=fH (λt=>if t∈nU so.args then 0 else cg b (η t) (jP a t)) n+cg b e v:=by
   cases xM:so.dst with
   |none=>
    rw[xM]at Ge
    have:fH (λt=>cg b (js (iL η (nU so.args)) none e t) (jP (a.put none v) t)) n=fH (λt=>if t∈nU so.args then 0 else cg b (η t) (jP a t)) n:=mj λt _=>by
     rw[Ge t (by simp)]
     simp only[js,iL]
     rw[if_neg (by simp)]
     split<;>rfl
    rw[this];omega
   |some d=>
    rw[xM]at Ge NT
    have h5:=qv (f:=λt=>cg b (js (iL η (nU so.args)) (some d) e t) (jP (a.put (some d) v) t)) (g:=λt=>if t∈nU so.args then 0 else cg b (η t) (jP a t)) (d:=d) (hd d xM) λt ht=>by
     rw[Ge t (by simpa using λh=>ht h.symm)]
     simp only[js,iL]
     rw[if_neg (by simpa using λh=>ht h.symm)]
     split<;>rfl
    have h6:cg b (js (iL η (nU so.args)) (some d) e d) (jP (a.put (some d) v) d)=cg b e v:=by
     rw[NT d (hd d xM) rfl];simp[js]
    rw[h6]at h5
    omega
  unfold rJ
  omega
 refine⟨hFS,hA.iu,λb hb=>?_,λb=>?_,λb hb h0=>hA.sB b ?_ hb,hA.size,hA.os,hA.out⟩
 ·have:=ID b
  rw[if_neg (by omega)]at this
  exact this
 ·have h2:=ID b
  by_cases hb:w.heap.size<=b
  ·rw[if_pos hb]at h2
   have h3:rJ β a η bx st G n b=0:=by
    rcases Nat.eq_zero_or_pos (rJ β a η bx st G n b) with h|h
    ·exact h
    ·have:=hs.held h;omega
   omega
  ·rw[if_neg hb]at h2
   have:=h1 b
   omega
 ·have h2:=Gf b
  unfold rJ at h0
  omega
theorem NU {v:AV}{u:Value}{args:List AV}{vs:List Value}{cO:Nat->Nat}(hB:jg w G β bx)(hX:∀b,cO b+fj b β bx+bS b G.ls st<=1)(hc:∀b,bM b args vs<=cO b)(hr:aL w' G' v u)(hI':Inv w' G' bK)
  (hM:Mv w G (λb=>bM b args vs+bS b G.ls st) w' G' (λb=>eH b v u+bS b G'.ls bK)):iz w G β st bx cO w' G' β bK bx (.val v) u where
 iu:=hM.iu
 inv:=hI'
 box:=kX hB hM.iu λb hb=>hM.sB b (hB.held hb) (by have h1:=hX b;have h2:=hc b;omega)
 rep:=hr
 eH:=λb=>by
  simp only[cg]
  by_cases hb:w.heap.size<=b
  ·rw[if_pos hb]
   have h1:=hM.one b
   have h2:fj b β bx=0:=by
    rcases Nat.eq_zero_or_pos (fj b β bx) with h|h
    ·exact h
    ·have:=hB.held h;omega
   omega
  ·rw[if_neg hb]
   have h1:=hM.eH b (by omega)
   have h2:=hc b
   omega
 sB:=λb h0 hb=>hM.sB b hb (by have:=hc b;omega)
 size:=hM.size
 os:=hM.os
 out:=hM.out
theorem Kh {Q:Exit->Act->World->Prop}{i:Nat}(hi:ops[i]?=some o)(hm:C9 S P ops n o so=true)(hO:iV S P O)(hs:FS w G β a η bx st n)(h1:∀b,rJ β a η bx st G n b<=1){K:Act->World->Prop}{b:Bool}
  (hw:qW η so.guard=some b)
  (hY:b=false->∀(a':Act),FS w G β a' (js η so.dst (.val .undef)) bx st n->Mv w G (rJ β a η bx st G n) w G (rJ β a' (js η so.dst (.val .undef)) bx st G n)->K a' w)
  (afm:b=true->∃e bK eI,act O wl aa so.op (so.args.map (xB η)) st bx=some (e,bK,eI)/\(∀j,so.op.bq=some j->∀t,so.dst≠some t->t ∉ nU so.args->(η t).mT j=true)/\
   ∀(w':World) (G':aK) (fI:List kO) (a':Act),FS w' G' fI a' (js (iL η (nU so.args)) so.dst e) eI bK n->Mv w G (rJ β a η bx st G n) w' G' (rJ fI a' (js (iL η (nU so.args)) so.dst e) eI bK G' n)->K a' w') :
  wpOp P ops Q i K a w:=by
 unfold C9 at hm
 simp only[Bool.and_eq_true]at hm
 obtain⟨⟨⟨hm,hg⟩,hd0⟩,We⟩:=hm
 have hd:∀d,so.dst=some d->d<n:=λd hd=>by rw[hd]at hd0;simpa using hd0
 have We:=tR We
 have xM:o.dst=so.dst:=by
  unfold Zb at hm
  rw[Bool.and_eq_true]at hm
  have:=hm.1
  split at this
  ·rename_i h1 h2;simp only[beq_iff_eq]at this;rw[h1,h2,this]
  ·rename_i h1 h2;rw[h1,h2]
  ·cases this
 have Ki:=LP hg hs.rep hs.lt hs.size hw
 unfold wpOp
 rw[hi]
 simp only[Ki]
 cases b with
 |false=>
  simp only[Bool.false_eq_true,if_false]
  rw[xM]
  have hA:iz w G β st bx (λb=>nD (λt=>cg b (η t) (jP a t)) (nU ([]:List Src))) w G β st bx (.val .undef) undef:=iz.quiet hs.inv hs.box .undef λb=>by simp[cg,eH]
  obtain⟨f1,f2⟩:=FS.after (so:=⟨so.dst,.move,[],none⟩) hs h1 (λb=>rfl) List.nodup_nil hd hA (dQ.refl _ _) (λj hj=>by simp[fA.bq]at hj)
  have hk:iL η (nU ([]:List Src))=η:=by funext t;simp[iL,nU]
  simp only[hk]at f1 f2
  exact hY rfl _ f1 f2
 |true=>
  obtain⟨e,bK,eI,ha,Lu,hK⟩:=afm rfl
  simp only[if_true]
  refine .inl ?_
  have hX:∀b,nD (λt=>cg b (η t) (jP a t)) (nU so.args)+fj b β bx+bS b G.ls st<=1:=λb=>by
   have h2:=wh (f:=λt=>cg b (η t) (jP a t)) (n:=n) (λt ht=>by rw[hs.lt t ht];rfl) _ We
   have h3:=h1 b
   unfold rJ at h3
   omega
  have hA:∀xs,eK xs so.args=true->jD w G β (so.args.map (xB η)) (xs.map a.eval)/\∀b,kh b (so.args.map (xB η)) (xs.map a.eval)<=nD (λt=>cg b (η t) (jP a t)) (nU so.args):=λxs UY=>Gd hs.rep UY
  have plain:aI wl aa so.op (so.args.map (xB η)) st bx=some (e,bK,eI)->o.wp P a w K Q:=by
   intro ha
   obtain⟨nx,v,w',G',fI,e1,e2,e3,e4⟩:=Wb hm hs.inv hs.box hX hA ha
   obtain⟨f1,f2⟩:=FS.after hs h1 (λb=>rfl) We hd e3 e4 Lu
   have hk:=hK w' G' fI _ f1 f2
   unfold Oper.wp
   rw[e1]
   rcases e2 with rfl|⟨rfl,rfl⟩
   ·rw[Oper.upon_value,xM];exact hk
   ·rw[Oper.upon_skip,xM];exact hk
  have call:∀(f i:Nat) (vs:List AV) (us:List Value) (G0:Prop),eR O wl aa (some (i,vs)) st bx=some (e,bK,eI)->bV w G vs us->(∀b,bM b vs us<=nD (λt=>cg b (η t) (jP a t)) (nU so.args))->so.op.bq=none->
    (∀sf,S i=some sf->(i<100000->sf.fD=i)->sf.fD=f)->(LQ P f->(execOp a.eval o).run P w=.ok (.enter f us.toArray) w)->o.wp P a w K Q:=by
   intro f i vs us _ hc dc J1 RD Zf hex
   unfold eR at hc
   simp only at hc
   split at hc
   ·rename_i v kV dh
    cases hc
    obtain⟨sf,s1,s2,s3,s4⟩:=hO _ _ _ _ _ _ _ dh
    have hf:=Zf sf s1 s3
    rw[hf]at s2 s4
    have Wg:=s4 w G us dc hs.inv λb=>by have h2:=hX b;have h3:=J1 b;omega
    unfold Oper.wp
    rw[hex s2,Oper.upon_enter]
    refine Wg.mono λen w' hen=>?_
    obtain⟨u,G',rfl,r1,r2,r3⟩:=hen
    have hA1:=NU hs.box hX J1 r1 r2 r3
    obtain⟨f1,f2⟩:=FS.after hs h1 (λb=>rfl) We hd hA1 (dQ.refl _ _) Lu
    have hk:=hK w' G' β _ f1 f2
    simp only
    rw[xM]
    exact hk
   ·cases hc
  unfold act at ha
  split at ha
  ·rename_i i U3
   unfold Zb at hm
   rw[Bool.and_eq_true]at hm
   replace hm:=hm.2
   rw[U3]at hm
   simp only[kE]at ha
   cases Cs:iq (so.args.map (xB η)) with
   |none=>rw[Cs]at ha;simp[eR]at ha
   |some vs=>
    rw[Cs]at ha
    split at hm<;>first|(rename_i h1 h2;cases h2;done)|(rename_i h2;cases h2;done)|(rename_i h1 h2;cases h1;done)|skip
    ·rename_i c i' Wh heq
     cases heq
     split at hm
     ·rename_i f qS
      simp only[Bool.and_eq_true]at hm
      obtain⟨hms,hmf⟩:=hm
      obtain⟨hR,hC⟩:=hA _ hms
      obtain⟨r1,r2⟩:=hR.LJ Cs
      refine call f i vs _ True ha r1 (λb=>by rw[<-r2];exact hC b) (by rw[U3];rfl) (λsf h1 h2=>?_) λhF=>?_
      ·rw[h1]at hmf;simpa using hmf
      ·have:=Da (ρ:=a.eval) Wh qS (show a.eval (.func f)=.func (.func f) #[] #[] from rfl) hF w
       rw[this]
       congr 2
       apply Array.ext'
       simp
     ·cases hm
    ·cases hm
  ·rename_i U3
   unfold Zb at hm
   rw[Bool.and_eq_true]at hm
   replace hm:=hm.2
   rw[U3]at hm
   split at hm<;>first|(rename_i h1 h2;cases h2;done)|(rename_i h2;cases h2;done)|(rename_i h1 h2;cases h1;done)|skip
   ·rename_i c Wh heq
    split at hm
    ·rename_i x qS
     obtain⟨hR,hC⟩:=hA _ hm
     cases vK:kE .ox (so.args.map (xB η)) with
     |none=>rw[vK]at ha;simp[eR]at ha
     |some y=>
      rw[vK]at ha
      obtain⟨f,first,jI,l,vs,Kb,Cs,rfl⟩:=LR vK
      rw[Kb]at hR hC
      simp only[List.map_cons]at hR hC
      obtain⟨hR0,hRl⟩:=hR
      obtain⟨r1,r2⟩:=jD.LJ hRl Cs
      simp only[jv]at hR0
      generalize FI:a.eval x=xv at hR0 hC
      cases hR0 with
      |fn _ _ _ vf vc hl hm' hn hh FZ=>
      refine call f f (first++vs++jI) (vf.toList++c.args.toList.map a.eval++vc.toList) True ha ((bV.append ⟨by simpa using hl,λi c v e1 e2=>hh i c v e1 (by simpa using e2)⟩ r1).append ⟨by simpa using hm',λi c v e1 e2=>FZ i c v e1 (by simpa using e2)⟩) (λb=>?_) (by rw[U3];rfl) (λsf h1 h2=>h2 hn.2.2) λhF=>?_
      ·rw[eL b _ _ _ _ (by simp only[List.length_append,hl,r1.1];simp),eL b _ _ _ _ (by simpa using hl),cU b _ _ hn.1,cU b _ _ hn.2.1]
       have h2:=hC b
       have h3:=r2 b
       simp only[kh]at h2
       omega
      ·have:=Da (ρ:=a.eval) Wh qS FI hF w
       rw[this]
       congr 2
       apply Array.ext'
       simp
    ·cases hm
   ·cases hm
  ·exact plain ha
end
end Ax
namespace Ax
open Go
variable {P:Program}{w w':World}{G G':aK}{β fI:List kO}
variable {S:Nat->Option aC}{O:jf}{a:Act}{bx:aS}{st:aj}{n wl aa:Nat}{s s':St}{η:Nat->dK}
abbrev FT (w:World)(G:aK)(β:List kO)(a:Act)(s:St)(n:Nat):Prop:=FS w G β a (cA s.env) s.bx s.st n
abbrev fK (β:List kO)(a:Act)(s:St)(G:aK)(n:Nat):Nat->Nat:=rJ β a (cA s.env) s.bx s.st G n
theorem FS.congr {M5:Nat->dK}(h:FS w G β a η bx st n)(he:∀t,M5 t=η t):FS w G β a M5 bx st n:=by
 have:M5=η:=funext he
 rw[this];exact h
theorem FS.forget {M5:Nat->dK}(h:FS w G β a η bx st n)(he:∀t,M5 t=η t\/M5 t=.none):FS w G β a M5 bx st n/\∀b,rJ β a M5 bx st G n b<=rJ β a η bx st G n b:=by
 refine⟨⟨h.defs,h.size,λt=>?_,λt ht=>?_,h.inv,h.box⟩,λb=>?_⟩
 ·rcases he t with e|e
  ·rw[e];exact h.rep t
  ·rw[e];trivial
 ·rcases he t with e|e
  ·rw[e];exact h.lt t ht
  ·exact e
 ·unfold rJ
  have:=zM (f:=λt=>cg b (M5 t) (jP a t)) (g:=λt=>cg b (η t) (jP a t)) (n:=n) λt _=>by
   rcases he t with e|e
   ·rw[e];exact Nat.le_refl _
   ·rw[e];simp[cg]
  omega
theorem jl (env:Env)(dst:Option Nat)(e:dK):cA (ux env dst e)=js (cA env) dst e:=by
 funext t
 cases dst with
 |none=>simp[ux,js]
 |some d=>
  simp only[ux,js,sI,Option.some.injEq]
  by_cases h:t=d
  ·rw[if_pos h,if_pos h.symm]
  ·rw[if_neg h,if_neg λe=>h e.symm]
theorem qX (env:Env)(ss:List Src):cA (ss.foldl kD env)=iL (cA env) (nU ss):=by
 funext t
 rw[qu]
 rfl
theorem LU {ops:Array Oper}{o:Oper}{so:aU}{Q:Exit->Act->World->Prop}{i:Nat}(hi:ops[i]?=some o)(hm:C9 S P ops n o so=true)(hO:iV S P O)(hs:FT w G β a s n)(h1:∀b,fK β a s G n b<=1){K:Act->World->Prop}
  (he:evalOp O wl aa so s=some s') (hK:∀(w':World) (G':aK) (fI:List kO) (a':Act),FT w' G' fI a' s' n->Mv w G (fK β a s G n) w' G' (fK fI a' s' G' n)->K a' w'):wpOp P ops Q i K a w:=by
 unfold evalOp at he
 rw[C8]at he
 split at he
 ·cases he
 ·rename_i hw
  cases he
  refine Kh (wl:=wl) (aa:=aa) hi hm hO hs h1 hw (λ_ a' f1 f2=>?_) (λh=>by cases h)
  refine hK w G β a' ?_ ?_
  ·rw[FT,jl];exact f1
  ·rw[show fK β a' { s with env:=ux s.env so.dst (.val .undef) } G n=rJ β a' (js (cA s.env) so.dst (.val .undef)) s.bx s.st G n by rw[fK,jl]]
   exact f2
 ·rename_i hw
  have uI:so.args.map (Fv s.env)=so.args.map (xB (cA s.env)):=List.map_congr_left λx _=>zP s.env x
  rw[uI]at he
  split at he
  ·cases he
  ·rename_i e bK eI ha
   have fin:∀(w':World) (G':aK) (fI:List kO) (a':Act),s'=⟨ux (so.args.foldl kD s.env) so.dst e,eI,bK⟩->FS w' G' fI a' (js (iL (cA s.env) (nU so.args)) so.dst e) eI bK n->
     Mv w G (rJ β a (cA s.env) s.bx s.st G n) w' G' (rJ fI a' (js (iL (cA s.env) (nU so.args)) so.dst e) eI bK G' n)->K a' w':=by
    intro w' G' fI a' zo f1 f2
    subst zo
    refine hK w' G' fI a' ?_ ?_
    ·rw[FT,jl,qX];exact f1
    ·rw[show fK fI a' ⟨ux (so.args.foldl kD s.env) so.dst e,eI,bK⟩ G' n=rJ fI a' (js (iL (cA s.env) (nU so.args)) so.dst e) eI bK G' n by rw[fK,jl,qX]]
     exact f2
   split at he
   ·rename_i RD
    cases he
    exact Kh hi hm hO hs h1 hw (λh=>by cases h) λ_=>⟨e,bK,eI,ha,(λj hj=>by rw[RD]at hj;cases hj),λw' G' fI a' f1 f2=>fin w' G' fI a' rfl f1 f2⟩
   ·rename_i j RD
    split at he
    ·rename_i Lu
     cases he
     refine Kh hi hm hO hs h1 hw (λh=>by cases h) λ_=>⟨e,bK,eI,ha,λj' hj t Kf ht2=>?_,λw' G' fI a' f1 f2=>fin w' G' fI a' rfl f1 f2⟩
     rw[RD]at hj;cases hj
     have:=AS Lu t
     rw[jl,qX]at this
     simp only[js,iL]at this
     rw[if_neg Kf,if_neg ht2]at this
     exact this
    ·cases he
def oL (S:Nat->Option aC)(P:Program)(ops:Array Oper)(n:Nat):List Oper->List aU->Bool
 |[],[]=>true
 |o::l,so::m=>C9 S P ops n o so&&oL S P ops n l m
 |_,_=>false
theorem AZ {ops:Array Oper}{Q:Exit->Act->World->Prop}(hO:iV S P O):∀(l:List Oper)(m:List aU)(k:Nat)(w:World)(G:aK)(β:List kO)(a:Act)(s:St),ops.toList.drop k=l->oL S P ops n l m=true->
  FT w G β a s n->(∀b,fK β a s G n b<=1)->eC O wl aa m s=some s'->(∀(w':World) (G':aK) (fI:List kO) (a':Act),FT w' G' fI a' s' n->Mv w G (fK β a s G n) w' G' (fK fI a' s' G' n)->Q .normal a' w')->
  wpOps P ops Q (List.range' k l.length) a w
 |[],[],k,w,G,β,a,s,hl,hm,hs,h1,he,hQ=>by
  simp only[eC,Option.some.injEq]at he
  subst he
  simp only[List.length_nil,List.range'_zero,wpOps]
  exact hQ w G β a hs (Mv.refl h1)
 |o::l,so::m,k,w,G,β,a,s,hl,hm,hs,h1,he,hQ=>by
  simp only[oL,Bool.and_eq_true]at hm
  simp only[eC]at he
  split at he
  ·rename_i s1 xA
   simp only[List.length_cons,List.range'_succ]
   rw[wpOps_cons]
   have hi:ops[k]?=some o:=by
    have:(ops.toList.drop k)[0]?=some o:=by rw[hl];rfl
    rw[List.getElem?_drop]at this
    simpa using this
   refine LU hi hm.1 hO hs h1 xA λw1 G1 β1 a1 f1 f2=>?_
   refine AZ hO l m (k+1) w1 G1 β1 a1 s1 ?_ hm.2 f1 f2.one he λw2 G2 NW a2 g1 g2=>hQ w2 G2 NW a2 g1 (f2.trans g2)
   rw[show k+1=k+1 from rfl,<-List.drop_drop,hl]
   rfl
  ·cases he
 |[],_::_,_,_,_,_,_,_,_,hm,_,_,_,_=>by simp[oL]at hm
 |_::_,[],_,_,_,_,_,_,_,hm,_,_,_,_=>by simp[oL]at hm
def vq (P:Program):List ResultVar->List jA->Bool
 |[],[]=>true
 |.tmp t::l,.tmp u _::m=>t==u&&vq P l m
 |.cell t ty::l,.box u _ n agg::m=>t==u&&ck P ty n&&lA P ty==some agg&&(agg||n==1)&&vq P l m
 |.cell t ty::l,.cell u n agg::m=>t==u&&ck P ty n&&lA P ty==some agg&&(agg||n==1)&&vq P l m
 |_,_=>false
def nE:List jA->List Nat
 |[]=>[]
 |.tmp t true::l=>t::nE l
 |_::l=>nE l
def A2:List jA->List Nat
 |[]=>[]
 |.box _ j _ _::l=>j::A2 l
 |_::l=>A2 l
end Ax
namespace Ax
open Go
variable {P:Program}{w w':World}{G G':aK}{β fI:List kO}
variable {a:Act}{bx:aS}{st:aj}{n:Nat}{s:St}
def A3 (tmps:Array Value):ResultVar->Sem Value
 |.tmp t=>pure (tmps.getD t undef)
 |.cell c t=>do loadVar t (<-asAddr (tmps.getD c undef))
def LW (us:List Value):Value:=match us with | [u]=>u|_=>.tuple us.toArray
theorem Gg {fn:Func}{tmps:Array Value}{us:List Value}(h:(fn.results.toList.mapM (A3 tmps)).run P w=.ok us w):(results fn tmps).run P w=.ok (LW us) w:=by
 have h2:(fn.results.mapM (A3 tmps)).run P w=.ok us.toArray w:=by
  have e:fn.results.mapM (A3 tmps)=List.toArray <$> fn.results.toList.mapM (A3 tmps):=by
   rw[Array.mapM_eq_mapM_toList]
  rw[e,map_eq_pure_bind,Sem.run_bind,h]
  rfl
 have e3:results fn tmps=(fn.results.mapM (A3 tmps)).bind λvs=>Pure.pure (if h:vs.size=1 then vs[0] else .tuple vs):=rfl
 rw[e3]
 show Sem.run P (fn.results.mapM (A3 tmps) >>= λvs=>Pure.pure (if h:vs.size=1 then vs[0] else .tuple vs)) w=_
 rw[Sem.run_bind,h2]
 simp only[Result.andThen_ok,Sem.run_pure]
 congr 1
 match us with
 |[]=>simp[LW]
 |[u]=>simp[LW]
 |_::_::_=>simp[LW]
def qw (b:Nat)(β:List kO)(bx:aS)(j:Nat):Nat:=match β[j]?,bx[j]? with|some g,some r=>bM b r g.vals|_,_=>0
theorem Gh (b:Nat):∀(β:List kO)(bx:aS),fH (qw b β bx) bx.length<=fj b β bx
 |β,[]=>by simp[fH]
 |[],r::bx=>by
  have:fH (qw b [] (r::bx)) (r::bx).length=fH (λ_=>0) (r::bx).length:=mj λt _=>by simp[qw]
  rw[this,C3];omega
 |g::β,r::bx=>by
  have ih:=Gh b β bx
  have shift:∀m,fH (qw b (g::β) (r::bx)) (m+1)=qw b (g::β) (r::bx) 0+fH (qw b β bx) m:=by
   intro m
   induction m with
   |zero=>simp[fH]
   |succ m ih=>
    have:fH (qw b (g::β) (r::bx)) (m+1+1)=fH (qw b (g::β) (r::bx)) (m+1)+qw b (g::β) (r::bx) (m+1):=rfl
    rw[this,ih]
    have e:qw b (g::β) (r::bx) (m+1)=qw b β bx m:=by simp[qw]
    rw[e]
    simp only[fH];omega
  simp only[List.length_cons]
  rw[shift]
  have e:qw b (g::β) (r::bx) 0=bM b r g.vals:=by simp[qw]
  rw[e]
  simp only[fj]
  omega
theorem bV.cons {a:AV}{as:List AV}{x:Value}{xs:List Value}(h:aL w G a x)(k:bV w G as xs):bV w G (a::as) (x::xs):=
 ⟨by simp[k.1],λi c v e1 e2=>by
  cases i with
  |zero=>simp at e1 e2;subst e1;subst e2;exact h
  |succ i=>exact k.2 i c v (by simpa using e1) (by simpa using e2)⟩
theorem yS {t:TypeId}{n:Nat}{agg:Bool}(hn:ck P t n=true)(p7:lA P t=some agg){b off:Nat}{xs:List Value}(hlen:xs.length=n)(kq:agg=false->n=1)
  (hc:∀(j:Nat) x,xs[j]?=some x->w.cell? ⟨b,off+j,none⟩=some x):(loadVar t ⟨b,off,none⟩).run P w=.ok (if agg then .agg xs.toArray else xs.headD undef) w:=by
 have:=Av (P:=P) hn p7 hlen kq hc
 simpa [Instr.loadAt,Instr.sureAddr] using this
theorem Db (hs:FT w G β a s n):∀(l:List ResultVar)(rs:List jA)(vs:List AV),vq P l rs=true->u7 s rs=some vs->
  ∃us,(l.mapM (A3 a.tmps)).run P w=.ok us w/\bV w G vs us/\∀b,bM b vs us<=nD (λt=>cg b (cA s.env t) (jP a t)) (nE rs)+nD (qw b β s.bx) (A2 rs)
 |[],[],vs,_,hr=>by
  simp only[u7,Option.some.injEq]at hr
  subst hr
  exact⟨[],rfl,⟨rfl,λi c v h=>by simp at h⟩,λb=>by simp[bM]⟩
 |x::l,r::rs,vs,hm,hr=>by
  simp only[u7]at hr
  split at hr
  ·rename_i v vs' CI hr2
   cases hr
   have one:∃u,(A3 a.tmps x).run P w=.ok u w/\aL w G v u/\vq P l rs=true/\∀b,eH b v u+(nD (λt=>cg b (cA s.env t) (jP a t)) (nE rs)+nD (qw b β s.bx) (A2 rs))<=
     nD (λt=>cg b (cA s.env t) (jP a t)) (nE (r::rs))+nD (qw b β s.bx) (A2 (r::rs)):=by
    cases x with
    |tmp t=>
     cases r with
     |tmp u mv=>
      simp only[vq,Bool.and_eq_true,beq_iff_eq]at hm
      obtain⟨rfl,hm⟩:=hm
      simp only[Aj]at CI
      rw[zP]at CI
      split at CI
      ·rename_i v' hv
       cases CI
       have CH:=hs.rep t
       refine⟨jP a t,by simp[A3],?_,hm,λb=>?_⟩
       ·cases mv with
        |true=>simp only[xB]at hv;rw[hv]at CH;exact CH
        |false=>have:=CH.view;simp only[xB]at hv;rw[hv]at this;exact this
       ·cases mv with
        |true=>simp only[xB]at hv;simp only[nE,A2,nD,hv,cg];omega
        |false=>
         simp only[xB]at hv
         have h0:=CV b (cA s.env t) (jP a t)
         rw[hv]at h0
         simp only[cg]at h0
         simp only[nE,A2];omega
      ·cases CI
     |box u j m agg=>simp[vq]at hm
     |cell u m agg=>simp[vq]at hm
    |cell t ty=>
     cases r with
     |tmp u mv=>simp[vq]at hm
     |box u j m agg=>
      simp only[vq,Bool.and_eq_true,beq_iff_eq]at hm
      obtain⟨⟨⟨⟨rfl,hn⟩,p7⟩,kq⟩,hm⟩:=hm
      simp only[Aj]at CI
      split at CI
      ·rename_i i row Lu cP
       split at CI
       ·rename_i zn
        simp only[Bool.and_eq_true,decide_eq_true_eq]at zn
        obtain⟨rfl,hlen⟩:=zn
        have hp:=hs.rep t
        rw[Lu]at hp
        obtain⟨g,b0,c,e,hg,eF,F1,rR,eu,hle,gq,cW⟩:=Eb hs.box hp cP
        obtain⟨u,hu,k1,k2,_⟩:=zH CI rR.rep
        have hl:=yS (P:=P) hn p7 (by rw[<-rR.rep.1];exact hlen) (λh=>by subst h;simpa using kq) (b:=b0) (off:=0) (λj x hx=>by rw[Nat.zero_add];exact cW j x hx)
        refine⟨u,?_,k1,hm,λb=>?_⟩
        ·simp only[A3,Sem.run_bind]
         rw[show a.tmps.getD t undef=.pointer (some ⟨b0,0,none⟩) from F1]
         simp only[asAddr,Sem.run_pure,Result.andThen_ok,hl,hu]
        ·rw[k2 b]
         simp only[nE,A2,nD,qw,hg,cP];omega
       ·cases CI
      ·cases CI
     |cell u m agg=>
      simp only[vq,Bool.and_eq_true,beq_iff_eq]at hm
      obtain⟨⟨⟨⟨rfl,hn⟩,p7⟩,kq⟩,hm⟩:=hm
      simp only[Aj]at CI
      split at CI
      ·rename_i p Sh
       split at CI
       ·rename_i cs AI
        have hp:=hs.rep t
        rw[Sh]at hp
        obtain⟨b0,off,xs,g1,g2,g3,g4⟩:=FM hs.inv AI hp
        obtain⟨u,hu,k1,k2,_⟩:=zH CI g3.view
        have hl:=yS (P:=P) hn p7 g2 (λh=>by subst h;simpa using kq) g4
        refine⟨u,?_,k1,hm,λb=>?_⟩
        ·simp only[A3,Sem.run_bind]
         rw[show a.tmps.getD t undef=.pointer (some ⟨b0,off,none⟩) from g1]
         simp only[asAddr,Sem.run_pure,Result.andThen_ok,hl,hu]
        ·rw[k2 b,cU b _ _ (fB cs)]
         simp only[nE,A2];omega
       ·cases CI
      ·cases CI
   obtain⟨u,h1,h2,h3,h4⟩:=one
   obtain⟨us,k1,k2,k3⟩:=Db hs l rs vs' h3 hr2
   refine⟨u::us,?_,bV.cons h2 k2,λb=>?_⟩
   ·rw[List.mapM_cons]
    simp only[Sem.run_bind,h1,Result.andThen_ok,k1,Sem.run_pure]
   ·have e1:=h4 b
    have e2:=k3 b
    simp only[bM]
    omega
  ·cases hr
 |[],_::_,_,hm,_=>by simp[vq]at hm
 |x::_,[],_,hm,_=>by cases x<;>simp[vq]at hm
end Ax
namespace Ax
open Go
section
variable {K V:Type}
def mZ (init:K->V)(vL:Nat->K->Option V)(D:Nat->Bool):Nat->K->V
 |0,x=>init x
 |k+1,x=>if D k then (vL k x).getD (mZ init vL D k x) else mZ init vL D k x
variable {init:K->V}{vL:Nat->K->Option V}
theorem kY {D D':Nat->Bool}{x:K}:∀{N:Nat},(∀k,k<N->D k≠D' k->vL k x=none)->mZ init vL D N x=mZ init vL D' N x
 |0,_=>rfl
 |N+1,h=>by
  have ih:=kY (N:=N) λk hk=>h k (by omega)
  have hN:=h N (by omega)
  simp only[mZ,ih]
  cases h1:D N<;>cases h2:D' N
  ·rfl
  ·rw[hN (by rw[h1,h2];simp)];simp
  ·rw[hN (by rw[h1,h2];simp)];simp
  ·rfl
theorem xN {D:Nat->Bool}{x:K}{j:Nat}:∀{N:Nat},j<=N->(∀k,j<=k->k<N->D k=true->vL k x=none)->mZ init vL D N x=mZ init vL D j x
 |0,hj,_=>by
  have:j=0:=by omega
  subst this;rfl
 |N+1,hj,h=>by
  by_cases hjN:j=N+1
  ·subst hjN;rfl
  ·have ih:=xN (N:=N) (j:=j) (by omega) λk h1 h2=>h k h1 (by omega)
   simp only[mZ]
   cases hD:D N
   ·simpa using ih
   ·rw[h N (by omega) (by omega) hD];simpa using ih
theorem Gi {D D':Nat->Bool}{x:K}{j N:Nat}(hj:j<N)(hD:D j=false)(hD':∀k,D' k=if k=j then true else D k)(h:∀k,j<k->k<N->D k=true->vL j x≠none->vL k x=none) :
  mZ init vL D' N x=(vL j x).getD (mZ init vL D N x):=by
 cases he:vL j x with
 |none=>
  simp only[Option.getD_none]
  refine kY λk hk jH=>?_
  have:=hD' k
  by_cases hkj:k=j
  ·subst hkj;exact he
  ·rw[if_neg hkj]at this;exact absurd this jH
 |some v=>
  simp only[Option.getD_some]
  have h1:mZ init vL D' N x=mZ init vL D' (j+1) x:=xN (by omega) λk h1 h2 h3=>by
   refine h k (by omega) h2 ?_ (by rw[he];simp)
   have:=hD' k
   rw[if_neg (by omega)]at this
   rw[<-this];exact h3
  rw[h1]
  have V6:D' j=true:=by rw[hD' j,if_pos rfl]
  simp only[mZ,V6,if_true,he,Option.getD_some]
theorem xO {st:Nat->K->V}{N:Nat}(h0:∀x,st 0 x=init x)(hs:∀k,k<N->∀x,st (k+1) x=(vL k x).getD (st k x)):∀{j:Nat},j<=N->∀x,mZ init vL (λk=>decide (k<j)) N x=st j x:=by
 have key:∀m,m<=N->∀x,mZ init vL (λ_=>true) m x=st m x:=by
  intro m
  induction m with
  |zero=>intro _ x;exact(h0 x).symm
  |succ m ih=>
   intro hm x
   simp only[mZ,if_true]
   rw[ih (by omega) x,hs m (by omega) x]
 intro j hj x
 rw[xN (j:=j) hj λk h1 h2 h3=>by simp at h3;omega]
 rw[kY (D':=λ_=>true) λk hk jH=>by simp[hk]at jH]
 exact key j hj x
end
end Ax
namespace Ax
open Go
def fA.nu (S:Nat->Option aC):fA->Bool
 |.RO .. | .alloc _|.box _|.store _|.lu .. | .tG .. | .makeMap|.mapUpdate _|.u6 _|.copy _|.ox=>true
 |.load _ _ take=>take
 |.qI _ _ _ mt=>mt
 |.call f=>match S f with|some sf=>(match sf.mode with|.pure=>false|_=>true)|none=>true
 |_=>false
def fA.I1:fA->Bool
 |.move|.pick|.bin _|.eqv .. | .un _|.conv _|.DW _|.nilCheck|.extract _|.field .. | .build .. | .lit .. | .fieldAddr _|.index|.aD .. | .ai .. | .aF .. | .fR .. | .append .. | .makeFunc .. | .zF .. | .RP=>true
 |.qI _ _ _ mt=>!mt
 |_=>false
def fA.bA:fA->Option Nat
 |.aD j _ _ _|.ai j _|.aF j _|.fR j _=>some j
 |_=>none
def fA.bW:fA->Option Nat
 |.aD j _ _ take=>if take then some j else none
 |.ai j _|.aF j _|.fR j _=>some j
 |_=>none
variable {wl aa:Nat}{st bK:aj}{bx eI:aS}{vals:List dK}{e:dK}{S:Nat->Option aC}{O:jf}{op:fA}
theorem NX (hw:op.nu S=false)(h:aI wl aa op vals st bx=some (e,bK,eI)):bK=st:=by
 cases op
 case load agg n take=>
  simp only[fA.nu]at hw
  subst hw
  unfold aI at h
  simp only[Bool.false_eq_true,if_false]at h
  repeat' split at h
  all_goals first|(cases h;rfl)|cases h
 case qI sz bytes zero mt=>
  simp only[fA.nu]at hw
  subst hw
  unfold aI at h
  simp only[Bool.false_eq_true,if_false]at h
  repeat' split at h
  all_goals first|(cases h;rfl)|cases h
 all_goals first
  |(simp[fA.nu]at hw;done)
  |(unfold aI at h;simp only at h;repeat' split at h)
 all_goals first|(cases h;rfl)|cases h
theorem NY (hn:op.I1=true)(lf:aj):aI wl aa op vals lf bx=(aI wl aa op vals st bx).map λx=>(x.1,lf,x.2.2):=by
 cases op
 case qI sz bytes zero mt=>
  simp only[fA.I1,Bool.not_eq_true']at hn
  subst hn
  unfold aI
  simp only[Bool.false_eq_true,if_false]
  repeat' split
  all_goals rfl
 all_goals first
  |(simp[fA.I1]at hn;done)
  |(unfold aI;(try unfold xE);simp only;repeat' split)
 all_goals first|rfl|simp_all
theorem Gj (hb:op.bA=none)(vr:aS):aI wl aa op vals st vr=(aI wl aa op vals st bx).map λx=>(x.1,x.2.1,vr):=by
 cases op
 all_goals first
  |(simp[fA.bA]at hb;done)
  |(unfold aI;(try unfold xE);simp only;repeat' split)
 all_goals first|rfl|simp_all
structure yT (S:Nat->Option aC)(O:jf):Prop where
 call:∀wl aa f args st v bK sf,O.call wl aa f args st=some (v,bK)->S f=some sf->sf.mode=.pure->bK=st
theorem Gk (S:Nat->Option aC)(n:Nat):yT S (ny S n):=by
 refine⟨λwl aa f args st v bK sf h hS hm=>?_⟩
 cases n with
 |zero=>simp[ny]at h
 |succ n=>
  simp only[ny,hS]at h
  unfold dD at h
  split at h
  ·simp only[Option.map_eq_some_iff]at h
   obtain⟨x,_,hx⟩:=h
   cases hx
   rfl
  unfold cM at h
  split at h
  ·split at h
   ·split at h
    ·rw[hm]at h
     simp only[Mode.fin]at h
     split at h
     ·cases h;rfl
     ·cases h
    ·cases h
   ·cases h
  ·cases h
theorem Kj (hO:yT S O)(hw:op.nu S=false)(h:act O wl aa op vals st bx=some (e,bK,eI)):bK=st:=by
 unfold act at h
 split at h
 ·rename_i f
  simp only[fA.nu]at hw
  split at hw
  ·rename_i sf Zf
   split at hw
   ·rename_i hm
    unfold eR at h
    split at h
    ·rename_i f' vs hc
     have hf:f'=f:=by
      simp only[kE]at hc
      split at hc
      ·cases hc;rfl
      ·cases hc
     subst hf
     split at h
     ·rename_i dh;cases h;exact hO.call _ _ _ _ _ _ _ _ dh Zf hm
     ·cases h
    ·cases h
   ·cases hw
  ·cases hw
 ·simp[fA.nu]at hw
 ·exact NX hw h
theorem SB (hn:op.I1=true)(lf:aj)(h:act O wl aa op vals st bx=some (e,bK,eI)):act O wl aa op vals lf bx=some (e,lf,eI):=by
 unfold act at h ⊢
 split at h
 ·simp[fA.I1]at hn
 ·simp[fA.I1]at hn
 ·rename_i h1 h2
  rw[NY hn lf,h];rfl
theorem Eg (hb:op.bA=none)(vr:aS)(h:act O wl aa op vals st bx=some (e,bK,eI)):eI=bx/\act O wl aa op vals st vr=some (e,bK,vr):=by
 have call:∀x,eR O wl aa x st bx=some (e,bK,eI)->eI=bx/\eR O wl aa x st vr=some (e,bK,vr):=by
  intro x h
  unfold eR at h ⊢
  split at h
  ·rename_i f vs
   cases hc:O.call wl aa f vs st with
   |none=>rw[hc]at h;cases h
   |some y=>rw[hc]at h;cases h;exact⟨rfl,rfl⟩
  ·cases h
 unfold act at h ⊢
 split at h
 ·exact call _ h
 ·exact call _ h
 ·rename_i h1 h2
  have e1:=Gj (wl:=wl) (aa:=aa) (vals:=vals) (st:=st) (bx:=bx) hb bx
  rw[h]at e1
  simp only[Option.map_some,Option.some.injEq,Prod.mk.injEq,true_and]at e1
  refine⟨e1,?_⟩
  rw[Gj hb vr,h];rfl
theorem Gl {vr:aS}(hl:vr.length=bx.length)(ha:∀b,op.bA=some b->vr[b]?=bx[b]?)(h:act O wl aa op vals st bx=some (e,bK,eI)) :
  ∃SD,act O wl aa op vals st vr=some (e,bK,SD)/\eI.length=bx.length/\SD.length=vr.length/\(∀b,op.bW=some b->SD[b]?=eI[b]?)/\(∀b,op.bW≠some b->SD[b]?=vr[b]?)/\(∀b,op.bW≠some b->eI[b]?=bx[b]?):=by
 cases hb:op.bA with
 |none=>
  obtain⟨rfl,e2⟩:=Eg hb vr h
  refine⟨vr,e2,rfl,rfl,λb h=>?_,λ_ _=>rfl,λ_ _=>rfl⟩
  cases op<;>simp_all [fA.bA,fA.bW]
 |some j=>
  have hj:=ha j hb
  have Kk:∀(row:List AV),j<bx.length->(bx.set j row).length=bx.length/\(vr.set j row).length=vr.length/\(vr.set j row)[j]?=(bx.set j row)[j]?/\(∀b,j≠b->(vr.set j row)[b]?=vr[b]?)/\(∀b,j≠b->(bx.set j row)[b]?=bx[b]?):=by
   intro row aZ
   refine⟨by simp,by simp,?_,λb hb=>?_,λb hb=>?_⟩
   ·rw[List.getElem?_set,List.getElem?_set,if_pos rfl,if_pos rfl,if_pos aZ,if_pos (by omega)]
   ·rw[List.getElem?_set,if_neg hb]
   ·rw[List.getElem?_set,if_neg hb]
  cases op<;>simp only[fA.bA]at hb<;>try cases hb
  case some.aD.refl agg n take=>
   simp only[act]at h ⊢
   unfold aI at h ⊢
   simp only at h ⊢
   split at h
   ·rename_i j' k
    split at h
    ·rename_i V6
     subst V6
     split at h
     ·rename_i row cP
      have aZ:=(List.getElem?_eq_some_iff.1 cP).1
      rw[if_pos rfl,hj,cP]
      simp only
      split at h
      ·rename_i cs NM
       cases take with
       |true=>
        simp only[if_true]at h ⊢
        split at h
        ·rename_i v hv
         cases h
         obtain⟨a1,a2,a3,a4,a5⟩:=Kk (af row k (cs.map AV.hJ)) aZ
         exact⟨_,rfl,a1,a2,λb hb=>by simp[fA.bW]at hb;subst hb;exact a3,λb hb=>a4 b (by simpa [fA.bW] using hb),λb hb=>a5 b (by simpa [fA.bW] using hb)⟩
        ·cases h
       |false=>
        simp only[Bool.false_eq_true,if_false]at h ⊢
        split at h
        ·rename_i v hv
         cases h
         exact⟨_,rfl,rfl,rfl,λb hb=>by simp[fA.bW]at hb,λ_ _=>rfl,λ_ _=>rfl⟩
        ·cases h
      ·cases h
     ·cases h
    ·cases h
   ·cases h
  case some.ai.refl n=>
   simp only[act]at h ⊢
   unfold aI at h ⊢
   simp only at h ⊢
   split at h
   ·rename_i j' k v
    split at h
    ·rename_i hc
     have V6:j=j':=by simp only[Bool.and_eq_true,decide_eq_true_eq]at hc;exact hc.1.1
     split at h
     ·rename_i row cP
      have aZ:=(List.getElem?_eq_some_iff.1 cP).1
      rw[if_pos hc,hj,cP]
      simp only
      split at h
      ·rename_i bY
       cases h
       rw[if_pos bY]
       obtain⟨a1,a2,a3,a4,a5⟩:=Kk (af row k v.cells) aZ
       exact⟨_,rfl,a1,a2,λb hb=>by simp[fA.bW]at hb;subst hb;exact a3,λb hb=>a4 b (by simpa [fA.bW] using hb),λb hb=>a5 b (by simpa [fA.bW] using hb)⟩
      ·cases h
     ·cases h
    ·cases h
   ·cases h
  case some.aF.refl zero=>
   simp only[act]at h ⊢
   unfold aI at h ⊢
   simp only at h ⊢
   split at h
   ·split at h
    ·rename_i aZ
     cases h
     rw[if_pos (by omega)]
     obtain⟨a1,a2,a3,a4,a5⟩:=Kk zero aZ
     exact⟨_,rfl,a1,a2,λb hb=>by simp[fA.bW]at hb;subst hb;exact a3,λb hb=>a4 b (by simpa [fA.bW] using hb),λb hb=>a5 b (by simpa [fA.bW] using hb)⟩
    ·cases h
   ·cases h
  case some.fR.refl n=>
   simp only[act]at h ⊢
   unfold aI at h ⊢
   simp only at h ⊢
   split at h
   ·rename_i v
    split at h
    ·rename_i hc
     have MZ:=hc
     simp only[Bool.and_eq_true,decide_eq_true_eq]at MZ
     cases h
     rw[if_pos (by simp only[Bool.and_eq_true,decide_eq_true_eq];exact⟨⟨by omega,MZ.1.2⟩,MZ.2⟩)]
     obtain⟨a1,a2,a3,a4,a5⟩:=Kk v.cells MZ.1.1
     exact⟨_,rfl,a1,a2,λb hb=>by simp[fA.bW]at hb;subst hb;exact a3,λb hb=>a4 b (by simpa [fA.bW] using hb),λb hb=>a5 b (by simpa [fA.bW] using hb)⟩
    ·cases h
   ·cases h
theorem Wi {b:Nat}(h:act O wl aa op vals st bx=some (e,bK,eI))(hv:∀x∈vals,x.mT b=true)(hn:op.bq≠some b):e.mT b=true:=by
 have call:∀x,eR O wl aa x st bx=some (e,bK,eI)->e.mT b=true:=by
  intro x h
  unfold eR at h
  repeat' split at h
  all_goals first|(cases h;rfl)|cases h
 have val:∀a:AV,(dK.val a).mT b=true:=λ_=>rfl
 unfold act at h
 split at h
 ·exact call _ h
 ·exact call _ h
 ·cases op
  case move=>
   unfold aI at h
   simp only at h
   split at h
   ·cases h;exact hv _ (by simp)
   ·cases h
  case pick=>
   unfold aI at h
   simp only at h
   split at h
   ·rename_i c x y
    cases h
    cases c
    ·exact hv _ (by simp)
    ·exact hv _ (by simp)
   ·cases h
  case nilCheck=>
   unfold aI at h
   simp only at h
   split at h
   ·cases h;exact hv _ (by simp)
   ·split at h<;>first|(cases h;rfl)|cases h
   ·cases h
  case fieldAddr off=>
   unfold aI at h
   simp only at h
   split at h
   ·rename_i j k
    cases h
    have:=hv (.fp j k) (by simp)
    simpa [dK.mT] using this
   ·cases h;rfl
   ·cases h;rfl
   ·cases h
  case aF j zero=>
   unfold aI at h
   simp only at h
   split at h
   ·split at h
    ·cases h
     simp only[fA.bq,ne_eq,Option.some.injEq]at hn
     simpa [dK.mT] using hn
    ·cases h
   ·cases h
  case fR j n=>
   unfold aI at h
   simp only at h
   split at h
   ·split at h
    ·cases h
     simp only[fA.bq,ne_eq,Option.some.injEq]at hn
     simpa [dK.mT] using hn
    ·cases h
   ·cases h
  all_goals
   unfold aI at h
   (try unfold xE at h)
   simp only at h
   repeat' split at h
  all_goals first|(cases h;rfl)|cases h
end Ax
namespace Ax
open Go
def mo (o:Oper):List Nat:=(o.after.toList.filter (Region.binds .any)).map (·.on)
def bms:List Oper->List Nat->List Nat
 |[],acc=>acc
 |o::l,acc=>bms l (acc++[(mo o).foldl (λm p=>m ||| (1 <<< p) ||| acc.getD p 0) 0])
def bef (bm:List Nat)(i j:Nat):Bool:=(bm.getD j 0).testBit i
def oM (so:aU):List Nat:=so.dst.toList++nU so.args
def SE:List Src->List Nat
 |[]=>[]
 |.tmp t _::l=>t::SE l
 |_::l=>SE l
def vu (so:aU):List Nat:=SE so.args++(match so.guard with|some (t,_)=>[t]|none=>[])
def apart (S:Nat->Option aC)(bD:List (Nat×Nat))(i j:Nat)(a b:aU):Bool:=
 (oM a).all (λt=>!(vu b).contains t && !(oM b).contains t)&&(oM b).all (λt=>!(vu a).contains t) &&
 (match a.op.bW with|some x=>b.op.bA != some x|none=>true)&&(match b.op.bW with|some x=>a.op.bA != some x|none=>true) &&
 (!(a.op.nu S&&b.op.nu S)||bD.contains (100000+i,j))&&(a.op.I1 || !(b.op.nu S)||a.op.nu S||bD.contains (i,j))&&(b.op.I1 || !(a.op.nu S)||b.op.nu S||bD.contains (j,i))
def A4 (n:Nat)(f:Nat->Nat->Bool):Bool:=(List.range n).all λj=>(List.range j).all λi=>f i j
def zQ:fA->Bool
 |.store _=>true
 |_=>false
def U4 (S:Nat->Option aC)(m:List aU)(bD:List (Nat×Nat)):Nat×Nat->Bool
 |(c,q)=>if 100000<=c&&decide (c<200000) then
   let p:=c-100000
   (match m[p]?,m[q]? with|some a,some b=>zQ a.op&&zQ b.op&&a.guard.isNone&&b.guard.isNone|_,_=>false) &&
   decide (p<q)&&(List.range (q-p-1)).all (λd=>match m[p+1+d]? with|some o=>!(o.op.nu S)|none=>false) &&
   bD.all (λx=>decide (100000<=x.1) || !(x.2==p||x.2==q)||bD.contains (100000*(x.1+2)+p,q)) &&
   bD.all (λx=>!(decide (100000<=x.1)&&decide (x.1<200000))||(x.1==c&&x.2==q))
  else true
def Kl (S:Nat->Option aC)(P:Program)(ops:Array Oper)(n:Nat)(m:List aU)(bD:List (Nat×Nat)):Bool:=
 let bm:=bms ops.toList []
 P.follows .mixedOrders&&oL S P ops n ops.toList m&&(decide (ops.size<100000)&&bD.all (U4 S m bD)) &&
 (List.range ops.size).all (λj=>match ops[j]? with
  |some o=>(mo o).all (λp=>decide (p<j))&&(List.range ops.size).all λi=>!bef bm i j||(mo o).any λp=>i==p||bef bm i p
  |none=>true) &&
 A4 ops.size (λi j=>match m[i]?,m[j]? with
  |some a,some b=>(bef bm i j||apart S bD i j a b)&&(match a.op.bq,b.op.bq with|some x,some y=>x != y|_,_=>true)
  |_,_=>true)
theorem sM {n:Nat}{f:Nat->Nat->Bool}(h:A4 n f=true){i j:Nat}(h1:i<j)(h2:j<n):f i j=true:=by
 simp only[A4,List.all_eq_true,List.mem_range]at h
 exact h j h2 i h1
end Ax
namespace Ax
open Go
variable {S:Nat->Option aC}{P:Program}{ops:Array Oper}{n:Nat}{m:List aU}{bD:List (Nat×Nat)}
theorem A5:∀{l:List Oper}{m:List aU},oL S P ops n l m=true->l.length=m.length/\∀(i:Nat) o so,l[i]?=some o->m[i]?=some so->C9 S P ops n o so=true
 |[],[],_=>⟨rfl,λi o so h=>by simp at h⟩
 |o::l,so::m,h=>by
  simp only[oL,Bool.and_eq_true]at h
  obtain⟨e1,e2⟩:=A5 h.2
  refine⟨by simp[e1],λi o' so' h1 h2=>?_⟩
  cases i with
  |zero=>simp at h1 h2;subst h1;subst h2;exact h.1
  |succ i=>exact e2 i o' so' (by simpa using h1) (by simpa using h2)
 |[],_::_,h=>by simp[oL]at h
 |_::_,[],h=>by simp[oL]at h
def Down (ops:Array Oper)(D:Nat->Bool):Prop:=∀(j:Nat) o,ops[j]?=some o->D j=true->∀p∈mo o,D p=true
structure U5 (S:Nat->Option aC)(P:Program)(ops:Array Oper)(n:Nat)(m:List aU)(bD:List (Nat×Nat)):Prop where
 fol:P.follows .mixedOrders=true
 len:m.length=ops.size
 get:∀(i:Nat) o so,ops[i]?=some o->m[i]?=some so->C9 S P ops n o so=true
 lt:∀(j:Nat) o,ops[j]?=some o->∀p∈mo o,p<j
 apA:∀(D:Nat->Bool),Down ops D->∀(j:Nat) o,ops[j]?=some o->(∀p∈mo o,D p=true)->∀(k:Nat) a b,k<j->D k=false->m[k]?=some a->m[j]?=some b->apart S bD k j a b=true
 apB:∀(D:Nat->Bool),Down ops D->∀(j k:Nat) a b,j<k->D j=false->D k=true->m[j]?=some a->m[k]?=some b->apart S bD j k a b=true
 small:m.length<100000
 xt:∀p q,p<100000->(100000+p,q)∈bD->p<q/\(∃a b,m[p]?=some a/\m[q]?=some b/\zQ a.op=true/\zQ b.op=true/\a.guard=none/\b.guard=none)/\(∀(j:Nat) o,p<j->j<q->m[j]?=some o->o.op.nu S=false)/\
  (∀k w,(k,w)∈bD->k<100000->w=p\/w=q->(100000*(k+2)+p,q)∈bD)/\∀i j,i<100000->(100000+i,j)∈bD->i=p/\j=q
 boxes:∀(i j:Nat) a b x,i<j->m[i]?=some a->m[j]?=some b->a.op.bq=some x->b.op.bq≠some x
theorem NZ (h:Kl S P ops n m bD=true):U5 S P ops n m bD:=by
 unfold Kl at h
 simp only[Bool.and_eq_true,List.all_eq_true,List.mem_range]at h
 obtain⟨⟨⟨⟨h1,h2⟩,h5,h6⟩,h3⟩,h4⟩:=h
 obtain⟨e1,e2⟩:=A5 h2
 have hlen:m.length=ops.size:=by rw[<-e1];simp
 have aZ:∀(j:Nat) o,ops[j]?=some o->∀p∈mo o,p<j:=λj o ho p hp=>by
  have:=h3 j (Array.getElem?_eq_some_iff.1 ho).1
  rw[ho]at this
  simp only[Bool.and_eq_true,List.all_eq_true,decide_eq_true_eq]at this
  exact this.1 p hp
 have Rw:∀(D:Nat->Bool),Down ops D->∀(j:Nat) o,ops[j]?=some o->(∀p∈mo o,D p=true)->∀i,i<ops.size->bef (bms ops.toList []) i j=true->D i=true:=by
  intro D hD j
  induction j using Nat.strongRecOn with
  |_ j ih=>
   intro o ho hp i hi hb
   have:=h3 j (Array.getElem?_eq_some_iff.1 ho).1
   rw[ho]at this
   simp only[Bool.and_eq_true,List.all_eq_true,List.mem_range,Bool.or_eq_true,Bool.not_eq_true',List.any_eq_true,beq_iff_eq]at this
   rcases this.2 i hi with h5|⟨p,SF,h6⟩
   ·rw[hb]at h5;cases h5
   ·rcases h6 with rfl|h6
    ·exact hp i SF
    ·have hpj:=aZ j o ho p SF
     have SG:p<ops.size:=by have:=(Array.getElem?_eq_some_iff.1 ho).1;omega
     have U3:ops[p]?=some ops[p]:=by simp[SG]
     exact ih p hpj ops[p] U3 (λq hq=>hD p ops[p] U3 (hp p SF) q hq) i hi h6
 refine⟨h1,hlen,λi o so ho hso=>e2 i o so (by simpa using ho) hso,aZ,λD hD j o ho hp k a b hk hDk ha hb=>?_,λD hD j k a b A6 hDj hDk ha hb=>?_,by rw[hlen];simpa using h5,λp q hp Rx=>?_,λi j a b x zn ha hb hx hy=>?_⟩
 ·have hj:=(Array.getElem?_eq_some_iff.1 ho).1
  have:=sM h4 hk hj
  rw[ha,hb]at this
  simp only[Bool.and_eq_true,Bool.or_eq_true]at this
  rcases this.1 with h5|h5
  ·rw[Rw D hD j o ho hp k (by omega) h5]at hDk;cases hDk
  ·exact h5
 ·have hk:k<ops.size:=by rw[<-hlen];exact(List.getElem?_eq_some_iff.1 hb).1
  have:=sM h4 A6 hk
  rw[ha,hb]at this
  simp only[Bool.and_eq_true,Bool.or_eq_true]at this
  have Wj:ops[k]?=some ops[k]:=by simp[hk]
  rcases this.1 with h5|h5
  ·rw[Rw D hD k ops[k] Wj (hD k ops[k] Wj hDk) j (by omega) h5]at hDj;cases hDj
  ·exact h5
 ·have:=h6 _ Rx
  simp only[U4]at this
  rw[if_pos (by simp;omega)]at this
  simp only[Nat.add_sub_cancel_left,Bool.and_eq_true,decide_eq_true_eq,List.all_eq_true,List.mem_range,Bool.or_eq_true,Bool.not_eq_true',Bool.or_eq_false_iff,List.contains_eq_mem,Prod.forall,Bool.and_eq_false_iff,beq_iff_eq,beq_eq_false_iff_ne,decide_eq_false_iff_not]at this
  obtain⟨⟨⟨⟨t1,t2⟩,t3⟩,t4⟩,t5⟩:=this
  refine⟨t2,?_,λj o Ip Zg ho=>?_,λk w hk Km hw=>?_,λi j hi zn=>?_⟩
  ·split at t1
   ·rename_i a b ha hb
    simp only[Bool.and_eq_true,Option.isNone_iff_eq_none]at t1
    exact⟨a,b,ha,hb,t1.1.1.1,t1.1.1.2,t1.1.2,t1.2⟩
   ·cases t1
  ·have:=t3 (j-p-1) (by omega)
   rw[show p+1+(j-p-1)=j by omega,ho]at this
   simpa using this
  ·rcases t4 k w hk with (h|h)|h
   ·omega
   ·exfalso;rcases hw with e|e
    ·exact h.1 e
    ·exact h.2 e
   ·exact h
  ·rcases t5 _ _ zn with h|h
   ·omega
   ·exact⟨by omega,h.2⟩
 ·have hj:j<ops.size:=by rw[<-hlen];exact(List.getElem?_eq_some_iff.1 hb).1
  have:=sM h4 zn hj
  rw[ha,hb]at this
  simp only[Bool.and_eq_true]at this
  have h5:=this.2
  rw[hx,hy]at h5
  simp at h5
end Ax
