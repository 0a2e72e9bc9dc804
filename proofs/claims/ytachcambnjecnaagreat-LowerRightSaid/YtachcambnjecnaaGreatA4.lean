/- The library of this proof, part 4: an abstract interpreter of the loaded code, and its soundness. -/
import Derived.Test.YtachcambnjecnaaGreatA3
import Derived.Orders

namespace Ax
open Go
variable {P:Program}{w w':World}{G G':aM}{β fQ:List k8}{ρ:Operand->Value}{o:Oper}
variable {S:Nat->Option aC}{so:aZ}{vals:List dX}{wl aa:Nat}{st bP:an}{bx eR:aX}{cO:Nat->Nat}{r:dX}
theorem iG.le {cO cO':Nat->Nat}{v:Value}(h:iG w G β st bx cO w' G' fQ bP eR r v)(hc:∀b,cO b<=cO' b):iG w G β st bx cO' w' G' fQ bP eR r v:=
 { h with eP:=λb=>by have h1:=h.eP b;have h2:=hc b;omega,tH:=λb hb=>h.tH b (by have:=hc b;omega) }
theorem WX {t e:TypeId}{parts:Array (Nat×Operand)}(ho:o.op=.buildSlice t 0 parts)(hu:P.underlying t=some (.slice e)){sz:Nat}(dZ:ck P e sz=true)(hp:parts = #[]) :
  (execOp ρ o).run P w=.ok (.value (.slice (some ⟨w.heap.size,0,none⟩) 0 0)) (w.alloc (.cells #[] e)):=by
 obtain⟨i,hi,CL,_⟩:=j7 dZ
 subst hp
 have h0:(Array.range 0).map (λ_:Nat=>(default:Value)) = #[]:=by apply Array.ext';simp
 simp[execOp,ho,Instr.buildSlice,run_underlying hu,Go.sizeOf,typeInfo,hi,Instr.fill,newRow]
 rw[h0]
theorem VQ {t:TypeId}{n n' sz:Nat}{parts:Array (Nat×Operand)}{zero:List AV}{qs:List Nat}{mu:Bool}(ho:o.op=.buildSlice t n parts)(Oq:n=n')
  (hu:match P.underlying t with
   |some (.slice e)=>(ck P e sz&&decide (n*sz<=16777216)&&mK P e zero&&decide (0<sz)&&(zero.length==sz)&&parts.toList.map (·.1)==qs)=true
   |_=>False) (hI:Inv w G st) (hB:jq w G β bx)
  (hR:jT w G β vals ((parts.toList.map (·.2)).map ρ)) (hcO:∀b,kM b vals ((parts.toList.map (·.2)).map ρ)<=cO b) (ha:aL wl aa (if mu then .SE sz n' zero qs else .lit sz n' zero qs) vals st bx=some (r,bP,eR)) :
  iH P ρ o w G β st bx cO none r bP eR:=by
 subst Oq
 split at hu
 ·rename_i e EB
  simp only[Bool.and_eq_true,decide_eq_true_eq,beq_iff_eq]at hu
  obtain⟨⟨⟨⟨⟨dZ,I1⟩,hz⟩,Ks⟩,Kt⟩,hq⟩:=hu
  have El:(parts.toList.map (·.2)).map ρ=parts.toList.map λp=>ρ p.2:=by simp
  rw[El]at hR hcO
  cases mu with
  |true=>
   simp only[if_true]at ha
   unfold aL at ha
   simp only at ha
   split at ha
   ·rename_i vs CI
    split at ha
    ·rename_i rows qR
     split at ha
     ·rename_i hc
      simp only[Bool.and_eq_true,decide_eq_true_eq]at hc
      cases ha
      obtain⟨hv,wo⟩:=hR.L8 CI
      obtain⟨cells,e1,e2,e3,e4,e5,e6⟩:=VG (w:=w) ho EB dZ I1 hz Ks Kt hq qR hc.2 hv
      obtain⟨G',hA,_⟩:=tJ (sz:=sz) (cap:=n) (rows:=rows) (c:=cells) (e:=e) (xs:=cells.toList) (w':=w.alloc (.cells cells e)) (cO:=cO) hI hB rfl rfl rfl e4 (w8 hc.1) e2 hc.2 (by omega) (by omega) (by simp)
       (λb=>by have h1:=e3 b;have h2:=hcO b;rw[wo]at h2;omega)
      exact⟨_,_,_,G',β,e1,.inl rfl,hA,ey.refl _ _⟩
     ·cases ha
    ·cases ha
   ·cases ha
  |false=>
   simp only[Bool.false_eq_true,if_false]at ha
   unfold aL at ha
   simp only at ha
   split at ha
   ·rename_i vs CI
    split at ha
    ·rename_i rows qR
     split at ha
     ·rename_i hc
      simp only[Bool.and_eq_true]at hc
      cases ha
      obtain⟨hv,wo⟩:=hR.L8 CI
      by_cases hn:n=0
      ·subst hn
       rw[if_pos rfl]
       have WY:parts = #[]:=by
        cases LX:parts.toList with
        |nil=>exact Array.toList_eq_nil_iff.1 LX
        |cons p l=>
         rw[LX]at hq
         subst hq
         simp only[List.map_cons,List.replicate_zero]at qR
         cases VR:AV.cz vs with
         |nil=>rw[VR]at qR;simp[fG]at qR
         |cons v l'=>rw[VR]at qR;simp[fG]at qR
       exact⟨_,_,_,_,β,WX ho EB dZ WY,.inl rfl,z8 (w':=w.alloc (.cells #[] e)) rfl rfl rfl none hI hB (.emp _) λb=>by simp[eP],ey.refl _ _⟩
      ·rw[if_neg hn]
       have CW:0<n:=by omega
       obtain⟨cells,e1,e2,e3,e4,e5,e6⟩:=VG (w:=w) ho EB dZ I1 hz Ks Kt hq qR CW hv.view
       have iY:∀r∈rows,AV.dz r=true:=by
        obtain⟨_,_,_,_,_,Ge,_⟩:=kB hz w G
        have:=w9 (sz:=sz) (p:=λc=>c.bX=true) qs (AV.cz vs) _ rows (λr hr c hc=>by
         rw[List.eq_of_mem_replicate hr]at hc;exact(Ge c hc).1) (λv hv=>GA (GB vs v hv)) qR
        exact λr hr=>(cm r).2 (this r hr)
       have WL:=Ep (G:=G.new w.heap.size (some (rows.length*sz)) []) (w:=w.alloc (.cells cells e)) (cap:=n) (off:=0) e4 (w8 hc.2) iY (Gz hc.1) (e2.push (w':=w.alloc (.cells cells e)) rfl _ _) (o9 rfl) (by omega) (by omega) (by simp[aM.new]) (λk x hk=>by rw[Nat.zero_add];simpa using hk)
       exact⟨_,_,_,_,β,e1,.inl rfl,z8 (w':=w.alloc (.cells cells e)) rfl rfl rfl (some (rows.length*sz)) hI hB WL.view λb=>by simp[eP],ey.refl _ _⟩
     ·cases ha
    ·cases ha
   ·cases ha
 ·exact hu.elim
theorem Bb {α:Type}{l:List α}(h:l.length=2):∃x y,l=[x,y]:=by
 match l,h with
 |[x,y],_=>exact⟨x,y,rfl⟩
theorem zN {sz:Nat}{vals:List dX}(wl aa:Nat):aL wl aa (.indexAddr sz) vals st bx=aL 0 0 (.indexAddr sz) vals st bx:=rfl
theorem abE {w:World}{G:aM}{b:Bool}{v:Value}(h:aN w G (.bool b) v):v=.bool b:=h.jc
theorem WZ (hm:ZZ S P o so=true)(hI:Inv w G st)(hB:jq w G β bx)(hX:∀b,cO b+fC b β bx+bY b G.ls st<=1)
  (hA:∀xs,eU xs so.args=true->jT w G β vals (xs.map ρ)/\∀b,kM b vals (xs.map ρ)<=cO b) (ha:aL wl aa so.op vals st bx=some (r,bP,eR)) :
  iH P ρ o w G β st bx cO so.op.aF r bP eR:=by
 unfold ZZ at hm
 rw[Bool.and_eq_true]at hm
 replace hm:=hm.2
 generalize hso:so.op=sop at hm ha
 split at hm
 ·
  rename_i x ho
  obtain⟨hR,hc⟩:=hA _ hm
  unfold aL at ha
  simp only at ha
  split at ha
  ·cases ha
   exact iH.quiet hI hB (u:=ρ x) (by simp[execOp,ho]) hR.1 λb=>by have:=hc b;simp only[List.map_cons,kM]at this;omega
  ·cases ha
 ·
  rename_i x ho
  obtain⟨hR,hc⟩:=hA _ hm
  unfold aL at ha
  simp only at ha
  split at ha
  ·cases ha
   exact iH.quiet hI hB (u:=ρ x) (by simp[execOp,ho]) hR.1 λb=>by have:=hc b;simp only[List.map_cons,kM]at this;omega
  ·cases ha
 ·
  rename_i c x y ho
  obtain⟨hR,hc⟩:=hA _ hm
  unfold aL at ha
  simp only at ha
  split at ha
  ·rename_i b x' y'
   cases ha
   obtain⟨h1,h2,h3,_⟩:=hR
   have hb:=abE h1
   refine iH.quiet hI hB (u:=if b then ρ x else ρ y) (by simp[execOp,ho,hb,asBool]) ?_ λd=>?_
   ·cases b
    ·exact h3
    ·exact h2
   ·have:=hc d
    simp only[List.map_cons,kM]at this
    cases b
    ·simp;omega
    ·simp;omega
  ·cases ha
 ·
  rename_i op t x y yt op' ho
  simp only[Bool.and_eq_true,beq_iff_eq]at hm
  obtain⟨rfl,hm⟩:=hm
  obtain⟨hR,hc⟩:=hA _ hm
  unfold aL at ha
  simp only at ha
  split at ha
  ·split at ha
   ·rename_i v hv
    cases ha
    obtain⟨u,e1,e2,e3⟩:=abf ho hv hR.1 hR.2.1
    exact iH.bX hI hB e1 e2 e3
   ·cases ha
  ·cases ha
 ·
  rename_i op t x y yt k neg ho
  simp only[Bool.and_eq_true,beq_iff_eq]at hm
  obtain⟨⟨rfl,hm⟩,ht⟩:=hm
  obtain⟨hR,hc⟩:=hA _ hm
  unfold aL at ha
  simp only at ha
  split at ha
  ·split at ha
   ·rename_i b hb
    cases ha
    obtain⟨u,e1,e2⟩:=abg ho ht hb hR.1 hR.2.1
    exact iH.bX hI hB e1 e2 rfl
   ·cases ha
  ·cases ha
 ·
  rename_i op t x y yt neg ho
  simp only[Bool.and_eq_true,beq_iff_eq]at hm
  obtain⟨⟨rfl,hm⟩,ht⟩:=hm
  obtain⟨hR,hc⟩:=hA _ hm
  unfold aL at ha
  simp only at ha
  split at ha
  ·rename_i id bU
   split at ha
   ·rename_i v sz rows fm
    split at ha
    ·rename_i ju
     cases ha
     exact iH.bX hI hB (SN ho ht hI fm ju hR.1 hR.2.1) (.bool _) rfl
    ·cases ha
   ·cases ha
  ·cases ha
 ·
  rename_i op t x op' ho
  simp only[Bool.and_eq_true,beq_iff_eq]at hm
  obtain⟨rfl,hm⟩:=hm
  obtain⟨hR,hc⟩:=hA _ hm
  unfold aL at ha
  simp only at ha
  split at ha
  ·split at ha
   ·rename_i v hv
    cases ha
    obtain⟨u,e1,e2,e3⟩:=afO ho hv hR.1
    exact iH.bX hI hB e1 e2 e3
   ·cases ha
  ·cases ha
 ·
  rename_i s d x k ho
  simp only[Bool.and_eq_true]at hm
  obtain⟨hm,ht⟩:=hm
  obtain⟨hR,hc⟩:=hA _ hm
  unfold aL at ha
  simp only at ha
  split at ha
  ·cases ha
   split at ht
   ·rename_i k1 k2 h1 h2
    simp only[beq_iff_eq]at ht
    subst ht
    exact iH.bX hI hB (WK ho h1 h2 hR.1) (.int _ _) rfl
   ·cases ht
  ·cases ha
 ·
  rename_i x ho
  obtain⟨hR,hc⟩:=hA _ hm
  unfold aL at ha
  simp only at ha
  split at ha
  ·cases ha
   obtain⟨g,b,h1,h2,h3⟩:=hR.1
   exact iH.quiet hI hB (wg ho h3) ⟨g,b,h1,h2,h3⟩ λd=>by simp[cj]
  ·split at ha
   ·cases ha
    have hp:∃a,ρ x=.pointer (some a):=by
     have h:=hR.1
     simp only[jF]at h
     cases h with|ptr _ _ _ _ _ _ hp=>exact hp
    obtain⟨a,hp⟩:=hp
    exact iH.quiet hI hB (wg ho hp) hR.1 λd=>by simp[cj,eP]
   ·cases ha
    have hp:∃a,ρ x=.pointer (some a):=by
     have h:=hR.1
     simp only[jF]at h
     generalize ρ x=v at h
     cases h;exact⟨_,rfl⟩
    obtain⟨a,hp⟩:=hp
    exact iH.quiet hI hB (wg ho hp) hR.1 λd=>by simp[cj,eP]
   ·cases ha
  ·cases ha
 ·
  rename_i x i j ho
  simp only[Bool.and_eq_true,beq_iff_eq]at hm
  obtain⟨rfl,hm⟩:=hm
  obtain⟨hR,hc⟩:=hA _ hm
  unfold aL at ha
  simp only at ha
  split at ha
  ·split at ha
   ·rename_i v hv
    cases ha
    obtain⟨u,e1,e2,e3⟩:=LW ho hv hR.1
    exact iH.quiet hI hB e1 e2 λb=>by have h1:=hc b;have h2:=e3 b;simp only[List.map_cons,kM,cj]at h1 ⊢;omega
   ·cases ha
  ·cases ha
 ·
  rename_i t x f off n agg ho
  simp only[Bool.and_eq_true]at hm
  obtain⟨hm,ht⟩:=hm
  obtain⟨hR,hc⟩:=hA _ hm
  split at ht
  ·rename_i fs hu
   split at ht
   ·rename_i fd hf
    simp only[Bool.and_eq_true,beq_iff_eq]at ht
    obtain⟨⟨h1,h2⟩,h3⟩:=ht
    unfold aL at ha
    simp only at ha
    split at ha
    ·split at ha
     ·rename_i cs Ol
      split at ha
      ·rename_i v hv
       cases ha
       obtain⟨u,e1,e2,e3⟩:=SU ho hu hf h1 h2 h3 Ol hv hR.1
       exact iH.quiet hI hB e1 e2 λb=>by have h1:=hc b;have h2:=e3 b;simp only[List.map_cons,kM,cj]at h1 ⊢;omega
      ·cases ha
     ·cases ha
    ·cases ha
   ·cases ht
  ·cases ht
 ·
  rename_i t parts zero qs ho
  simp only[Bool.and_eq_true]at hm
  obtain⟨⟨hm,hz⟩,ht⟩:=hm
  obtain⟨hR,hc⟩:=hA _ hm
  have El:(parts.toList.map (·.2)).map ρ=parts.toList.map λp=>ρ p.2:=by simp
  rw[El]at hR hc
  split at ht
  ·rename_i fs hu
   split at ht
   ·rename_i is CL
    unfold aL at ha
    simp only at ha
    split at ha
    ·rename_i vs CI
     split at ha
     ·rename_i cs qR
      cases ha
      obtain⟨hv,wo⟩:=hR.L8 CI
      obtain⟨u,e1,e2,e3⟩:=SX ho hu CL hz ht qR hv
      exact iH.quiet hI hB e1 e2 λb=>by have h1:=hc b;have h2:=e3 b;have h3:=wo b;simp only[cj];omega
     ·cases ha
    ·cases ha
   ·cases ht
  ·cases ht
 ·
  rename_i t n parts sz n' zero qs ho
  simp only[Bool.and_eq_true,beq_iff_eq]at hm
  obtain⟨⟨hn,hm⟩,ht⟩:=hm
  obtain⟨hR,hc⟩:=hA _ hm
  refine VQ (mu:=false) ho hn ?_ hI hB hR hc ha
  split at ht
  ·rename_i he;rw[he];simpa using ht
  ·cases ht
 ·
  rename_i t n parts sz n' zero qs ho
  simp only[Bool.and_eq_true,beq_iff_eq]at hm
  obtain⟨⟨hn,hm⟩,ht⟩:=hm
  obtain⟨hR,hc⟩:=hA _ hm
  refine VQ (mu:=true) ho hn ?_ hI hB hR hc ha
  split at ht
  ·rename_i he;rw[he];simpa using ht
  ·cases ht
 ·
  rename_i t x f off ho
  simp only[Bool.and_eq_true]at hm
  obtain⟨hm,ht⟩:=hm
  obtain⟨hR,hc⟩:=hA _ hm
  split at ht
  ·rename_i fs hu
   split at ht
   ·rename_i fd hf
    simp only[Bool.and_eq_true,beq_iff_eq]at ht
    obtain⟨h1,h2⟩:=ht
    subst h1
    split at h2
    ·rename_i i hi
     have hs:i.size≠0:=by simpa using h2
     unfold aL at ha
     simp only at ha
     split at ha
     ·rename_i j k
      cases ha
      obtain⟨g,b,g1,g2,g3⟩:=hR.1
      refine iH.quiet hI hB (tF ho hu hf hi hs g3) ⟨g,b,g1,g2,?_⟩ λd=>by simp[cj]
      rw[j9]
     ·rename_i id bU i' k
      cases ha
      obtain⟨a,e1,e2⟩:=vI hR.1 (.inl ⟨id,bU,i',k,rfl,rfl⟩)
      exact iH.bX hI hB (tF ho hu hf hi hs e1) e2 rfl
     ·rename_i sz rows i' k
      cases ha
      obtain⟨a,e1,e2⟩:=vI hR.1 (.inr ⟨sz,rows,i',k,rfl,rfl⟩)
      exact iH.bX hI hB (tF ho hu hf hi hs e1) e2 rfl
     ·cases ha
    ·cases h2
   ·cases ht
  ·cases ht
 ·
  rename_i t x y sz ho
  simp only[Bool.and_eq_true]at hm
  obtain⟨hm,ht⟩:=hm
  obtain⟨hR,hc⟩:=hA _ hm
  split at ht
  ·rename_i e hu
   rw[zN]at ha
   have Bc:=ha
   unfold aL at ha
   simp only at ha
   split at ha
   ·obtain⟨rfl,rfl,p,u,rfl,e1,e2,e3⟩:=Gg ho hu ht hI Bc hR.1 (aN.eZ hR.2.1)
    exact iH.bX hI hB e1 e2 e3
   ·cases ha
  ·cases ht
 ·
  rename_i t x y ho
  simp only[Bool.and_eq_true]at hm
  obtain⟨hm,ht⟩:=hm
  obtain⟨hR,hc⟩:=hA _ hm
  split at ht
  ·rename_i hu
   unfold aL at ha
   simp only at ha
   split at ha
   ·split at ha
    ·rename_i h0
     split at ha
     ·rename_i b hb
      cases ha
      exact iH.bX hI hB (SZ ho hu h0 hb hR.1 (aN.eZ hR.2.1)) (.int _ _) rfl
     ·cases ha
    ·cases ha
   ·cases ha
  ·cases ht
 ·
  rename_i t x lo hi mx tr l h m sz ho
  simp only[Bool.and_eq_true,beq_iff_eq]at hm
  obtain⟨⟨⟨⟨⟨hm,rfl⟩,rfl⟩,rfl⟩,WW⟩,ht⟩:=hm
  obtain⟨hR,hc⟩:=hA _ hm
  refine Tl ho (λh=>by rw[h]at WW;simpa using WW) ?_ hI hB hR hc ha
  split at ht
  ·rename_i he;rw[he];exact ht
  ·rename_i he;rw[he];exact ht
  ·cases ht
 ·
  rename_i t x hi sz ho
  simp only[Bool.and_eq_true]at hm
  obtain⟨hm,ht⟩:=hm
  obtain⟨hR,hc⟩:=hA _ hm
  split at ht
  ·rename_i e hu
   have Bc:=ha
   unfold aL at ha
   simp only at ha
   split at ha
   ·obtain⟨v,G',e1,e2⟩:=Om ho hu ht hI hB hX hR.1 hR.2.1 Bc
    exact⟨_,_,_,_,_,e1,.inl rfl,e2,ey.refl _ _⟩
   ·cases ha
  ·cases ht
 ·
  rename_i t x agg n take ho
  simp only[Bool.and_eq_true]at hm
  obtain⟨⟨⟨hm,hn⟩,qw⟩,kP⟩:=hm
  obtain⟨hR,hc⟩:=hA _ hm
  have Kx:lV P t=some agg:=by simpa using qw
  have Ky:agg=false->n=1:=λh=>by subst h;simpa using kP
  have Bc:=ha
  unfold aL at ha
  simp only at ha
  split at ha
  ·rename_i p
   cases take with
   |true=>
    obtain⟨v,e1,e2⟩:=I9 ho hn Kx Ky hI hB hX hR.1 Bc
    exact⟨_,_,_,_,_,e1,.inl rfl,e2,ey.refl _ _⟩
   |false=>
    split at ha
    ·rename_i cs A5
     simp only[Bool.false_eq_true,if_false]at ha
     split at ha
     ·rename_i v hv
      cases ha
      obtain⟨b,off,xs,h1,h2,h3,h4⟩:=Gh hI A5 hR.1
      obtain⟨u,e1,e2,e3⟩:=Eo ho hn Kx Ky h1 h2 h3.view h4 hv
      exact iH.quiet hI hB e1 e2 λd=>by
       simp only[cj,e3 d]
       rw[cW d _ _ (fJ cs)]
       omega
     ·cases ha
    ·cases ha
  ·cases ha
 ·
  rename_i t x j agg n take ho
  simp only[Bool.and_eq_true]at hm
  obtain⟨⟨⟨hm,hn⟩,qw⟩,kP⟩:=hm
  obtain⟨hR,hc⟩:=hA _ hm
  have Kx:lV P t=some agg:=by simpa using qw
  have Ky:agg=false->n=1:=λh=>by subst h;simpa using kP
  have Bc:=ha
  unfold aL at ha
  simp only at ha
  split at ha
  ·obtain⟨v,e1,e2⟩:=Te ho hn Kx Ky hI hB hX hR.1 Bc
   exact⟨_,_,_,_,_,e1,.inl rfl,e2,ey.refl _ _⟩
  ·cases ha
 ·
  rename_i t x y n ho
  simp only[Bool.and_eq_true]at hm
  obtain⟨hm,hn⟩:=hm
  obtain⟨hR,hc⟩:=hA _ hm
  have Bc:=ha
  unfold aL at ha
  simp only at ha
  split at ha
  ·obtain⟨w',G',e1,e2⟩:=Tc ho hn hI hB hX hR.1 hR.2.1 (λb=>by have:=hc b;simp only[List.map_cons,kM,cj]at this;omega) Bc
   exact⟨_,_,_,_,_,e1,.inr ⟨rfl,rfl⟩,e2,ey.refl _ _⟩
  ·cases ha
 ·
  rename_i t x y j n ho
  simp only[Bool.and_eq_true]at hm
  obtain⟨hm,hn⟩:=hm
  obtain⟨hR,hc⟩:=hA _ hm
  have Bc:=ha
  unfold aL at ha
  simp only at ha
  split at ha
  ·obtain⟨w',G',fQ,e1,e2,e3⟩:=Ok ho hn hI hB hX hR.1 hR.2.1 (λb=>by have:=hc b;simp only[List.map_cons,kM]at this;simp only[cj]at this ⊢;omega) Bc
   exact⟨_,_,_,_,_,e1,.inr ⟨rfl,rfl⟩,e2,e3⟩
  ·cases ha
 ·
  rename_i t zero ho
  simp only[Bool.and_eq_true]at hm
  obtain⟨_,hz⟩:=hm
  obtain⟨i,z,hi,NZ,mC,Ge,Nx⟩:=kB hz w G
  unfold aL at ha
  simp only at ha
  split at ha
  ·cases ha
   obtain⟨G',GC⟩:=L2 (t:=t) (cO:=cO) hI hB mC Ge Nx
   exact⟨_,_,_,_,_,Kr ho hi NZ,.inl rfl,GC,ey.refl _ _⟩
  ·cases ha
 ·
  rename_i t j zero ho
  simp only[Bool.and_eq_true]at hm
  obtain⟨_,hz⟩:=hm
  obtain⟨i,z,hi,NZ,mC,Ge,Nx⟩:=kB hz w G
  unfold aL at ha
  simp only at ha
  split at ha
  ·split at ha
   ·rename_i hj
    cases ha
    have hb:j<β.length:=by rw[hB.len];exact hj
    refine⟨_,_,_,_,_,Kr ho hi NZ,.inl rfl,Kq (c:=z.cells) (e:=t) (w':=w.alloc (.cells z.cells t)) hI hB rfl rfl rfl hj mC Nx (λb=>by rw[Dl Ge];omega),?_⟩
    exact ey.set (List.getElem?_eq_getElem hb) λh=>absurd rfl h
   ·cases ha
  ·cases ha
 ·
  rename_i t x n ho
  obtain⟨hR,hc⟩:=hA _ hm
  unfold aL at ha
  simp only at ha
  split at ha
  ·split at ha
   ·rename_i ju
    simp only[Bool.and_eq_true,decide_eq_true_eq]at ju
    cases ha
    obtain⟨G',GC⟩:=N9 (t:=t) (cO:=cO) hI hB hR.1 ju.1 ju.2 (λb=>by have:=hc b;simp only[List.map_cons,kM,cj]at this;omega)
    exact⟨_,_,_,_,_,VF ho,.inl rfl,GC,ey.refl _ _⟩
   ·cases ha
  ·cases ha
 ·
  rename_i t x j n ho
  obtain⟨hR,hc⟩:=hA _ hm
  unfold aL at ha
  simp only at ha
  split at ha
  ·split at ha
   ·rename_i ju
    simp only[Bool.and_eq_true,decide_eq_true_eq]at ju
    cases ha
    have hb:j<β.length:=by rw[hB.len];exact ju.1.1
    obtain⟨wo,CJ⟩:=aN.cells hR.1
    refine⟨_,_,_,_,_,VF ho,.inl rfl,Kq (c:=(ρ x).cells) (e:=t) (w':=w.alloc (.cells (ρ x).cells t)) hI hB rfl rfl rfl ju.1.1 wo ju.2 (λb=>by have:=hc b;simp only[List.map_cons,kM,cj]at this;rw[CJ];omega),?_⟩
    exact ey.set (List.getElem?_eq_getElem hb) λh=>absurd rfl h
   ·cases ha
  ·cases ha
 ·
  rename_i t x y sz bytes zero mt ho
  simp only[Bool.and_eq_true]at hm
  obtain⟨hm,ht⟩:=hm
  obtain⟨hR,hc⟩:=hA _ hm
  split at ht
  ·rename_i e hu
   simp only[Bool.and_eq_true,decide_eq_true_eq]at ht
   obtain⟨⟨⟨⟨h1,h2⟩,h3⟩,h4⟩,h5⟩:=ht
   unfold aL at ha
   simp only at ha
   split at ha
   ·rename_i n c
    split at ha
    ·rename_i ju
     obtain⟨c1,c2,c3,c4⟩:=ju
     have wv:c<=9223372036854775807:=by
      have:c*1<=c*bytes:=Int.mul_le_mul_of_nonneg_left (by omega) (by omega)
      simp only[room]at c3
      omega
     obtain⟨cells,e1,e2,e3,e4⟩:=Gl (w:=w) (G:=G) ho hu h1 h2 h3 h4 c4 (aN.eZ hR.1) (aN.eZ hR.2.1) c1 c2 c3 wv
     obtain⟨_,_,_,_,_,Ge,Nx⟩:=kB h3 w G
     have hle:n.toNat*sz<=c.toNat*sz:=Nat.mul_le_mul_right _ (by omega)
     have bn:fits sz (List.replicate n.toNat zero)=true:=b9.2 λr hr=>by rw[List.eq_of_mem_replicate hr,c4]
     have gY:∀r∈List.replicate n.toNat zero,AV.aK r=true:=λr hr=>by rw[List.eq_of_mem_replicate hr];exact Nx
     have hx:∀(k:Nat) x,(cells.toList.take (n.toNat*sz))[k]?=some x->cells[k]?=some x:=λk x hk=>by
      rw[List.getElem?_take]at hk
      split at hk
      ·simpa using hk
      ·cases hk
     split at ha
     ·cases ha
      by_cases yh:c.toNat=0
      ·have CW:n.toNat=0:=by omega
       rw[CW,yh]at e1
       rw[CW]
       have hA0:iG w G β st bx cO (w.alloc (.cells cells e)) (G.new w.heap.size (some 0) [⟨some ⟨w.heap.size,0,none⟩,0,0,sz,0,false,[]⟩]) β (st++[.rows 0 sz []]) bx (.val (.mu st.length 0)) (.slice (some ⟨w.heap.size,0,none⟩) 0 0):=by
        have hl:(G.new w.heap.size (some 0) [⟨some ⟨w.heap.size,0,none⟩,0,0,sz,0,false,[]⟩]).ls[st.length]?=some ⟨some ⟨w.heap.size,0,none⟩,0,0,sz,0,false,[]⟩:=by
         simp only[aM.new]
         rw[List.getElem?_append_right (by rw[hI.len];exact Nat.le_refl _),hI.len]
         simp
        exact qd (w':=w.alloc (.cells cells e)) (ao:=.rows 0 sz []) (ob:=.cells cells e) rfl rfl rfl hI hB ⟨rfl,rfl,by simp[fits],by simp,rfl,rfl,rfl,λi r xs h=>by simp at h,.inl ⟨rfl,rfl,rfl⟩⟩ (.mu _ _ _ _ ⟨_,_,_,rfl⟩ hl (Nat.le_refl _) λ_=>rfl) rfl λb=>by simp[gz,Loc.iZ,eX]
       exact⟨_,_,_,_,_,e1,.inl rfl,hA0,ey.refl _ _⟩
      ·obtain⟨G',GC,_⟩:=tJ (sz:=sz) (cap:=c.toNat) (rows:=List.replicate n.toNat zero) (c:=cells) (e:=e) (xs:=cells.toList.take (n.toNat*sz)) (w':=w.alloc (.cells cells e)) (cO:=cO) hI hB rfl rfl rfl bn gY e3 (by omega) (by omega) (by simp;omega) hx (λb=>by rw[e4];omega)
       rw[List.length_replicate]at GC
       exact⟨_,_,_,_,_,e1,.inl rfl,GC,ey.refl _ _⟩
     ·split at ha
      ·rename_i hpz
       cases ha
       obtain⟨G',GC⟩:=Er (sz:=sz) (cap:=c.toNat) (rows:=List.replicate n.toNat zero) (c:=cells) (e:=e) (xs:=cells.toList.take (n.toNat*sz)) (w':=w.alloc (.cells cells e)) (cO:=cO) hI hB rfl rfl rfl bn gY
        (λr hr=>by rw[List.eq_of_mem_replicate hr];exact(cm zero).2 λc hc=>(Ge c hc).1) (λr hr=>by rw[List.eq_of_mem_replicate hr];exact hpz) e3 (by omega) (by simp;omega) hx
       rw[List.length_replicate]at GC
       exact⟨_,_,_,_,_,e1,.inl rfl,GC,ey.refl _ _⟩
      ·cases ha
    ·cases ha
   ·cases ha
  ·cases ht
 ·
  rename_i t ho
  unfold aL at ha
  simp only at ha
  split at ha
  ·cases ha
   obtain⟨G',GC⟩:=S5 (cO:=cO) hI hB
   exact⟨_,_,_,_,_,by simp only[execOp,ho,Option.map_none,Sem.run_bind,show (Instr.makeMap t none).run P w=.ok (.map (some w.heap.size)) (w.alloc (.map #[] 0)) from rfl,Result.andThen_ok,Sem.run_pure],.inl rfl,GC,ey.refl _ _⟩
  ·cases ha
 ·
  rename_i t m k x kk ho
  simp only[Bool.and_eq_true]at hm
  obtain⟨hm,ht⟩:=hm
  obtain⟨hR,hc⟩:=hA _ hm
  split at ht
  ·rename_i kt et hu
   have Bc:=ha
   unfold aL at ha
   simp only at ha
   split at ha
   ·obtain⟨w',G',e1,e2⟩:=y7 (.inl ho) hu ht hI hB hX hR.1 hR.2.1 hR.2.2.1 Bc
    exact⟨_,_,_,_,_,e1,.inr ⟨rfl,rfl⟩,e2,ey.refl _ _⟩
   ·cases ha
  ·cases ht
 ·
  rename_i t m k x kk ho
  simp only[Bool.and_eq_true]at hm
  obtain⟨hm,ht⟩:=hm
  obtain⟨hR,hc⟩:=hA _ hm
  split at ht
  ·rename_i kt et hu
   have Bc:=ha
   unfold aL at ha
   simp only at ha
   split at ha
   ·obtain⟨w',G',e1,e2⟩:=y7 (.inr ho) hu ht hI hB hX hR.1 hR.2.1 hR.2.2.1 Bc
    exact⟨_,_,_,_,_,e1,.inr ⟨rfl,rfl⟩,e2,ey.refl _ _⟩
   ·cases ha
  ·cases ht
 ·
  rename_i t m k ok kk zero ok' ho
  simp only[Bool.and_eq_true,beq_iff_eq]at hm
  obtain⟨⟨rfl,hm⟩,ht⟩:=hm
  obtain⟨hR,hc⟩:=hA _ hm
  split at ht
  ·rename_i kt et hu
   simp only[Bool.and_eq_true]at ht
   obtain⟨ht,hz⟩:=ht
   split at hz
   ·rename_i ie hie
    split at hz
    ·rename_i z hzz
     unfold aL at ha
     simp only at ha
     split at ha
     ·rename_i am ak
      split at ha
      ·cases ha
      ·rename_i es qK
       split at ha
       ·split at ha
        ·cases ha
        ·rename_i res hf
         cases ha
         have af8:(am=.fh/\es=[])\/∃id,am=.map id/\st[id]?=some (.map es):=by
          split at qK
          ·cases qK;exact .inl ⟨rfl,rfl⟩
          ·rename_i id
           split at qK
           ·rename_i fm;cases qK;exact .inr ⟨id,rfl,fm⟩
           ·cases qK
          ·cases qK
         obtain⟨u,e1,e2,e3⟩:=N6 ho hu ht hie hzz hz hI af8 hf hR.1 hR.2.1
         refine iH.bX hI hB e1 e2 ?_
         cases ok
         ·exact e3
         ·simp[AV.bX,AV.dz,e3]
       ·cases ha
     ·cases ha
    ·cases hz
   ·cases hz
  ·cases ht
 ·
  rename_i f first j3 f' n ho
  simp only[Bool.and_eq_true,beq_iff_eq,decide_eq_true_eq]at hm
  obtain⟨⟨⟨rfl,hm⟩,rfl⟩,hf⟩:=hm
  obtain⟨hR,hc⟩:=hA _ hm
  unfold aL at ha
  simp only at ha
  split at ha
  ·rename_i vs CI
   cases ha
   obtain⟨hv,wo⟩:=hR.L8 CI
   obtain⟨e1,e2⟩:=IY (P:=P) hf ho hv
   exact iH.bX hI hB e1 e2 rfl
  ·cases ha
 ·
  rename_i c k ho
  simp only[Bool.and_eq_true,beq_iff_eq]at hm
  obtain⟨⟨hm,dZ⟩,ht⟩:=hm
  obtain⟨hR,hc⟩:=hA _ hm
  obtain⟨x,hx⟩:∃x,c.args.toList=[x]:=List.length_eq_one_iff.1 (by simpa using dZ)
  rw[hx]at hR hc
  split at ht
  ·rename_i t rN Dr
   unfold aL at ha
   simp only at ha
   split at ha
   ·split at ha
    ·rename_i n hn
     cases ha
     refine iH.bX hI hB (abh ho rN hx Dr (k:=k) ?_ hI hn hR.1) (.int _ _) rfl
     split at ht
     ·assumption
     ·exact⟨_,by assumption⟩
     ·exact⟨_,_,by assumption⟩
     ·cases ht
    ·cases ha
   ·cases ha
  ·cases ht
 ·
  rename_i c mx ho
  simp only[Bool.and_eq_true,beq_iff_eq]at hm
  obtain⟨⟨hm,dZ⟩,ht⟩:=hm
  obtain⟨hR,hc⟩:=hA _ hm
  obtain⟨x,y,hx⟩:∃x y,c.args.toList=[x,y]:=Bb (by simpa using dZ)
  rw[hx]at hR hc
  unfold aL at ha
  simp only at ha
  split at ha
  ·split at ha
   ·rename_i hk
    subst hk
    cases ha
    split at ht
    ·rename_i rN
     rw[if_pos ht]
     exact iH.bX hI hB (abi ho rN hx hR.1 hR.2.1) (.int _ _) rfl
    ·rename_i rN
     rw[if_neg (by simpa using ht)]
     exact iH.bX hI hB (abj ho rN hx hR.1 hR.2.1) (.int _ _) rfl
    ·cases ht
   ·cases ha
  ·cases ha
 ·
  rename_i c sz bytes ho
  simp only[Bool.and_eq_true,beq_iff_eq]at hm
  obtain⟨⟨⟨hm,dZ⟩,Je⟩,ht⟩:=hm
  obtain⟨hR,hc⟩:=hA _ hm
  obtain⟨x,y,hx⟩:∃x y,c.args.toList=[x,y]:=Bb (by simpa using dZ)
  rw[hx]at hR hc
  split at ht
  ·rename_i t u rN W3 Kz
   simp only[Bool.and_eq_true]at ht
   obtain⟨y9,Ot⟩:=ht
   split at y9
   ·rename_i e hu
    simp only[Bool.and_eq_true,decide_eq_true_eq]at y9
    obtain⟨⟨⟨⟨h1,h2⟩,h3⟩,h4⟩,h5⟩:=y9
    split at h5
    ·rename_i i hi
     split at h5
     ·rename_i z hz
      simp only[beq_iff_eq]at h5
      have hT:I4 P t u e sz bytes i z:=by
       refine⟨hu,hi,hz,?_,?_,h5,h3,h4,?_⟩
       ·obtain⟨i',oM,CL,_⟩:=j7 h1
        rw[hi]at oM;cases oM;exact CL
       ·simpa [nh,hi] using h2
       ·split at Ot
        ·exact .inl ⟨_,by assumption⟩
        ·exact .inr (by assumption)
        ·cases Ot
      have Bc:=ha
      unfold aL at ha
      simp only at ha
      split at ha
      ·obtain⟨v,w',G',e1,e2⟩:=Oc (ty:=o.type) hT hI hB hX hR.1 hR.2.1 (λb=>by have:=hc b;simp only[List.map_cons,kM,cj]at this;omega) Bc
       refine⟨_,_,_,_,_,?_,.inl rfl,e2,ey.refl _ _⟩
       simp only[execOp,ho,resolve,rN,Sem.run_bind,Sem.run_pure,Result.andThen_ok,invoke,builtin,mL hx,uL Je W3 Kz]
       simp[e1]
      ·cases ha
     ·cases h5
    ·cases h5
   ·cases y9
  ·cases ht
 ·
  rename_i c sz bytes ho
  simp only[Bool.and_eq_true,beq_iff_eq]at hm
  obtain⟨⟨⟨hm,dZ⟩,Je⟩,ht⟩:=hm
  obtain⟨hR,hc⟩:=hA _ hm
  obtain⟨x,y,hx⟩:∃x y,c.args.toList=[x,y]:=Bb (by simpa using dZ)
  rw[hx]at hR hc
  split at ht
  ·rename_i t u rN W3 Kz
   simp only[Bool.and_eq_true]at ht
   obtain⟨y9,Ot⟩:=ht
   split at y9
   ·rename_i e hu
    simp only[Bool.and_eq_true,decide_eq_true_eq]at y9
    obtain⟨⟨⟨⟨h1,h2⟩,h3⟩,h4⟩,h5⟩:=y9
    split at h5
    ·rename_i i hi
     split at h5
     ·rename_i z hz
      simp only[beq_iff_eq]at h5
      have hT:I4 P t u e sz bytes i z:=by
       refine⟨hu,hi,hz,?_,?_,h5,h3,h4,?_⟩
       ·obtain⟨i',oM,CL,_⟩:=j7 h1
        rw[hi]at oM;cases oM;exact CL
       ·simpa [nh,hi] using h2
       ·split at Ot
        ·exact .inl ⟨_,by assumption⟩
        ·exact .inr (by assumption)
        ·cases Ot
      have Bc:=ha
      unfold aL at ha
      simp only at ha
      split at ha
      ·obtain⟨v,w',G',e1,e2⟩:=L4 (ty:=o.type) hT hI hB hX hR.1 hR.2.1 Bc
       refine⟨_,_,_,_,_,?_,.inl rfl,e2,ey.refl _ _⟩
       simp only[execOp,ho,resolve,rN,Sem.run_bind,Sem.run_pure,Result.andThen_ok,invoke,builtin,mL hx,uL Je W3 Kz]
       simp[e1]
      ·cases ha
     ·cases h5
    ·cases h5
   ·cases y9
  ·cases ht
 ·
  rename_i c sz ho
  simp only[Bool.and_eq_true,beq_iff_eq]at hm
  obtain⟨⟨⟨hm,dZ⟩,Je⟩,ht⟩:=hm
  obtain⟨hR,hc⟩:=hA _ hm
  obtain⟨x,y,hx⟩:∃x y,c.args.toList=[x,y]:=Bb (by simpa using dZ)
  rw[hx]at hR hc
  split at ht
  ·rename_i t u rN W3 Kz
   simp only[Bool.and_eq_true]at ht
   obtain⟨y9,Ot⟩:=ht
   split at y9
   ·rename_i e hu
    have hk:(∃e',P.underlying u=some (.slice e'))\/P.underlying u=some .string:=by
     split at Ot
     ·exact .inl ⟨_,by assumption⟩
     ·exact .inr (by assumption)
     ·cases Ot
    have Bc:=ha
    unfold aL at ha
    simp only at ha
    split at ha
    ·obtain⟨v,w',G',e1,e2⟩:=WS (ty:=o.type) hu y9 hk hI hB hX hR.1 hR.2.1 Bc
     refine⟨_,_,_,_,_,?_,.inl rfl,e2,ey.refl _ _⟩
     simp only[execOp,ho,resolve,rN,Sem.run_bind,Sem.run_pure,Result.andThen_ok,invoke,builtin,mL hx,uL Je W3 Kz]
     simp[e1]
    ·cases ha
   ·cases y9
  ·cases ht
 ·
  rename_i s d x ho
  simp only[Bool.and_eq_true]at hm
  obtain⟨hm,ht⟩:=hm
  obtain⟨hR,hc⟩:=hA _ hm
  split at ht
  ·rename_i e h1 h2
   split at ht
   ·rename_i h3
    unfold aL at ha
    simp only at ha
    split at ha
    ·split at ha
     ·rename_i rows w7
      split at ha
      ·rename_i l hl
       cases ha
       obtain⟨u,e1,e2⟩:=Tf ho h1 h3 h2 hI hR.1 w7 hl
       exact iH.bX hI hB e1 e2 rfl
      ·cases ha
     ·cases ha
    ·cases ha
   ·cases ht
  ·cases ht
 ·
  unfold aL at ha
  cases ha
 ·
  unfold aL at ha
  cases ha
 ·
  rename_i t x y sz bytes zero ho
  simp only[Bool.and_eq_true]at hm
  obtain⟨hm,ht⟩:=hm
  obtain⟨hR,hc⟩:=hA _ hm
  split at ht
  ·rename_i e hu
   simp only[Bool.and_eq_true,decide_eq_true_eq]at ht
   obtain⟨⟨⟨⟨h1,h2⟩,h3⟩,h4⟩,h5⟩:=ht
   unfold aL at ha
   simp only at ha
   split at ha
   ·rename_i n c
    split at ha
    ·rename_i ju
     obtain⟨c1,c2,c3,c4,hpz⟩:=ju
     have wv:c<=9223372036854775807:=by
      have:c*1<=c*bytes:=Int.mul_le_mul_of_nonneg_left (by omega) (by omega)
      simp only[room]at c3
      omega
     obtain⟨cells,e1,e2,e3,e4⟩:=Gl (w:=w) (G:=G) ho hu h1 h2 h3 h4 c4 (aN.eZ hR.1) (aN.eZ hR.2.1) c1 c2 c3 wv
     obtain⟨_,_,_,_,_,Ge,Nx⟩:=kB h3 w G
     have hle:n.toNat*sz<=c.toNat*sz:=Nat.mul_le_mul_right _ (by omega)
     have bn:fits sz (List.replicate n.toNat zero)=true:=b9.2 λr hr=>by rw[List.eq_of_mem_replicate hr,c4]
     have gY:∀r∈List.replicate n.toNat zero,AV.aK r=true:=λr hr=>by rw[List.eq_of_mem_replicate hr];exact Nx
     have hx:∀(k:Nat) x,(cells.toList.take (n.toNat*sz))[k]?=some x->cells[k]?=some x:=λk x hk=>by
      rw[List.getElem?_take]at hk
      split at hk
      ·simpa using hk
      ·cases hk
     cases ha
     obtain⟨G',GC⟩:=S3 (sz:=sz) (cap:=c.toNat) (rows:=List.replicate n.toNat zero) (c:=cells) (e:=e) (xs:=cells.toList.take (n.toNat*sz)) (w':=w.alloc (.cells cells e)) (cO:=cO) hI hB rfl rfl rfl bn gY
      (λr hr=>by rw[List.eq_of_mem_replicate hr];exact(cm zero).2 λc hc=>(Ge c hc).1) (λr hr=>by rw[List.eq_of_mem_replicate hr];exact hpz) e3 (by omega) (by simp;omega) hx
     rw[List.length_replicate]at GC
     exact⟨_,_,_,_,_,e1,.inl rfl,GC,ey.refl _ _⟩
    ·cases ha
   ·cases ha
  ·cases ht
 ·
  rename_i c sz bytes zero ho
  simp only[Bool.and_eq_true,beq_iff_eq]at hm
  obtain⟨⟨⟨hm,dZ⟩,Je⟩,ht⟩:=hm
  obtain⟨hR,hc⟩:=hA _ hm
  obtain⟨x,y,hx⟩:∃x y,c.args.toList=[x,y]:=Bb (by simpa using dZ)
  rw[hx]at hR hc
  split at ht
  ·rename_i t u rN W3 Kz
   simp only[Bool.and_eq_true]at ht
   obtain⟨y9,Ot⟩:=ht
   split at y9
   ·rename_i e hu
    simp only[Bool.and_eq_true,decide_eq_true_eq]at y9
    obtain⟨⟨⟨⟨h1,h2⟩,h3⟩,h4⟩,h5⟩:=y9
    have hk:∃k,P.underlying u=some (.int k):=by
     split at Ot
     ·exact⟨_,by assumption⟩
     ·cases Ot
    have Bc:=ha
    unfold aL at ha
    simp only at ha
    split at ha
    ·obtain⟨v,w',G',e1,e2⟩:=L5 (ty:=o.type) hu hk h1 h2 h3 h4 h5 hI hB hX hR.1 hR.2.1 Bc
     refine⟨_,_,_,_,_,?_,.inl rfl,e2,ey.refl _ _⟩
     simp only[execOp,ho,resolve,rN,Sem.run_bind,Sem.run_pure,Result.andThen_ok,invoke,builtin,mL hx,uL Je W3 Kz]
     simp[e1]
    ·cases ha
   ·cases y9
  ·cases ht
 ·
  rename_i c ho
  simp only[Bool.and_eq_true,beq_iff_eq]at hm
  obtain⟨⟨hm,dZ⟩,ht⟩:=hm
  obtain⟨hR,hc⟩:=hA _ hm
  obtain⟨x,hx⟩:∃x,c.args.toList=[x]:=List.length_eq_one_iff.1 (by simpa using dZ)
  rw[hx]at hR hc
  split at ht
  ·rename_i t rN Dr
   split at ht
   ·rename_i e hu
    unfold aL at ha
    simp only at ha
    split at ha
    ·cases ha
     refine iH.bX hI hB ?_ (.int _ _) rfl
     have e1:∃n,ρ x=.slice none n 0:=by
      have h1:aN w G .U (ρ x):=hR.1
      generalize ρ x=v at h1
      cases h1
      exact⟨_,rfl⟩
     obtain⟨n,e1⟩:=e1
     simp[execOp,ho,resolve,rN,invoke,builtin,IW hx,Builtin.cap_,Dr,run_underlying hu,e1,goInt]
    ·cases ha
   ·cases ht
  ·cases ht
 ·
  have h0:so.args=[]:=by simpa using hm
  have hv:=(hA [] (by rw[h0];rfl)).1
  cases vals with
  |nil=>unfold aL at ha;simp at ha
  |cons a l=>simp[jT]at hv
 ·cases hm
end Ax
namespace Ax
open Go
variable {P:Program}{w w':World}{G G':aM}{β fQ:List k8}
theorem tO (d:Nat)(e:dX)(t:Nat):∀env:Env,cC (tq env d e) t=if t=d then e else cC env t
 |[]=>by
  simp only[tq,cC]
  by_cases h:d=t
  ·rw[if_pos h,if_pos h.symm]
  ·rw[if_neg h,if_neg (show ¬t=d from λe=>h e.symm)]
 |(k,x)::r=>by
  have ih:=tO d e t r
  unfold tq
  split
  ·simp only[cC]
   by_cases h:d=t
   ·rw[if_pos h,if_pos h.symm]
   ·rw[if_neg h,if_neg (show ¬t=d from λe=>h e.symm)]
  ·split
   ·rename_i hk
    subst hk
    simp only[cC]
    by_cases h:d=t
    ·rw[if_pos h,if_pos h.symm]
    ·rw[if_neg h,if_neg (show ¬t=d from λe=>h e.symm),if_neg h]
   ·simp only[cC,ih]
    by_cases h:k=t
    ·rw[if_pos h,if_pos h,if_neg (by omega)]
    ·rw[if_neg h,if_neg h]
theorem Be (d t:Nat):∀env:Env,cC (zC env d) t=if t=d then .none else cC env t
 |[]=>by simp[zC,cC]
 |(k,x)::r=>by
  have ih:=Be d t r
  unfold zC
  split
  ·rename_i h
   rw[ih]
   simp only[cC]
   by_cases h2:t=d
   ·rw[if_pos h2,if_pos h2]
   ·rw[if_neg h2,if_neg h2,if_neg (by omega)]
  ·simp only[cC,ih]
   by_cases h2:t=d
   ·rw[if_pos h2,if_pos h2]
    rw[if_neg (by omega)]
   ·rw[if_neg h2,if_neg h2]
def ow:List Src->List Nat
 |[]=>[]
 |.tmp t true::r=>t::ow r
 |_::r=>ow r
theorem qS (t:Nat):∀(ss:List Src)(env:Env),cC (ss.foldl kU env) t=if t∈ow ss then .none else cC env t
 |[],env=>by simp[ow]
 |.tmp u true::r,env=>by
  simp only[List.foldl_cons,kU,ow,qS t r,Be,List.mem_cons]
  by_cases h1:t∈ow r
  ·simp[h1]
  ·by_cases h2:t=u
   ·simp[h2]
   ·simp[h1,h2]
 |.tmp u false::r,env=>by rw[List.foldl_cons,qS t r];rfl
 |.const a::r,env=>by rw[List.foldl_cons,qS t r];rfl
theorem rO (t:Nat):∀(l:List Nat)(env:Env),cC (gX l env) t=if t∈l then .none else cC env t
 |[],env=>by simp[gX]
 |u::l,env=>by
  simp only[gX,rO t l,Be,List.mem_cons]
  by_cases h1:t∈l
  ·simp[h1]
  ·by_cases h2:t=u
   ·simp[h2]
   ·simp[h1,h2]
theorem Ds (t:Nat):∀(k:Nat)(l:List AV),cC (Dh k l) t=if k<=t then (match l[t-k]? with|some v=>.val v|none=>.none) else .none
 |k,[]=>by simp[Dh,cC]
 |k,v::r=>by
  simp only[Dh,cC,Ds t (k+1) r]
  by_cases h:k=t
  ·subst h;simp
  ·rw[if_neg h]
   by_cases h2:k<=t
   ·rw[if_pos h2,if_pos (by omega),show t-k=(t-(k+1))+1 by omega]
    simp
   ·rw[if_neg h2,if_neg (by omega)]
theorem Bf {j:Nat}:∀{env:Env},cP j env=true->∀t,(cC env t).ny j=true
 |[],_,_=>rfl
 |(k,x)::r,h,t=>by
  simp only[cP,List.all_cons,Bool.and_eq_true]at h
  simp only[cC]
  split
  ·exact h.1
  ·exact Bf (env:=r) (by simpa [cP] using h.2) t
def fP (f:Nat->Nat):Nat->Nat
 |0=>0
 |n+1=>fP f n+f n
theorem mM {f g:Nat->Nat}:∀{n:Nat},(∀t,t<n->f t=g t)->fP f n=fP g n
 |0,_=>rfl
 |n+1,h=>by simp only[fP];rw[mM λt ht=>h t (by omega),h n (by omega)]
theorem Aa {f g:Nat->Nat}:∀{n:Nat},(∀t,t<n->f t<=g t)->fP f n<=fP g n
 |0,_=>Nat.le_refl _
 |n+1,h=>by
  simp only[fP]
  have h1:=Aa (f:=f) (g:=g) (n:=n) λt ht=>h t (by omega)
  have h2:=h n (by omega)
  omega
theorem qT {f g:Nat->Nat}{d:Nat}:∀{n:Nat},d<n->(∀t,t≠d->f t=g t)->fP f n+g d=fP g n+f d
 |0,h,_=>by omega
 |n+1,h,he=>by
  simp only[fP]
  by_cases hd:d=n
  ·subst hd
   rw[mM (f:=f) (g:=g) λt ht=>he t (by omega)]
   omega
  ·have:=qT (f:=f) (g:=g) (n:=n) (d:=d) (by omega) he
   rw[he n λe=>hd e.symm]
   omega
theorem tP {f:Nat->Nat}{t n:Nat}(h:t<n):f t<=fP f n:=by
 have:=qT (f:=λu=>if u=t then 0 else f u) (g:=f) (d:=t) h λu hu=>if_neg hu
 simp only[if_true]at this
 omega
theorem Dt {n:Nat}:fP (λ_=>0) n=0:=by
 induction n with
 |zero=>rfl
 |succ n ih=>simp[fP,ih]
def nV (f:Nat->Nat):List Nat->Nat
 |[]=>0
 |t::l=>f t+nV f l
theorem xd {f:Nat->Nat}{n:Nat}(hf:∀t,n<=t->f t=0):∀(l:List Nat),l.Nodup->nV f l+fP (λt=>if t∈l then 0 else f t) n<=fP f n
 |[],_=>by simp[nV]
 |t::l,h=>by
  have ih:=xd hf l (List.nodup_cons.1 h).2
  have hn:=(List.nodup_cons.1 h).1
  simp only[nV]
  by_cases ht:t<n
  ·have:=qT (f:=λu=>if u∈t::l then 0 else f u) (g:=λu=>if u∈l then 0 else f u) (d:=t) ht λu hu=>by simp[hu]
   simp only[List.mem_cons,true_or,if_true,if_neg hn]at this
   simp only[List.mem_cons]
   omega
  ·rw[hf t (by omega)]
   rw[mM (f:=λu=>if u∈t::l then 0 else f u) (g:=λu=>if u∈l then 0 else f u) λu hu=>by simp[show u≠t by omega]]
   omega
mutual
def AV.under (n:Nat):AV->Bool
 |.mu i _|.ptr i _ _ _|.map i=>decide (i<n)
 |.agg cs|.fz cs=>AV.mN n cs
 |.fn _ a b=>AV.mN n a&&AV.mN n b
 |_=>true
def AV.mN (n:Nat):List AV->Bool
 |[]=>true
 |v::r=>v.under n&&AV.mN n r
end
theorem fR (n:Nat):∀cs:List AV,AV.mN n cs=true↔∀c∈cs,c.under n=true
 |[]=>by simp[AV.mN]
 |c::cs=>by simp[AV.mN,fR n cs]
mutual
theorem gZ (n:Nat):∀a:AV,a.au=true->a.under n=true
 |.mu _ _,h=>by simp[AV.au]at h
 |.ptr _ _ _ _,h=>by simp[AV.au]at h
 |.map _,h=>by simp[AV.au]at h
 |.agg cs,h=>by simp only[AV.au,AV.under]at *;exact nD n cs h
 |.fz cs,h=>by simp only[AV.au,AV.under]at *;exact nD n cs h
 |.fn _ a b,h=>by simp only[AV.au,AV.under,Bool.and_eq_true]at *;exact⟨nD n a h.1,nD n b h.2⟩
 |.undef,_|.gone,_|.bool _,_|.int _ _,_|.str _,_|.eC,_|.U,_|.fh,_|.gV,_|.jt,_|.cU _ _,_|.own _ _,_|.raw _ _,_|.emp,_|.n8 _ _ _ _,_=>by simp[AV.under]
theorem nD (n:Nat):∀cs:List AV,AV.ai cs=true->AV.mN n cs=true
 |[],_=>rfl
 |c::cs,h=>by
  simp only[AV.ai,Bool.and_eq_true]at h
  simp only[AV.mN,gZ n c h.1,nD n cs h.2,Bool.and_self]
end
mutual
theorem Jf {m n:Nat}(Sp:m<=n):∀a:AV,a.under m=true->a.under n=true
 |.mu _ _,h|.ptr _ _ _ _,h|.map _,h=>by simp only[AV.under,decide_eq_true_eq]at *;omega
 |.agg cs,h=>by simp only[AV.under]at *;exact nE Sp cs h
 |.fz cs,h=>by simp only[AV.under]at *;exact nE Sp cs h
 |.fn _ a b,h=>by simp only[AV.under,Bool.and_eq_true]at *;exact⟨nE Sp a h.1,nE Sp b h.2⟩
 |.undef,_|.gone,_|.bool _,_|.int _ _,_|.str _,_|.eC,_|.U,_|.fh,_|.gV,_|.jt,_|.cU _ _,_|.own _ _,_|.raw _ _,_|.emp,_|.n8 _ _ _ _,_=>by simp[AV.under]
theorem nE {m n:Nat}(Sp:m<=n):∀cs:List AV,AV.mN m cs=true->AV.mN n cs=true
 |[],_=>rfl
 |c::cs,h=>by
  simp only[AV.mN,Bool.and_eq_true]at *
  exact⟨Jf Sp c h.1,nE Sp cs h.2⟩
end
theorem aN.xg {a:AV}{v:Value}(h:aN w G a v):a.under G.ls.length=true:=by
 induction h with
 |agg cs vs hl h ih=>
  simp only[AV.under]
  refine(fR _ cs).2 λc hc=>?_
  obtain⟨i,hi,rfl⟩:=List.mem_iff_getElem.1 hc
  have oM:i<vs.size:=by omega
  exact ih i cs[i] vs[i] (List.getElem?_eq_getElem hi) (by simp[oM])
 |fz cs vs hl h ih=>
  simp only[AV.under]
  refine(fR _ cs).2 λc hc=>?_
  obtain⟨i,hi,rfl⟩:=List.mem_iff_getElem.1 hc
  have oM:i<vs.size:=by omega
  exact ih i cs[i] vs[i] (List.getElem?_eq_getElem hi) (by simp[oM])
 |mu id bU v loc hp hl hv he=>simpa [AV.under] using (List.getElem?_eq_some_iff.1 hl).1
 |ptr id bU i k v loc hp hl hv he=>simpa [AV.under] using (List.getElem?_eq_some_iff.1 hl).1
 |map id loc b hl hm hb=>simpa [AV.under] using (List.getElem?_eq_some_iff.1 hl).1
 |fn f first j3 vf vc hl hm hn h k ih ik=>
  simp only[AV.under,Bool.and_eq_true]
  refine⟨(fR _ first).2 λc hc=>?_,(fR _ j3).2 λc hc=>?_⟩
  ·obtain⟨i,hi,rfl⟩:=List.mem_iff_getElem.1 hc
   have oM:i<vf.size:=by omega
   exact ih i first[i] vf[i] (List.getElem?_eq_getElem hi) (by simp[oM])
  ·obtain⟨i,hi,rfl⟩:=List.mem_iff_getElem.1 hc
   have oM:i<vc.size:=by omega
   exact ik i j3[i] vc[i] (List.getElem?_eq_getElem hi) (by simp[oM])
 |_=>simp[AV.under]
def aM.cut (G:aM)(n:Nat):aM:=⟨G.ls.take n,G.kL⟩
theorem Ab {n i:Nat}{loc:Loc}(h:G.ls[i]?=some loc)(hi:i<n):(G.cut n).ls[i]?=some loc:=by
 simp only[aM.cut];rw[List.getElem?_take,if_pos hi];exact h
theorem aN.Bg {n:Nat}{a:AV}{v:Value}(h:aN w G a v):a.under n=true->aN w (G.cut n) a v:=by
 induction h with
 |undef=>exact λ_=>.undef
 |gone v h=>exact λ_=>.gone v h
 |bool b=>exact λ_=>.bool b
 |int k n=>exact λ_=>.int k n
 |str l s h=>exact λ_=>.str l s h
 |eC=>exact λ_=>.eC
 |U=>exact λ_=>.U
 |fh=>exact λ_=>.fh
 |gV=>exact λ_=>.gV
 |jt=>exact λ_=>.jt
 |agg cs vs hl h ih=>exact λhb=>.agg cs vs hl λi c v h1 h2=>ih i c v h1 h2 ((fR n cs).1 (by simpa [AV.under] using hb) c (cG h1))
 |fz cs vs hl h ih=>exact λhb=>.fz cs vs hl λi c v h1 h2=>ih i c v h1 h2 ((fR n cs).1 (by simpa [AV.under] using hb) c (cG h1))
 |cU sz rows a cap ot eS bn iY nA uD hc hr ih=>
  exact λ_=>.cU sz rows a cap ot eS bn iY nA uD hc λi r j c v h1 h2 h3=>ih i r j c v h1 h2 h3 (gZ n c ((fK r).1 (nA r (cG h1)) c (cG h2)))
 |own sz rows a cap ot eS bn iY nA uD hc hr gx fj ih=>
  exact λ_=>.own sz rows a cap ot eS bn iY nA uD hc (λi r j c v h1 h2 h3=>ih i r j c v h1 h2 h3 (gZ n c ((fK r).1 (nA r (cG h1)) c (cG h2)))) gx fj
 |raw sz rows a cap ot eS bn iY nA uD hc hr gx fj ih=>
  exact λ_=>.raw sz rows a cap ot eS bn iY nA uD hc (λi r j c v h1 h2 h3=>ih i r j c v h1 h2 h3 (gZ n c ((fK r).1 (nA r (cG h1)) c (cG h2)))) gx fj
 |emp a=>exact λ_=>.emp a
 |mu id bU v loc hp hl hv he=>exact λhb=>.mu id bU v loc hp (Ab hl (by simpa [AV.under] using hb)) hv he
 |ptr id bU i k v loc hp hl hv he=>exact λhb=>.ptr id bU i k v loc hp (Ab hl (by simpa [AV.under] using hb)) hv he
 |n8 sz rows i k a cap hs ih=>exact λ_=>.n8 sz rows i k a cap (ih (by simp[AV.under]))
 |map id loc b hl hm hb=>exact λlO=>.map id loc b (Ab hl (by simpa [AV.under] using lO)) hm hb
 |fn f first j3 vf vc hl hm hn h k ih ik=>
  intro hb
  simp only[AV.under,Bool.and_eq_true]at hb
  exact .fn f first j3 vf vc hl hm hn (λi c v h1 h2=>ih i c v h1 h2 ((fR n first).1 hb.1 c (cG h1))) λi c v h1 h2=>ik i c v h1 h2 ((fR n j3).1 hb.2 c (cG h1))
def fB.under (n:Nat):fB->Bool
 |.rows _ _ rs=>rs.all (AV.mN n)
 |.map es=>es.all λe=>e.1.under n&&e.2.under n
theorem nT.Bg {n:Nat}{ob:fB}{loc:Loc}(h:nT w G ob loc)(hb:ob.under n=true):nT w (G.cut n) ob loc:=by
 cases ob with
 |rows bU sz rows=>
  obtain⟨h1,h2,h3⟩:=h
  simp only[fB.under,List.all_eq_true]at hb
  refine⟨h1,h2,h3.fit,h3.z6,h3.len,h3.size,h3.qv,λi r xs e1 e2=>?_,h3.nS⟩
  obtain⟨a1,a2⟩:=h3.qP i r xs e1 e2
  exact⟨a1,λj c v g1 g2=>(a2 j c v g1 g2).Bg ((fR n r).1 (hb r (cG e1)) c (cG g1))⟩
 |map es=>
  obtain⟨h1,h2,b,tu,clock,h3,h4,h5,h6,h7⟩:=h
  simp only[fB.under,List.all_eq_true,Bool.and_eq_true]at hb
  refine⟨h1,h2,b,tu,clock,h3,h4,h5,h6,λi k v e e1 e2=>?_⟩
  obtain⟨g1,g2,g3,g4⟩:=h7 i k v e e1 e2
  have:=hb (k,v) (cG e1)
  exact⟨g1.Bg this.1,g2.Bg this.2,g3,g4⟩
theorem nT.xg {ob:fB}{loc:Loc}(h:nT w G ob loc):ob.under G.ls.length=true:=by
 cases ob with
 |rows bU sz rows=>
  obtain⟨h1,h2,h3⟩:=h
  simp only[fB.under,List.all_eq_true]
  intro r hr
  obtain⟨i,hi,rfl⟩:=List.mem_iff_getElem.1 hr
  have oM:i<loc.vals.length:=by rw[h3.qv];exact hi
  obtain⟨a1,a2⟩:=h3.qP i rows[i] loc.vals[i] (List.getElem?_eq_getElem hi) (List.getElem?_eq_getElem oM)
  refine(fR _ _).2 λc hc=>?_
  obtain⟨j,hj,rfl⟩:=List.mem_iff_getElem.1 hc
  have hj':j<loc.vals[i].length:=by omega
  exact(a2 j _ _ (List.getElem?_eq_getElem hj) (List.getElem?_eq_getElem hj')).xg
 |map es=>
  obtain⟨h1,h2,b,tu,clock,h3,h4,h5,h6,h7⟩:=h
  simp only[fB.under,List.all_eq_true,Bool.and_eq_true]
  intro x hx
  obtain⟨i,hi,rfl⟩:=List.mem_iff_getElem.1 hx
  have oM:i<tu.size:=by omega
  obtain⟨g1,g2,_,_⟩:=h7 i es[i].1 es[i].2 tu[i] (List.getElem?_eq_getElem hi) (by simp[oM])
  exact⟨g1.xg,g2.xg⟩
def Du (l:Nat)(st:an):Prop:=∀(id:Nat) ob,id<l->st[id]?=some ob->ob.under l=true
theorem Inv.abF {st:an}(h:Inv w G st):Du st.length st:=by
 intro id ob _ hob
 obtain⟨loc,hl,hr⟩:=h.loc hob
 rw[<-h.len];exact hr.xg
theorem Inv.Bg {st:an}{n:Nat}(h:Inv w G st)(hl:Du n st):Inv w (G.cut n) (st.take n) where
 len:=by simp[aM.cut,h.len]
 obj:=λid ob loc h1 h2=>by
  simp only[aM.cut]at h2
  rw[List.getElem?_take]at h1 h2
  split at h1
  ·rename_i IJ
   rw[if_pos IJ]at h2
   exact(h.obj id ob loc h1 h2).Bg (hl id ob IJ h1)
  ·cases h1
 k9:=h.k9
theorem Tm {n:Nat}(h:qa w G w' G')(hn:G.ls.length<=n):qa w G w' (G'.cut n) where
 NR:=h.NR
 ids:=λid loc hl=>by
  obtain⟨loc',a1,a2,a3⟩:=h.ids id loc hl
  exact⟨loc',Ab a1 (by have:=(List.getElem?_eq_some_iff.1 hl).1;omega),a2,a3⟩
theorem Dv (b:Nat):∀(n:Nat)(ls:List Loc)(st:an),bY b (ls.take n) (st.take n)<=bY b ls st
 |0,ls,st=>by simp[bY]
 |n+1,[],st=>by simp[bY]
 |n+1,l::ls,[]=>by simp[bY]
 |n+1,l::ls,o::st=>by
  have:=Dv b n ls st
  simp only[List.take_succ_cons,bY];omega
end Ax
namespace Ax
open Go
structure cN (wl aa:Nat)(st bP:an):Prop where
 len:st.length<=bP.length
 low:∀id,id<wl->id<st.length->bP[id]?=st[id]?
 aa:∀l,l<=aa->l<=st.length->Du l st->Du l bP
variable {wl aa:Nat}{st bP LP:an}
theorem cN.refl (wl aa:Nat)(st:an):cN wl aa st st:=⟨Nat.le_refl _,λ_ _ _=>rfl,λ_ _ _ h=>h⟩
theorem cN.trans (h:cN wl aa st bP)(k:cN wl aa bP LP):cN wl aa st LP:=
 ⟨Nat.le_trans h.len k.len,λid h1 h2=>(k.low id h1 (Nat.lt_of_lt_of_le h2 h.len)).trans (h.low id h1 h2),λl h1 h2 h3=>k.aa l h1 (Nat.le_trans h2 h.len) (h.aa l h1 h2 h3)⟩
theorem cN.push (wl aa:Nat)(st:an)(ob:fB):cN wl aa st (st++[ob]) where
 len:=by simp
 low:=λid _ h=>by rw[List.getElem?_append_left h]
 aa:=λl _ h1 h2 id F0 h3 h4=>h2 id F0 h3 (by rwa [List.getElem?_append_left (by omega)]at h4)
theorem cN.set {id:Nat}{ob F0:fB}(fm:st[id]?=some ob)(hw:wl<=id)(h:∀l,l<=aa->id<l->ob.under l=true->F0.under l=true):cN wl aa st (st.set id F0) where
 len:=by simp
 low:=λi h1 _=>by rw[List.getElem?_set,if_neg (by omega)]
 aa:=λl h1 h2 h3 i WN h4 h5=>by
  rw[List.getElem?_set]at h5
  split at h5
  ·rename_i e;subst e
   split at h5
   ·cases h5;exact h l h1 h4 (h3 _ ob h4 fm)
   ·cases h5
  ·exact h3 i WN h4 h5
theorem rP {l bU sz:Nat}{rs:List (List AV)}:(fB.rows bU sz rs).under l=true↔∀r∈rs,∀c∈r,c.under l=true:=by
 simp only[fB.under,List.all_eq_true]
 exact⟨λh r hr=>(fR l r).1 (h r hr),λh r hr=>(fR l r).2 (h r hr)⟩
theorem L9 {α:Type}{as vs:List α}{k:Nat}{x:α}(h:k+vs.length<=as.length)(hx:x∈af as k vs):x∈as\/x∈vs:=by
 rw[jd _ _ _ h]at hx
 rcases List.mem_append.1 hx with hx|hx
 ·rcases List.mem_append.1 hx with hx|hx
  ·exact .inl (List.mem_of_mem_take hx)
  ·exact .inr hx
 ·exact .inl (List.mem_of_mem_drop hx)
theorem rQ {p:AV}{cells:List AV}(h:dL wl aa st p cells=some bP)(hc:∀id bU i k,p=.ptr id bU i k->True:=λ_ _ _ _ _=>trivial):cN wl aa st bP:=by
 unfold dL at h
 split at h
 ·split at h
  ·rename_i v sz rows fm
   split at h
   ·rename_i ju
    simp only[Bool.and_eq_true,decide_eq_true_eq,bp,Bool.or_eq_true]at ju
    obtain⟨_,hw,hl⟩:=ju
    split at h
    ·rename_i r hr
     split at h
     ·rename_i bn
      cases h
      refine cN.set fm hw λl h1 h2 h3=>?_
      rw[rP]at h3 ⊢
      intro r' vu c Sk
      rcases List.mem_or_eq_of_mem_set vu with h4|h4
      ·exact h3 r' h4 c Sk
      ·subst h4
       rcases L9 bn Sk with h5|h5
       ·exact h3 r (cG hr) c h5
       ·rcases hl with hl|hl
        ·omega
        ·exact gZ l c ((fK cells).1 hl c h5)
     ·cases h
    ·cases h
   ·cases h
  ·cases h
 ·cases h
theorem Bh {sz bytes:Nat}{s:AV}{new:List (List AV)}{bx eR:aX}{r:dX}(h:yc wl aa sz bytes s new st bx=some (r,bP,eR)):cN wl aa st bP:=by
 unfold yc at h
 split at h
 ·split at h
  ·split at h
   ·cases h;exact cN.refl _ _ _
   ·split at h
    ·cases h;exact cN.push _ _ _ _
    ·cases h
  ·split at h
   ·cases h;exact cN.push _ _ _ _
   ·cases h
  ·split at h
   ·rename_i fm
    split at h
    ·rename_i hc
     simp only[Bool.and_eq_true,decide_eq_true_eq,Bool.or_eq_true,List.all_eq_true]at hc
     cases h
     refine cN.set fm hc.1.2 λl h1 h2 h3=>?_
     rw[rP]at h3 ⊢
     intro r hr c Sq
     rcases List.mem_append.1 hr with h4|h4
     ·exact h3 r h4 c Sq
     ·rcases hc.2 with h5|h5
      ·omega
      ·exact gZ l c ((fK r).1 (h5 r h4) c Sq)
    ·cases h
   ·cases h
  ·cases h
 ·cases h
theorem Jg {op:cL}{vals:List dX}{bx eR:aX}{r:dX}(h:aL wl aa op vals st bx=some (r,bP,eR)):cN wl aa st bP:=by
 cases op
 case load agg n take=>
  unfold aL at h
  simp only at h
  split at h
  ·split at h
   ·split at h
    ·split at h
     ·rename_i hw _;cases h;exact rQ hw
     ·cases h
    ·split at h
     ·cases h;exact cN.refl _ _ _
     ·cases h
   ·cases h
  ·cases h
 case store n=>
  unfold aL at h
  simp only at h
  split at h
  ·split at h
   ·split at h
    ·rename_i hw;cases h;exact rQ hw
    ·cases h
   ·cases h
  ·cases h
 case vZ sz=>
  unfold aL at h
  simp only at h
  split at h
  ·split at h
   ·rename_i fm
    split at h
    ·rename_i hc
     simp only[Bool.and_eq_true,decide_eq_true_eq]at hc
     cases h
     refine cN.set fm hc.2 λl _ _ h3=>?_
     rw[rP]at h3 ⊢
     exact λr hr=>h3 r (List.mem_of_mem_take hr)
    ·cases h
   ·cases h
  ·cases h
 case lT sz bytes=>
  unfold aL at h
  simp only at h
  split at h
  ·split at h
   ·cases h
   ·exact Bh h
  ·cases h
 case uC sz bytes zero=>
  unfold aL at h
  simp only at h
  split at h
  ·split at h
   ·exact Bh h
   ·cases h
  ·cases h
 case copy sz=>
  unfold aL at h
  simp only at h
  split at h
  ·split at h
   ·rename_i fm ov
    split at h
    ·rename_i hc
     simp only[Bool.and_eq_true,decide_eq_true_eq,Bool.or_eq_true,List.all_eq_true]at hc
     cases h
     refine cN.set fm hc.1.2 λl h1 h2 h3=>?_
     rw[rP]at h3 ⊢
     intro r hr c Sq
     rcases List.mem_append.1 hr with h4|h4
     ·rcases hc.2 with h5|h5
      ·omega
      ·exact gZ l c ((fK r).1 (h5 r h4) c Sq)
     ·exact h3 r (List.mem_of_mem_drop h4) c Sq
    ·cases h
   ·cases h
  ·cases h
 case mapUpdate kk=>
  unfold aL at h
  simp only at h
  split at h
  ·rename_i id k v
   split at h
   ·rename_i es fm
    split at h
    ·rename_i hc
     simp only[Bool.and_eq_true,bp,decide_eq_true_eq,Bool.or_eq_true]at hc
     split at h
     ·rename_i tu L6
      cases h
      refine cN.set fm hc.2.1 λl h1 h2 h3=>?_
      have hk:k.under l=true:=by
       have:=hc.1
       unfold isKey at this
       split at this<;>first|rfl|cases this
      have hv:v.view.under l=true:=by
       rcases hc.2.2 with h5|h5
       ·omega
       ·simp only[AV.ai,Bool.and_true]at h5
        exact gZ l _ (tM v h5)
      clear fm
      simp only[fB.under,List.all_eq_true,Bool.and_eq_true]at h3 ⊢
      have key:∀(es tu:List (AV×AV)),(∀x∈es,x.1.under l=true/\x.2.under l=true)->CQ kk k v.view es=some tu->∀x∈tu,x.1.under l=true/\x.2.under l=true:=by
       intro es
       induction es with
       |nil=>intro tu _ h x hx;simp[CQ]at h;subst h;simp at hx;subst hx;exact⟨hk,hv⟩
       |cons c es ih=>
        intro tu qK h
        obtain⟨a,u⟩:=c
        simp only[CQ]at h
        split at h
        ·cases h
         intro x hx
         rcases List.mem_cons.1 hx with rfl|hx
         ·exact⟨hk,hv⟩
         ·exact qK x (by simp[hx])
        ·split at h
         ·rename_i r' vu
          cases h
          intro x hx
          rcases List.mem_cons.1 hx with rfl|hx
          ·exact qK _ (by simp)
          ·exact ih r' (λx hx=>qK x (by simp[hx])) vu x hx
         ·cases h
        ·cases h
      exact key es tu h3 L6
     ·cases h
    ·cases h
   ·cases h
  ·cases h
 all_goals
  unfold aL at h
  simp only at h
  repeat' split at h
 all_goals first
  |(cases h;exact cN.refl _ _ _)
  |(cases h;exact cN.push _ _ _ _)
  |cases h
structure pz (O:jo):Prop where
 call:∀wl aa f args st v bP,O.call wl aa f args st=some (v,bP)->cN wl aa st bP
 loop:∀wl aa rs c s x s',O.loop wl aa rs c s=some (x,s')->cN wl aa s.st s'.st
variable {O:jo}
theorem Ma (hO:pz O){op:cL}{vals:List dX}{bx eR:aX}{r:dX}(h:act O wl aa op vals st bx=some (r,bP,eR)):cN wl aa st bP:=by
 have call:∀x,eY O wl aa x st bx=some (r,bP,eR)->cN wl aa st bP:=by
  intro x h
  unfold eY at h
  split at h
  ·split at h
   ·rename_i hc;cases h;exact hO.call _ _ _ _ _ _ _ hc
   ·cases h
  ·cases h
 unfold act at h
 split at h
 ·exact call _ h
 ·exact call _ h
 ·exact Jg h
theorem xh (hO:pz O){o:aZ}{s s':St}(h:evalOp O wl aa o s=some s'):cN wl aa s.st s'.st:=by
 unfold evalOp at h
 split at h
 ·cases h
 ·cases h;exact cN.refl _ _ _
 ·split at h
  ·cases h
  ·rename_i ha
   have hk:=Ma hO ha
   split at h
   ·cases h;exact hk
   ·split at h
    ·cases h;exact hk
    ·cases h
theorem vL (hO:pz O):∀{l:List aZ}{s s':St},eM O wl aa l s=some s'->cN wl aa s.st s'.st
 |[],s,s',h=>by simp only[eM,Option.some.injEq]at h;subst h;exact cN.refl _ _ _
 |o::l,s,s',h=>by
  simp only[eM]at h
  split at h
  ·rename_i s1 h1;exact(xh hO h1).trans (vL hO h)
  ·cases h
theorem vM (hO:pz O):∀{l:List aZ}{s s':St}{gw:List St},dD O wl aa l s=some (s',gw)->cN wl aa s.st s'.st
 |[],s,s',gw,h=>by simp only[dD,Option.some.injEq,Prod.mk.injEq]at h;obtain⟨rfl,_⟩:=h;exact cN.refl _ _ _
 |o::l,s,s',gw,h=>by
  simp only[dD]at h
  split at h
  ·rename_i s1 h1
   split at h
   ·rename_i h2;cases h;exact(xh hO h1).trans (vM hO h2)
   ·cases h
  ·cases h
theorem Bi (hO:pz O){l:List aZ}{bH:List (Nat×Nat)}{s s':St}(h:fH O wl aa l bH s=some s'):cN wl aa s.st s'.st:=by
 unfold fH at h
 split at h
 ·cases h
 ·rename_i hr
  split at h
  ·cases h;exact vM hO hr
  ·cases h
theorem C0 {a a':AV}(h:p7 wl a st=some (a',bP)):cN wl aa st bP:=by
 unfold p7 at h
 split at h
 ·split at h
  ·rename_i fm
   split at h
   ·rename_i hc
    simp only[Bool.and_eq_true,decide_eq_true_eq]at hc
    cases h
    exact cN.set fm hc.2 λl _ _ _=>by simp[fB.under]
   ·cases h
  ·cases h
 ·split at h
  ·cases h;exact cN.refl _ _ _
  ·cases h
theorem vN:∀{l l':List AV}{st bP:an},kA wl l st=some (l',bP)->cN wl aa st bP
 |[],l',st,bP,h=>by simp only[kA,Option.some.injEq,Prod.mk.injEq]at h;obtain⟨_,rfl⟩:=h;exact cN.refl _ _ _
 |a::l,l',st,bP,h=>by
  simp only[kA]at h
  split at h
  ·rename_i h1
   split at h
   ·rename_i h2;cases h;exact(C0 h1).trans (vN h2)
   ·cases h
  ·cases h
theorem tQ:∀{l l':List (List AV)}{st bP:an},kW wl l st=some (l',bP)->cN wl aa st bP
 |[],l',st,bP,h=>by simp only[kW,Option.some.injEq,Prod.mk.injEq]at h;obtain⟨_,rfl⟩:=h;exact cN.refl _ _ _
 |a::l,l',st,bP,h=>by
  simp only[kW]at h
  split at h
  ·rename_i h1
   split at h
   ·rename_i h2;cases h;exact(vN h1).trans (tQ h2)
   ·cases h
  ·cases h
theorem qy {a a':AV}(h:jy wl a st=some (a',bP)):cN wl aa st bP:=by
 unfold jy at h
 split at h
 ·split at h
  ·rename_i fm
   split at h
   ·rename_i hc
    simp only[Bool.and_eq_true,decide_eq_true_eq]at hc
    split at h
    ·rename_i hl
     cases h
     exact(cN.set (aa:=aa) fm hc.2 λl _ _ _=>by simp[fB.under]).trans (tQ hl)
    ·cases h
   ·cases h
  ·cases h
 ·cases h;exact cN.refl _ _ _
 ·cases h
theorem C1 {a a':AV}(h:om wl a st=some (a',bP)):cN wl aa st bP:=by
 unfold om at h
 split at h
 ·cases h;exact cN.push _ _ _ _
 ·exact qy h
theorem jf (hO:pz O){rs:List jP}:∀{c:bG}{s:St}{x:Ex}{s':St},gu O wl aa rs c s=some (x,s')->cN wl aa s.st s'.st
 |.skip,s,x,s',h=>by simp only[gu,Option.some.injEq,Prod.mk.injEq]at h;obtain⟨_,rfl⟩:=h;exact cN.refl _ _ _
 |.region ops draw dc,s,x,s',h=>by
  simp only[gu]at h
  split at h
  ·rename_i s1 h1
   cases h
   show cN wl aa s.st s1.st
   cases draw with
   |none=>exact vL hO (by simpa only using h1)
   |some bH=>exact Bi hO (by simpa only using h1)
  ·cases h
 |.seq a b,s,x,s',h=>by
  simp only[gu]at h
  split at h
  ·rename_i s1 h1;exact(jf hO h1).trans (jf hO h)
  ·exact jf hO h
 |.cond c ca a cb b,s,x,s',h=>by
  simp only[gu]at h
  split at h
  ·have:=jf (c:=a) hO h
   exact this
  ·have:=jf (c:=b) hO h
   exact this
  ·cases h
 |.block id c,s,x,s',h=>by
  simp only[gu]at h
  split at h
  ·rename_i h1
   split at h<;>(cases h;exact jf hO h1)
  ·exact jf hO h
 |.loop c,s,x,s',h=>by simp only[gu]at h;exact hO.loop _ _ _ _ _ _ _ h
 |.exit id,s,x,s',h=>by simp only[gu,Option.some.injEq,Prod.mk.injEq]at h;obtain⟨_,rfl⟩:=h;exact cN.refl _ _ _
 |.ret,s,x,s',h=>by
  simp only[gu]at h
  split at h
  ·cases h;exact cN.refl _ _ _
  ·cases h
 |.NP t,s,x,s',h=>by
  simp only[gu]at h
  split at h
  ·split at h
   ·rename_i hf;cases h;exact qy hf
   ·cases h
  ·cases h
 |.AE j k,s,x,s',h=>by
  simp only[gu]at h
  split at h
  ·split at h
   ·split at h
    ·rename_i hf;cases h;exact qy hf
    ·cases h
   ·cases h
  ·cases h
 |.vo t off,s,x,s',h=>by
  obtain⟨_,id,bU,i,k,v,v',lz,lN,_,_,g3,g4,rfl⟩:=AI h
  exact(C1 g3).trans (rQ g4)
theorem Jh:∀m:Mode,m=.pure\/m=.lS\/m=.CP:=by
 intro m
 cases m<;>simp
theorem zO (hO:pz O){sf:aC}{args:List AV}{v:AV}(h:cQ O wl aa sf args st=some (v,bP)):cN wl aa st bP:=by
 unfold cQ at h
 split at h
 ·split at h
  ·rename_i x s hs
   split at h
   ·rename_i u hu
    have hk:=jf hO hs
    simp only[oY]at hk
    rcases Jh sf.mode with hm|hm|hm
    ·rw[hm]at h
     simp only[Mode.fin]at h
     split at h
     ·cases h;exact cN.refl _ _ _
     ·cases h
    ·rw[hm]at h hk
     simp only[Mode.fin]at h
     simp only[Mode.v9,Mode.oX]at hk
     split at h
     ·cases h
      refine⟨by rw[List.length_take];have:=hk.len;omega,λid h1 h2=>?_,λl h1 h2 h3 id ob h4 h5=>?_⟩
      ·rw[List.getElem?_take,if_pos h2];exact hk.low id h1 h2
      ·rw[List.getElem?_take]at h5
       split at h5
       ·exact hk.aa l h2 h2 h3 id ob h4 h5
       ·cases h5
     ·cases h
    ·rw[hm]at h hk
     simp only[Mode.fin]at h
     cases h
     exact hk
   ·cases h
  ·cases h
 ·cases h
theorem Bj (hO:pz O){sf:aC}{args:List AV}{v:AV}(h:dO O wl aa sf args st=some (v,bP)):cN wl aa st bP:=by
 unfold dO at h
 split at h
 ·simp only[Option.map_eq_some_iff]at h
  obtain⟨x,_,hx⟩:=h
  cases hx
  exact cN.refl _ _ _
 ·exact zO hO h
theorem Dw (S:Nat->Option aC):∀n,pz (nQ S n)
 |0=>⟨λ_ _ _ _ _ _ _ h=>by simp[nQ]at h,λ_ _ _ _ _ _ _ h=>by simp[nQ]at h⟩
 |n+1=>by
  have ih:=Dw S n
  refine⟨λwl aa f args st v bP h=>?_,λwl aa rs c s x s' h=>?_⟩
  ·simp only[nQ]at h
   split at h
   ·exact Bj ih h
   ·cases h
  ·simp only[nQ]at h
   split at h
   ·rename_i s1 h1;exact(jf ih h1).trans (ih.loop _ _ _ _ _ _ _ h)
   ·exact jf ih h
end Ax
namespace Ax
open Go
variable {P:Program}{w w':World}{G G':aM}{β fQ:List k8}
abbrev ke (a:Act)(t:Nat):Value:=a.tmps.getD t undef
structure FS (w:World)(G:aM)(β:List k8)(a:Act)(η:Nat->dX)(bx:aX)(st:an)(n:Nat):Prop where
 defs:a.defers=[]
 size:n<=a.tmps.size
 rep:∀t,jF w G β (η t) (ke a t)
 lt:∀t,n<=t->η t=.none
 inv:Inv w G st
 box:jq w G β bx
def sQ (β:List k8)(a:Act)(η:Nat->dX)(bx:aX)(st:an)(G:aM)(n:Nat)(b:Nat):Nat:=
 fP (λt=>cj b (η t) (ke a t)) n+fC b β bx+bY b G.ls st
structure Mv (w:World)(G:aM)(A:Nat->Nat)(w':World)(G':aM)(A':Nat->Nat):Prop where
 iB:qa w G w' G'
 eP:∀b,b<w.heap.size->A' b<=A b
 one:∀b,A' b<=1
 tH:∀b,b<w.heap.size->A b=0->dH w G w' G' b
 size:w.heap.size<=w'.heap.size
 os:w'.os=w.os
 out:w'.output=w.output
theorem Mv.refl {A:Nat->Nat}(h:∀b,A b<=1):Mv w G A w G A:=⟨qa.refl w G,λ_ _=>Nat.le_refl _,h,λ_ _ _=>⟨rfl,rfl⟩,Nat.le_refl _,rfl,rfl⟩
theorem dH.trans {w1 w2 w3:World}{G1 G2 G3:aM}{b:Nat}(h:dH w1 G1 w2 G2 b)(k:dH w2 G2 w3 G3 b):dH w1 G1 w3 G3 b:=⟨k.1.trans h.1,k.2.trans h.2⟩
theorem Mv.trans {A A' A'':Nat->Nat}{w'':World}{G'':aM}(h:Mv w G A w' G' A')(k:Mv w' G' A' w'' G'' A''):Mv w G A w'' G'' A'' where
 iB:=h.iB.trans k.iB
 eP:=λb hb=>Nat.le_trans (k.eP b (Nat.lt_of_lt_of_le hb h.size)) (h.eP b hb)
 one:=k.one
 tH:=λb hb h0=>(h.tH b hb h0).trans (k.tH b (Nat.lt_of_lt_of_le hb h.size) (by have:=h.eP b hb;omega))
 size:=Nat.le_trans h.size k.size
 os:=k.os.trans h.os
 out:=k.out.trans h.out
theorem Mv.weaken {A A' B B':Nat->Nat}(h:Mv w G A w' G' A')(hB:∀b,A b<=B b)(hc:∀b,b<w.heap.size->B' b<=B b)(ho:∀b,B' b<=1):Mv w G B w' G' B':=
 ⟨h.iB,hc,ho,λb hb h0=>h.tH b hb (by have:=hB b;omega),h.size,h.os,h.out⟩
theorem Dx {e:dX}{v:Value}{b:Nat}(h:jF w G β e v)(hb:0<cj b e v):b<w.heap.size:=by
 cases e with
 |none=>simp[cj]at hb
 |fp j k=>simp[cj]at hb
 |val a=>exact aN.held h hb
section
variable {a:Act}{η:Nat->dX}{bx:aX}{st:an}{n:Nat}
theorem FS.held (h:FS w G β a η bx st n){b:Nat}(hb:0<sQ β a η bx st G n b):b<w.heap.size:=by
 unfold sQ at hb
 by_cases h1:0<fC b β bx
 ·exact h.box.held h1
 ·by_cases h2:0<bY b G.ls st
  ·exact h.inv.held h2
  ·have h3:0<fP (λt=>cj b (η t) (ke a t)) n:=by omega
   have key:∀n,0<fP (λt=>cj b (η t) (ke a t)) n->∃t,0<cj b (η t) (ke a t):=by
    intro n
    induction n with
    |zero=>intro h;simp[fP]at h
    |succ n ih=>
     intro h
     simp only[fP]at h
     by_cases h0:0<cj b (η n) (ke a n)
     ·exact⟨n,h0⟩
     ·exact ih (by omega)
   obtain⟨t,ht⟩:=key n h3
   exact Dx (h.rep t) ht
end
theorem jF.bx {e:dX}{v:Value}{nb:Option Nat}(h:jF w G β e v)(hb:ey nb β fQ)(hn:∀j,nb=some j->e.ny j=true):jF w G fQ e v:=by
 cases e with
 |none=>trivial
 |val a=>exact h
 |fp j k=>
  obtain⟨g,b,h1,h2,h3⟩:=h
  obtain⟨g',a1,a2⟩:=hb j g h1
  refine⟨g',b,a1,(a2 λe=>?_).trans h2,h3⟩
  have:=hn j e
  simp[dX.ny]at this
theorem jF.iB {e:dX}{v:Value}(h:jF w G β e v)(hs:qa w G w' G')(hu:∀b,0<cj b e v->dH w G w' G' b):jF w' G' β e v:=by
 cases e with
 |none=>trivial
 |val a=>exact aN.iB h hs hu
 |fp j k=>exact h
def x8 (η:Nat->dX):Src->dX
 |.tmp t true=>η t
 |.tmp t false=>(η t).view
 |.const a=>.val a
theorem Ac (env:Env)(s:Src):FZ env s=x8 (cC env) s:=by
 cases s with
 |tmp t mv=>cases mv<;>rfl
 |const a=>rfl
def rR (η:Nat->dX):Option (Nat×Bool)->Option Bool
 |none=>some true
 |some (t,b)=>match η t with
  |.val (.bool c)=>some (c==b)
  |.val .undef=>some false
  |_=>none
theorem Dy (env:Env)(g:Option (Nat×Bool)):kZ env g=rR (cC env) g:=by
 cases g with
 |none=>rfl
 |some x=>rfl
def jA (η:Nat->dX)(dst:Option Nat)(e:dX):Nat->dX:=λt=>if dst=some t then e else η t
def iS (η:Nat->dX)(l:List Nat):Nat->dX:=λt=>if t∈l then .none else η t
theorem KA {a:Act}{η:Nat->dX}(hr:∀t,jF w G β (η t) (ke a t)):∀{x:Operand}{s:Src},IU x s=true->jF w G β (x8 η s) (a.eval x)/\∀b,cj b (x8 η s) (a.eval x)<=nV (λt=>cj b (η t) (ke a t)) (ow [s])
 |.tmp t,.tmp u true,h=>by
  simp only[IU,beq_iff_eq]at h
  subst h
  exact⟨hr t,λb=>by simp only[ow,nV,x8];exact Nat.le_refl _⟩
 |.tmp t,.tmp u false,h=>by
  simp only[IU,beq_iff_eq]at h
  subst h
  exact⟨(hr t).view,λb=>by simp only[x8,Dj];omega⟩
 |.const v,.const c,h=>by
  simp only[IU]at h
  obtain⟨h1,h2,_⟩:=we h w G
  exact⟨h1,λb=>by simp only[x8,cj,eu b c _ h2];omega⟩
 |.func f,.const (.fn g [] []),h=>by
  simp only[IU,Bool.and_eq_true,beq_iff_eq,decide_eq_true_eq]at h
  obtain⟨rfl,hf⟩:=h
  exact⟨aN.fn f [] [] #[] #[] rfl rfl ⟨rfl,rfl,hf⟩ (λi c v h=>by simp at h) (λi c v h=>by simp at h),λb=>by simp[x8,cj,eP]⟩
theorem Ou (s:Src)(r:List Src):ow (s::r)=ow [s]++ow r:=by
 cases s with
 |tmp t mv=>cases mv<;>rfl
 |const a=>rfl
theorem za (f:Nat->Nat):∀(l m:List Nat),nV f (l++m)=nV f l+nV f m
 |[],m=>by simp[nV]
 |t::l,m=>by simp only[List.cons_append,nV,za f l m];omega
theorem GF {a:Act}{η:Nat->dX}(hr:∀t,jF w G β (η t) (ke a t)):∀{xs:List Operand}{ss:List Src},eU xs ss=true->jT w G β (ss.map (x8 η)) (xs.map a.eval)/\
  ∀b,kM b (ss.map (x8 η)) (xs.map a.eval)<=nV (λt=>cj b (η t) (ke a t)) (ow ss)
 |[],[],_=>⟨trivial,λb=>by simp[kM]⟩
 |x::xs,s::ss,h=>by
  simp only[eU,Bool.and_eq_true]at h
  obtain⟨h1,h2⟩:=KA hr h.1
  obtain⟨h3,h4⟩:=GF hr h.2
  refine⟨⟨h1,h3⟩,λb=>?_⟩
  have e1:=h2 b
  have e2:=h4 b
  rw[Ou,za]
  simp only[List.map_cons,kM]
  omega
 |[],_::_,h=>by simp[eU]at h
 |_::_,[],h=>by simp[eU]at h
def Ji (ops:Array Oper)(o:Oper)(so:aZ):Bool:=
 match o.guard,so.guard with
 |none,none=>true
 |some (j,b),some (t,c)=>b==c&&(match ops[j]? with|some q=>q.dst==some t|none=>false)
 |_,_=>false
def tR:List Nat->Bool
 |[]=>true
 |t::l=>!(l.contains t)&&tR l
theorem uM:∀{l:List Nat},tR l=true->l.Nodup
 |[],_=>List.nodup_nil
 |t::l,h=>by
  simp only[tR,Bool.and_eq_true,Bool.not_eq_true',List.contains_eq_mem,decide_eq_false_iff_not]at h
  exact List.nodup_cons.2 ⟨h.1,uM h.2⟩
def Dz (S:Nat->Option aC)(P:Program)(ops:Array Oper)(n:Nat)(o:Oper)(so:aZ):Bool:=
 ZZ S P o so&&Ji ops o so&&(match so.dst with|some d=>decide (d<n)|none=>true)&&tR (ow so.args)
theorem Mb {ops:Array Oper}{o:Oper}{so:aZ}{a:Act}{η:Nat->dX}{n:Nat}(hg:Ji ops o so=true)(hr:∀t,jF w G β (η t) (ke a t))(aV:∀t,n<=t->η t=.none)(dZ:n<=a.tmps.size){b:Bool}
  (hw:rR η so.guard=some b):Region.wanted o (yielded ops a.tmps)=b:=by
 unfold Ji at hg
 split at hg
 ·rename_i h1 h2
  rw[h2]at hw
  simp only[rR]at hw
  cases hw
  simp[Region.wanted,h1]
 ·rename_i j b1 t c h1 h2
  simp only[Bool.and_eq_true,beq_iff_eq]at hg
  obtain⟨rfl,hg⟩:=hg
  split at hg
  ·rename_i q hq
   simp only[beq_iff_eq]at hg
   rw[h2]at hw
   simp only[rR]at hw
   have hy:yielded ops a.tmps j=match a.tmps[t]? with|some (.bool b)=>some b|_=>none:=by
    simp only[yielded,hq,Option.bind_some,hg]
    rfl
   have Bk:=hr t
   split at hw
   ·rename_i c hc
    cases hw
    have ht:t<n:=by
     rcases Nat.lt_or_ge t n with h|h
     ·exact h
     ·rw[aV t h]at hc;cases hc
    rw[hc]at Bk
    have hv:=aN.jc Bk
    have ht':a.tmps[t]?=some (.bool c):=by
     have hs:t<a.tmps.size:=by omega
     have:a.tmps.getD t undef=a.tmps[t]:=by simp[Array.getD,hs]
     rw[<-hv,ke,this];simp[hs]
    simp only[Region.wanted,h1,hy,ht']
    rfl
   ·rename_i hc
    cases hw
    have ht:t<n:=by
     rcases Nat.lt_or_ge t n with h|h
     ·exact h
     ·rw[aV t h]at hc;cases hc
    rw[hc]at Bk
    have hv:ke a t=undef:=by
     generalize ke a t=v at Bk
     cases Bk;rfl
    have ht':a.tmps[t]?=some undef:=by
     have hs:t<a.tmps.size:=by omega
     have:a.tmps.getD t undef=a.tmps[t]:=by simp[Array.getD,hs]
     rw[<-hv,ke,this];simp[hs]
    simp only[Region.wanted,h1,hy,ht']
    rfl
   ·cases hw
  ·cases hg
 ·cases hg
end Ax
namespace Ax
open Go
variable {P:Program}{w w':World}{G G':aM}{β fQ:List k8}
def Mc (P : Program) (f : FuncId) : Prop := ∃ fn, P.funcs[f]? = some fn ∧ (fn.name == "runtime.NumGoroutine") = false ∧ fn.body.isNone = false
def jg (S:Nat->Option aC)(P:Program)(O:jo):Prop:=
 ∀wl aa f args st v bP,O.call wl aa f args st=some (v,bP)->∃sf,S f=some sf/\Mc P sf.eL/\(f<100000->sf.eL=f)/\
  ∀(w:World) (G:aM) (vs:List Value),b8 w G args vs->Inv w G st->(∀b,bR b args vs+bY b G.ls st<=1)->
   Calls P sf.eL vs.toArray w λe w'=>∃u G',e=.returned u/\aN w' G' v u/\Inv w' G' bP/\
    Mv w G (λb=>bR b args vs+bY b G.ls st) w' G' (λb=>eP b v u+bY b G'.ls bP)
theorem Bm {f:FuncId}(h:Mc P f)(args:Array Value)(w:World):(callFunc f args).run P w=.ok (.enter f args) w:=by
 obtain⟨fn,h1,h2,h3⟩:=h
 have h4 : ¬ fn.name = "runtime.NumGoroutine" := by simpa using h2
 have h5:¬fn.body=none:=by intro h;rw[h]at h3;simp at h3
 simp[callFunc,h1,h4,h5]
theorem DA {ρ:Operand->Value}{o:Oper}{c:Call}{f:FuncId}{vf vc:Array Value}{x:Operand}(ho:o.op=.call c)(hc:c.callee=.value x)(hx:ρ x=.func (.func f) vf vc)(hf:Mc P f)(w:World) :
  (execOp ρ o).run P w=.ok (.enter f (vf++c.args.map ρ++vc)) w:=by
 simp only[execOp,ho,resolve,hc,hx,Deferred.ofValue,Sem.run_bind,Sem.run_pure,Result.andThen_ok,invoke,Bm hf]
theorem Md {l:List dX}{x:Nat×List AV}(h:kV .oV l=some x):∃f first j3 l' vs,l=.val (.fn f first j3)::l'/\iz l'=some vs/\x=(f,first++vs++j3):=by
 unfold kV at h
 split at h
 ·rename_i heq;cases heq
 ·rename_i f first j3 l' _
  split at h
  ·rename_i vs CI;cases h;exact⟨f,first,j3,l',vs,rfl,CI,rfl⟩
  ·cases h
 ·cases h
section
variable {S:Nat->Option aC}{O:jo}{ops:Array Oper}{n:Nat}{o:Oper}{so:aZ}{a:Act}{η:Nat->dX}{bx eR:aX}{st bP:an}{wl aa:Nat}{e:dX}
theorem FS.after (hs:FS w G β a η bx st n)(h1:∀b,sQ β a η bx st G n b<=1){cO:Nat->Nat}(hcO:∀b,cO b=nV (λt=>cj b (η t) (ke a t)) (ow so.args))(W4:(ow so.args).Nodup)(hd:∀d,so.dst=some d->d<n){v:Value}
  (hA:iG w G β st bx cO w' G' fQ bP eR e v) (hB:ey so.op.aF β fQ) (LY:∀j,so.op.aF=some j->∀t,so.dst≠some t->t ∉ ow so.args->(η t).ny j=true) :
  FS w' G' fQ (a.put so.dst v) (jA (iS η (ow so.args)) so.dst e) eR bP n/\Mv w G (sQ β a η bx st G n) w' G' (sQ fQ (a.put so.dst v) (jA (iS η (ow so.args)) so.dst e) eR bP G' n):=by
 have L6:∀t,ke (a.put so.dst v) t=if so.dst=some t then (if t<n then v else ke (a.put so.dst v) t) else ke a t:=by
  intro t
  cases yp:so.dst with
  |none=>simp[Act.put]
  |some d=>
   have hdn:=hd d yp
   have hdt:d<a.tmps.size:=Nat.lt_of_lt_of_le hdn hs.size
   by_cases ht:d=t
   ·subst ht
    simp[Act.put,ke,hdn,hdt]
   ·simp[ht,Act.put,ke]
 have Ov:∀t,t<n->so.dst=some t->ke (a.put so.dst v) t=v:=λt h1 h2=>by rw[L6 t,if_pos h2,if_pos h1]
 have GG:∀t,so.dst≠some t->ke (a.put so.dst v) t=ke a t:=λt h=>by rw[L6 t,if_neg h]
 have EC:∀b,cO b+fP (λt=>if t∈ow so.args then 0 else cj b (η t) (ke a t)) n<=fP (λt=>cj b (η t) (ke a t)) n:=λb=>by
  rw[hcO]
  exact xd (λt ht=>by rw[hs.lt t ht];rfl) _ W4
 have kP:∀b t,so.dst≠some t->t ∉ ow so.args->0<cj b (η t) (ke a t)->cO b+fC b β bx+bY b G.ls st=0:=by
  intro b t h2 h3 h4
  have htn:t<n:=by
   rcases Nat.lt_or_ge t n with h|h
   ·exact h
   ·rw[hs.lt t h]at h4;simp[cj]at h4
  have h5:=tP (f:=λt=>if t∈ow so.args then 0 else cj b (η t) (ke a t)) htn
  simp only[if_neg h3]at h5
  have h6:=EC b
  have h7:=h1 b
  unfold sQ at h7
  omega
 have dj:∀t,so.dst≠some t->t ∉ ow so.args->jF w' G' fQ (η t) (ke a t):=λt h2 h3=>
  ((hs.rep t).iB hA.iB λb hb=>hA.tH b (kP b t h2 h3 hb) (Dx (hs.rep t) hb)).bx hB λj hj=>LY j hj t h2 h3
 have hFS:FS w' G' fQ (a.put so.dst v) (jA (iS η (ow so.args)) so.dst e) eR bP n:=by
  refine⟨?_,?_,λt=>?_,λt ht=>?_,hA.inv,hA.box⟩
  ·cases yp:so.dst<;>simp[Act.put,hs.defs]
  ·cases yp:so.dst<;>simp[Act.put,hs.size]
  ·simp only[jA,iS]
   by_cases h2:so.dst=some t
   ·rw[if_pos h2,Ov t (hd t h2) h2];exact hA.rep
   ·rw[if_neg h2,GG t h2]
    by_cases h3:t∈ow so.args
    ·rw[if_pos h3];trivial
    ·rw[if_neg h3];exact dj t h2 h3
  ·simp only[jA,iS]
   rw[if_neg (λh=>by have:=hd t h;omega)]
   rw[hs.lt t ht];simp
 have I0:∀b,sQ fQ (a.put so.dst v) (jA (iS η (ow so.args)) so.dst e) eR bP G' n b<=sQ β a η bx st G n b+(if w.heap.size<=b then 1 else 0):=by
  intro b
  have h2:=hA.eP b
  have h3:=EC b
  have h4:fP (λt=>cj b (jA (iS η (ow so.args)) so.dst e t) (ke (a.put so.dst v) t)) n<=fP (λt=>if t∈ow so.args then 0 else cj b (η t) (ke a t)) n+cj b e v:=by
   cases yp:so.dst with
   |none=>
    rw[yp]at GG
    have:fP (λt=>cj b (jA (iS η (ow so.args)) none e t) (ke (a.put none v) t)) n=fP (λt=>if t∈ow so.args then 0 else cj b (η t) (ke a t)) n:=mM λt _=>by
     rw[GG t (by simp)]
     simp only[jA,iS]
     rw[if_neg (by simp)]
     split<;>rfl
    rw[this];omega
   |some d=>
    rw[yp]at GG Ov
    have h5:=qT (f:=λt=>cj b (jA (iS η (ow so.args)) (some d) e t) (ke (a.put (some d) v) t)) (g:=λt=>if t∈ow so.args then 0 else cj b (η t) (ke a t)) (d:=d) (hd d yp) λt ht=>by
     rw[GG t (by simpa using λh=>ht h.symm)]
     simp only[jA,iS]
     rw[if_neg (by simpa using λh=>ht h.symm)]
     split<;>rfl
    have h6:cj b (jA (iS η (ow so.args)) (some d) e d) (ke (a.put (some d) v) d)=cj b e v:=by
     rw[Ov d (hd d yp) rfl];simp[jA]
    rw[h6]at h5
    omega
  unfold sQ
  omega
 refine⟨hFS,hA.iB,λb hb=>?_,λb=>?_,λb hb h0=>hA.tH b ?_ hb,hA.size,hA.os,hA.out⟩
 ·have:=I0 b
  rw[if_neg (by omega)]at this
  exact this
 ·have h2:=I0 b
  by_cases hb:w.heap.size<=b
  ·rw[if_pos hb]at h2
   have h3:sQ β a η bx st G n b=0:=by
    rcases Nat.eq_zero_or_pos (sQ β a η bx st G n b) with h|h
    ·exact h
    ·have:=hs.held h;omega
   omega
  ·rw[if_neg hb]at h2
   have:=h1 b
   omega
 ·have h2:=EC b
  unfold sQ at h0
  omega
theorem Ow {v:AV}{u:Value}{args:List AV}{vs:List Value}{cO:Nat->Nat}(hB:jq w G β bx)(hX:∀b,cO b+fC b β bx+bY b G.ls st<=1)(hc:∀b,bR b args vs<=cO b)(hr:aN w' G' v u)(hI':Inv w' G' bP)
  (hM:Mv w G (λb=>bR b args vs+bY b G.ls st) w' G' (λb=>eP b v u+bY b G'.ls bP)):iG w G β st bx cO w' G' β bP bx (.val v) u where
 iB:=hM.iB
 inv:=hI'
 box:=lA hB hM.iB λb hb=>hM.tH b (hB.held hb) (by have h1:=hX b;have h2:=hc b;omega)
 rep:=hr
 eP:=λb=>by
  simp only[cj]
  by_cases hb:w.heap.size<=b
  ·rw[if_pos hb]
   have h1:=hM.one b
   have h2:fC b β bx=0:=by
    rcases Nat.eq_zero_or_pos (fC b β bx) with h|h
    ·exact h
    ·have:=hB.held h;omega
   omega
  ·rw[if_neg hb]
   have h1:=hM.eP b (by omega)
   have h2:=hc b
   omega
 tH:=λb h0 hb=>hM.tH b hb (by have:=hc b;omega)
 size:=hM.size
 os:=hM.os
 out:=hM.out
theorem KB {Q:Exit->Act->World->Prop}{i:Nat}(hi:ops[i]?=some o)(hm:Dz S P ops n o so=true)(hO:jg S P O)(hs:FS w G β a η bx st n)(h1:∀b,sQ β a η bx st G n b<=1){K:Act->World->Prop}{b:Bool}
  (hw:rR η so.guard=some b)
  (iY:b=false->∀(a':Act),FS w G β a' (jA η so.dst (.val .undef)) bx st n->Mv w G (sQ β a η bx st G n) w G (sQ β a' (jA η so.dst (.val .undef)) bx st G n)->K a' w)
  (aga:b=true->∃e bP eR,act O wl aa so.op (so.args.map (x8 η)) st bx=some (e,bP,eR)/\(∀j,so.op.aF=some j->∀t,so.dst≠some t->t ∉ ow so.args->(η t).ny j=true)/\
   ∀(w':World) (G':aM) (fQ:List k8) (a':Act),FS w' G' fQ a' (jA (iS η (ow so.args)) so.dst e) eR bP n->Mv w G (sQ β a η bx st G n) w' G' (sQ fQ a' (jA (iS η (ow so.args)) so.dst e) eR bP G' n)->K a' w') :
  wpOp P ops Q i K a w:=by
 unfold Dz at hm
 simp only[Bool.and_eq_true]at hm
 obtain⟨⟨⟨hm,hg⟩,hd0⟩,W4⟩:=hm
 have hd:∀d,so.dst=some d->d<n:=λd hd=>by rw[hd]at hd0;simpa using hd0
 have W4:=uM W4
 have yp:o.dst=so.dst:=by
  unfold ZZ at hm
  rw[Bool.and_eq_true]at hm
  have:=hm.1
  split at this
  ·rename_i h1 h2;simp only[beq_iff_eq]at this;rw[h1,h2,this]
  ·rename_i h1 h2;rw[h1,h2]
  ·cases this
 have abI:=Mb hg hs.rep hs.lt hs.size hw
 unfold wpOp
 rw[hi]
 simp only[abI]
 cases b with
 |false=>
  simp only[Bool.false_eq_true,if_false]
  rw[yp]
  have hA:iG w G β st bx (λb=>nV (λt=>cj b (η t) (ke a t)) (ow ([]:List Src))) w G β st bx (.val .undef) undef:=iG.quiet hs.inv hs.box .undef λb=>by simp[cj,eP]
  obtain⟨f1,f2⟩:=FS.after (so:=⟨so.dst,.move,[],none⟩) hs h1 (λb=>rfl) List.nodup_nil hd hA (ey.refl _ _) (λj hj=>by simp[cL.aF]at hj)
  have hk:iS η (ow ([]:List Src))=η:=by funext t;simp[iS,ow]
  simp only[hk]at f1 f2
  exact iY rfl _ f1 f2
 |true=>
  obtain⟨e,bP,eR,ha,LY,hK⟩:=aga rfl
  simp only[if_true]
  refine .inl ?_
  have hX:∀b,nV (λt=>cj b (η t) (ke a t)) (ow so.args)+fC b β bx+bY b G.ls st<=1:=λb=>by
   have h2:=xd (f:=λt=>cj b (η t) (ke a t)) (n:=n) (λt ht=>by rw[hs.lt t ht];rfl) _ W4
   have h3:=h1 b
   unfold sQ at h3
   omega
  have hA:∀xs,eU xs so.args=true->jT w G β (so.args.map (x8 η)) (xs.map a.eval)/\∀b,kM b (so.args.map (x8 η)) (xs.map a.eval)<=nV (λt=>cj b (η t) (ke a t)) (ow so.args):=λxs VN=>GF hs.rep VN
  have plain:aL wl aa so.op (so.args.map (x8 η)) st bx=some (e,bP,eR)->o.wp P a w K Q:=by
   intro ha
   obtain⟨nx,v,w',G',fQ,e1,e2,e3,e4⟩:=WZ hm hs.inv hs.box hX hA ha
   obtain⟨f1,f2⟩:=FS.after hs h1 (λb=>rfl) W4 hd e3 e4 LY
   have hk:=hK w' G' fQ _ f1 f2
   unfold Oper.wp
   rw[e1]
   rcases e2 with rfl|⟨rfl,rfl⟩
   ·rw[Oper.upon_value,yp];exact hk
   ·rw[Oper.upon_skip,yp];exact hk
  have call:∀(f i:Nat) (vs:List AV) (us:List Value) (G0:Prop),eY O wl aa (some (i,vs)) st bx=some (e,bP,eR)->b8 w G vs us->(∀b,bR b vs us<=nV (λt=>cj b (η t) (ke a t)) (ow so.args))->so.op.aF=none->
    (∀sf,S i=some sf->(i<100000->sf.eL=i)->sf.eL=f)->(Mc P f->(execOp a.eval o).run P w=.ok (.enter f us.toArray) w)->o.wp P a w K Q:=by
   intro f i vs us _ hc dj CJ Sr Z4 hex
   unfold eY at hc
   simp only at hc
   split at hc
   ·rename_i v lz dw
    cases hc
    obtain⟨sf,s1,s2,s3,s4⟩:=hO _ _ _ _ _ _ _ dw
    have hf:=Z4 sf s1 s3
    rw[hf]at s2 s4
    have W5:=s4 w G us dj hs.inv λb=>by have h2:=hX b;have h3:=CJ b;omega
    unfold Oper.wp
    rw[hex s2,Oper.upon_enter]
    refine W5.mono λen w' hen=>?_
    obtain⟨u,G',rfl,r1,r2,r3⟩:=hen
    have hA1:=Ow hs.box hX CJ r1 r2 r3
    obtain⟨f1,f2⟩:=FS.after hs h1 (λb=>rfl) W4 hd hA1 (ey.refl _ _) LY
    have hk:=hK w' G' β _ f1 f2
    simp only
    rw[yp]
    exact hk
   ·cases hc
  unfold act at ha
  split at ha
  ·rename_i i Tn
   unfold ZZ at hm
   rw[Bool.and_eq_true]at hm
   replace hm:=hm.2
   rw[Tn]at hm
   simp only[kV]at ha
   cases CI:iz (so.args.map (x8 η)) with
   |none=>rw[CI]at ha;simp[eY]at ha
   |some vs=>
    rw[CI]at ha
    split at hm<;>first|(rename_i h1 h2;cases h2;done)|(rename_i h2;cases h2;done)|(rename_i h1 h2;cases h1;done)|skip
    ·rename_i c i' W6 heq
     cases heq
     split at hm
     ·rename_i f rN
      simp only[Bool.and_eq_true]at hm
      obtain⟨hms,hmf⟩:=hm
      obtain⟨hR,hC⟩:=hA _ hms
      obtain⟨r1,r2⟩:=hR.L8 CI
      refine call f i vs _ True ha r1 (λb=>by rw[<-r2];exact hC b) (by rw[Tn];rfl) (λsf h1 h2=>?_) λhF=>?_
      ·rw[h1]at hmf;simpa using hmf
      ·have:=DA (ρ:=a.eval) W6 rN (show a.eval (.func f)=.func (.func f) #[] #[] from rfl) hF w
       rw[this]
       congr 2
       apply Array.ext'
       simp
     ·cases hm
    ·cases hm
  ·rename_i Tn
   unfold ZZ at hm
   rw[Bool.and_eq_true]at hm
   replace hm:=hm.2
   rw[Tn]at hm
   split at hm<;>first|(rename_i h1 h2;cases h2;done)|(rename_i h2;cases h2;done)|(rename_i h1 h2;cases h1;done)|skip
   ·rename_i c W6 heq
    split at hm
    ·rename_i x rN
     obtain⟨hR,hC⟩:=hA _ hm
     cases wo:kV .oV (so.args.map (x8 η)) with
     |none=>rw[wo]at ha;simp[eY]at ha
     |some y=>
      rw[wo]at ha
      obtain⟨f,first,j3,l,vs,VR,CI,rfl⟩:=Md wo
      rw[VR]at hR hC
      simp only[List.map_cons]at hR hC
      obtain⟨hR0,hRl⟩:=hR
      obtain⟨r1,r2⟩:=jT.L8 hRl CI
      simp only[jF]at hR0
      generalize Gd:a.eval x=xv at hR0 hC
      cases hR0 with
      |fn _ _ _ vf vc hl hm' hn hh qL=>
      refine call f f (first++vs++j3) (vf.toList++c.args.toList.map a.eval++vc.toList) True ha ((b8.append ⟨by simpa using hl,λi c v e1 e2=>hh i c v e1 (by simpa using e2)⟩ r1).append ⟨by simpa using hm',λi c v e1 e2=>qL i c v e1 (by simpa using e2)⟩) (λb=>?_) (by rw[Tn];rfl) (λsf h1 h2=>h2 hn.2.2) λhF=>?_
      ·rw[eW b _ _ _ _ (by simp only[List.length_append,hl,r1.1];simp),eW b _ _ _ _ (by simpa using hl),cW b _ _ hn.1,cW b _ _ hn.2.1]
       have h2:=hC b
       have h3:=r2 b
       simp only[kM]at h2
       omega
      ·have:=DA (ρ:=a.eval) W6 rN Gd hF w
       rw[this]
       congr 2
       apply Array.ext'
       simp
    ·cases hm
   ·cases hm
  ·exact plain ha
end
end Ax
namespace Ax
open Go
variable {P:Program}{w w':World}{G G':aM}{β fQ:List k8}
variable {S:Nat->Option aC}{O:jo}{a:Act}{bx:aX}{st:an}{n wl aa:Nat}{s s':St}{η:Nat->dX}
abbrev FT (w:World)(G:aM)(β:List k8)(a:Act)(s:St)(n:Nat):Prop:=FS w G β a (cC s.env) s.bx s.st n
abbrev fS (β:List k8)(a:Act)(s:St)(G:aM)(n:Nat):Nat->Nat:=sQ β a (cC s.env) s.bx s.st G n
theorem FS.congr {NB:Nat->dX}(h:FS w G β a η bx st n)(he:∀t,NB t=η t):FS w G β a NB bx st n:=by
 have:NB=η:=funext he
 rw[this];exact h
theorem FS.forget {NB:Nat->dX}(h:FS w G β a η bx st n)(he:∀t,NB t=η t\/NB t=.none):FS w G β a NB bx st n/\∀b,sQ β a NB bx st G n b<=sQ β a η bx st G n b:=by
 refine⟨⟨h.defs,h.size,λt=>?_,λt ht=>?_,h.inv,h.box⟩,λb=>?_⟩
 ·rcases he t with e|e
  ·rw[e];exact h.rep t
  ·rw[e];trivial
 ·rcases he t with e|e
  ·rw[e];exact h.lt t ht
  ·exact e
 ·unfold sQ
  have:=Aa (f:=λt=>cj b (NB t) (ke a t)) (g:=λt=>cj b (η t) (ke a t)) (n:=n) λt _=>by
   rcases he t with e|e
   ·rw[e];exact Nat.le_refl _
   ·rw[e];simp[cj]
  omega
theorem jv (env:Env)(dst:Option Nat)(e:dX):cC (vp env dst e)=jA (cC env) dst e:=by
 funext t
 cases dst with
 |none=>simp[vp,jA]
 |some d=>
  simp only[vp,jA,tO,Option.some.injEq]
  by_cases h:t=d
  ·rw[if_pos h,if_pos h.symm]
  ·rw[if_neg h,if_neg λe=>h e.symm]
theorem rS (env:Env)(ss:List Src):cC (ss.foldl kU env)=iS (cC env) (ow ss):=by
 funext t
 rw[qS]
 rfl
theorem Me {ops:Array Oper}{o:Oper}{so:aZ}{Q:Exit->Act->World->Prop}{i:Nat}(hi:ops[i]?=some o)(hm:Dz S P ops n o so=true)(hO:jg S P O)(hs:FT w G β a s n)(h1:∀b,fS β a s G n b<=1){K:Act->World->Prop}
  (he:evalOp O wl aa so s=some s') (hK:∀(w':World) (G':aM) (fQ:List k8) (a':Act),FT w' G' fQ a' s' n->Mv w G (fS β a s G n) w' G' (fS fQ a' s' G' n)->K a' w'):wpOp P ops Q i K a w:=by
 unfold evalOp at he
 rw[Dy]at he
 split at he
 ·cases he
 ·rename_i hw
  cases he
  refine KB (wl:=wl) (aa:=aa) hi hm hO hs h1 hw (λ_ a' f1 f2=>?_) (λh=>by cases h)
  refine hK w G β a' ?_ ?_
  ·rw[FT,jv];exact f1
  ·rw[show fS β a' { s with env:=vp s.env so.dst (.val .undef) } G n=sQ β a' (jA (cC s.env) so.dst (.val .undef)) s.bx s.st G n by rw[fS,jv]]
   exact f2
 ·rename_i hw
  have vH:so.args.map (FZ s.env)=so.args.map (x8 (cC s.env)):=List.map_congr_left λx _=>Ac s.env x
  rw[vH]at he
  split at he
  ·cases he
  ·rename_i e bP eR ha
   have fin:∀(w':World) (G':aM) (fQ:List k8) (a':Act),s'=⟨vp (so.args.foldl kU s.env) so.dst e,eR,bP⟩->FS w' G' fQ a' (jA (iS (cC s.env) (ow so.args)) so.dst e) eR bP n->
     Mv w G (sQ β a (cC s.env) s.bx s.st G n) w' G' (sQ fQ a' (jA (iS (cC s.env) (ow so.args)) so.dst e) eR bP G' n)->K a' w':=by
    intro w' G' fQ a' zH f1 f2
    subst zH
    refine hK w' G' fQ a' ?_ ?_
    ·rw[FT,jv,rS];exact f1
    ·rw[show fS fQ a' ⟨vp (so.args.foldl kU s.env) so.dst e,eR,bP⟩ G' n=sQ fQ a' (jA (iS (cC s.env) (ow so.args)) so.dst e) eR bP G' n by rw[fS,jv,rS]]
     exact f2
   split at he
   ·rename_i Sr
    cases he
    exact KB hi hm hO hs h1 hw (λh=>by cases h) λ_=>⟨e,bP,eR,ha,(λj hj=>by rw[Sr]at hj;cases hj),λw' G' fQ a' f1 f2=>fin w' G' fQ a' rfl f1 f2⟩
   ·rename_i j Sr
    split at he
    ·rename_i LY
     cases he
     refine KB hi hm hO hs h1 hw (λh=>by cases h) λ_=>⟨e,bP,eR,ha,λj' hj t Kz ht2=>?_,λw' G' fQ a' f1 f2=>fin w' G' fQ a' rfl f1 f2⟩
     rw[Sr]at hj;cases hj
     have:=Bf LY t
     rw[jv,rS]at this
     simp only[jA,iS]at this
     rw[if_neg Kz,if_neg ht2]at this
     exact this
    ·cases he
def pA (S:Nat->Option aC)(P:Program)(ops:Array Oper)(n:Nat):List Oper->List aZ->Bool
 |[],[]=>true
 |o::l,so::m=>Dz S P ops n o so&&pA S P ops n l m
 |_,_=>false
theorem Bn {ops:Array Oper}{Q:Exit->Act->World->Prop}(hO:jg S P O):∀(l:List Oper)(m:List aZ)(k:Nat)(w:World)(G:aM)(β:List k8)(a:Act)(s:St),ops.toList.drop k=l->pA S P ops n l m=true->
  FT w G β a s n->(∀b,fS β a s G n b<=1)->eM O wl aa m s=some s'->(∀(w':World) (G':aM) (fQ:List k8) (a':Act),FT w' G' fQ a' s' n->Mv w G (fS β a s G n) w' G' (fS fQ a' s' G' n)->Q .normal a' w')->
  wpOps P ops Q (List.range' k l.length) a w
 |[],[],k,w,G,β,a,s,hl,hm,hs,h1,he,hQ=>by
  simp only[eM,Option.some.injEq]at he
  subst he
  simp only[List.length_nil,List.range'_zero,wpOps]
  exact hQ w G β a hs (Mv.refl h1)
 |o::l,so::m,k,w,G,β,a,s,hl,hm,hs,h1,he,hQ=>by
  simp only[pA,Bool.and_eq_true]at hm
  simp only[eM]at he
  split at he
  ·rename_i s1 y9
   simp only[List.length_cons,List.range'_succ]
   rw[wpOps_cons]
   have hi:ops[k]?=some o:=by
    have:(ops.toList.drop k)[0]?=some o:=by rw[hl];rfl
    rw[List.getElem?_drop]at this
    simpa using this
   refine Me hi hm.1 hO hs h1 y9 λw1 G1 β1 a1 f1 f2=>?_
   refine Bn hO l m (k+1) w1 G1 β1 a1 s1 ?_ hm.2 f1 f2.one he λw2 G2 Ox a2 g1 g2=>hQ w2 G2 Ox a2 g1 (f2.trans g2)
   rw[show k+1=k+1 from rfl,<-List.drop_drop,hl]
   rfl
  ·cases he
 |[],_::_,_,_,_,_,_,_,_,hm,_,_,_,_=>by simp[pA]at hm
 |_::_,[],_,_,_,_,_,_,_,hm,_,_,_,_=>by simp[pA]at hm
def wz (P:Program):List ResultVar->List jP->Bool
 |[],[]=>true
 |.tmp t::l,.tmp u _::m=>t==u&&wz P l m
 |.cell t ty::l,.box u _ n agg::m=>t==u&&ck P ty n&&lV P ty==some agg&&(agg||n==1)&&wz P l m
 |.cell t ty::l,.cell u n agg::m=>t==u&&ck P ty n&&lV P ty==some agg&&(agg||n==1)&&wz P l m
 |_,_=>false
def nW:List jP->List Nat
 |[]=>[]
 |.tmp t true::l=>t::nW l
 |_::l=>nW l
def Bo:List jP->List Nat
 |[]=>[]
 |.box _ j _ _::l=>j::Bo l
 |_::l=>Bo l
end Ax
namespace Ax
open Go
variable {P:Program}{w w':World}{G G':aM}{β fQ:List k8}
variable {a:Act}{bx:aX}{st:an}{n:Nat}{s:St}
def Bp (tmps:Array Value):ResultVar->Sem Value
 |.tmp t=>pure (tmps.getD t undef)
 |.cell c t=>do loadVar t (<-asAddr (tmps.getD c undef))
def Mf (us:List Value):Value:=match us with | [u]=>u|_=>.tuple us.toArray
theorem GH {fn:Func}{tmps:Array Value}{us:List Value}(h:(fn.results.toList.mapM (Bp tmps)).run P w=.ok us w):(results fn tmps).run P w=.ok (Mf us) w:=by
 have h2:(fn.results.mapM (Bp tmps)).run P w=.ok us.toArray w:=by
  have e:fn.results.mapM (Bp tmps)=List.toArray <$> fn.results.toList.mapM (Bp tmps):=by
   rw[Array.mapM_eq_mapM_toList]
  rw[e,map_eq_pure_bind,Sem.run_bind,h]
  rfl
 have e3:results fn tmps=(fn.results.mapM (Bp tmps)).bind λvs=>Pure.pure (if h:vs.size=1 then vs[0] else .tuple vs):=rfl
 rw[e3]
 show Sem.run P (fn.results.mapM (Bp tmps) >>= λvs=>Pure.pure (if h:vs.size=1 then vs[0] else .tuple vs)) w=_
 rw[Sem.run_bind,h2]
 simp only[Result.andThen_ok,Sem.run_pure]
 congr 1
 match us with
 |[]=>simp[Mf]
 |[u]=>simp[Mf]
 |_::_::_=>simp[Mf]
def qU (b:Nat)(β:List k8)(bx:aX)(j:Nat):Nat:=match β[j]?,bx[j]? with|some g,some r=>bR b r g.vals|_,_=>0
theorem GI (b:Nat):∀(β:List k8)(bx:aX),fP (qU b β bx) bx.length<=fC b β bx
 |β,[]=>by simp[fP]
 |[],r::bx=>by
  have:fP (qU b [] (r::bx)) (r::bx).length=fP (λ_=>0) (r::bx).length:=mM λt _=>by simp[qU]
  rw[this,Dt];omega
 |g::β,r::bx=>by
  have ih:=GI b β bx
  have shift:∀m,fP (qU b (g::β) (r::bx)) (m+1)=qU b (g::β) (r::bx) 0+fP (qU b β bx) m:=by
   intro m
   induction m with
   |zero=>simp[fP]
   |succ m ih=>
    have:fP (qU b (g::β) (r::bx)) (m+1+1)=fP (qU b (g::β) (r::bx)) (m+1)+qU b (g::β) (r::bx) (m+1):=rfl
    rw[this,ih]
    have e:qU b (g::β) (r::bx) (m+1)=qU b β bx m:=by simp[qU]
    rw[e]
    simp only[fP];omega
  simp only[List.length_cons]
  rw[shift]
  have e:qU b (g::β) (r::bx) 0=bR b r g.vals:=by simp[qU]
  rw[e]
  simp only[fC]
  omega
theorem b8.cons {a:AV}{as:List AV}{x:Value}{xs:List Value}(h:aN w G a x)(k:b8 w G as xs):b8 w G (a::as) (x::xs):=
 ⟨by simp[k.1],λi c v e1 e2=>by
  cases i with
  |zero=>simp at e1 e2;subst e1;subst e2;exact h
  |succ i=>exact k.2 i c v (by simpa using e1) (by simpa using e2)⟩
theorem zb {t:TypeId}{n:Nat}{agg:Bool}(hn:ck P t n=true)(qw:lV P t=some agg){b off:Nat}{xs:List Value}(hlen:xs.length=n)(kP:agg=false->n=1)
  (hc:∀(j:Nat) x,xs[j]?=some x->w.cell? ⟨b,off+j,none⟩=some x):(loadVar t ⟨b,off,none⟩).run P w=.ok (if agg then .agg xs.toArray else xs.headD undef) w:=by
 have:=AQ (P:=P) hn qw hlen kP hc
 simpa [Instr.loadAt,Instr.sureAddr] using this
theorem DB (hs:FT w G β a s n):∀(l:List ResultVar)(rs:List jP)(vs:List AV),wz P l rs=true->v7 s rs=some vs->
  ∃us,(l.mapM (Bp a.tmps)).run P w=.ok us w/\b8 w G vs us/\∀b,bR b vs us<=nV (λt=>cj b (cC s.env t) (ke a t)) (nW rs)+nV (qU b β s.bx) (Bo rs)
 |[],[],vs,_,hr=>by
  simp only[v7,Option.some.injEq]at hr
  subst hr
  exact⟨[],rfl,⟨rfl,λi c v h=>by simp at h⟩,λb=>by simp[bR]⟩
 |x::l,r::rs,vs,hm,hr=>by
  simp only[v7]at hr
  split at hr
  ·rename_i v vs' C2 hr2
   cases hr
   have one:∃u,(Bp a.tmps x).run P w=.ok u w/\aN w G v u/\wz P l rs=true/\∀b,eP b v u+(nV (λt=>cj b (cC s.env t) (ke a t)) (nW rs)+nV (qU b β s.bx) (Bo rs))<=
     nV (λt=>cj b (cC s.env t) (ke a t)) (nW (r::rs))+nV (qU b β s.bx) (Bo (r::rs)):=by
    cases x with
    |tmp t=>
     cases r with
     |tmp u mv=>
      simp only[wz,Bool.and_eq_true,beq_iff_eq]at hm
      obtain⟨rfl,hm⟩:=hm
      simp only[AF]at C2
      rw[Ac]at C2
      split at C2
      ·rename_i v' hv
       cases C2
       have Bk:=hs.rep t
       refine⟨ke a t,by simp[Bp],?_,hm,λb=>?_⟩
       ·cases mv with
        |true=>simp only[x8]at hv;rw[hv]at Bk;exact Bk
        |false=>have:=Bk.view;simp only[x8]at hv;rw[hv]at this;exact this
       ·cases mv with
        |true=>simp only[x8]at hv;simp only[nW,Bo,nV,hv,cj];omega
        |false=>
         simp only[x8]at hv
         have h0:=Dj b (cC s.env t) (ke a t)
         rw[hv]at h0
         simp only[cj]at h0
         simp only[nW,Bo];omega
      ·cases C2
     |box u j m agg=>simp[wz]at hm
     |cell u m agg=>simp[wz]at hm
    |cell t ty=>
     cases r with
     |tmp u mv=>simp[wz]at hm
     |box u j m agg=>
      simp only[wz,Bool.and_eq_true,beq_iff_eq]at hm
      obtain⟨⟨⟨⟨rfl,hn⟩,qw⟩,kP⟩,hm⟩:=hm
      simp only[AF]at C2
      split at C2
      ·rename_i i row LY cR
       split at C2
       ·rename_i zG
        simp only[Bool.and_eq_true,decide_eq_true_eq]at zG
        obtain⟨rfl,hlen⟩:=zG
        have hp:=hs.rep t
        rw[LY]at hp
        obtain⟨g,b0,c,e,hg,fj,Gq,s7,eH,hle,gx,dh⟩:=Ev hs.box hp cR
        obtain⟨u,hu,k1,k2,_⟩:=z7 C2 s7.rep
        have hl:=zb (P:=P) hn qw (by rw[<-s7.rep.1];exact hlen) (λh=>by subst h;simpa using kP) (b:=b0) (off:=0) (λj x hx=>by rw[Nat.zero_add];exact dh j x hx)
        refine⟨u,?_,k1,hm,λb=>?_⟩
        ·simp only[Bp,Sem.run_bind]
         rw[show a.tmps.getD t undef=.pointer (some ⟨b0,0,none⟩) from Gq]
         simp only[asAddr,Sem.run_pure,Result.andThen_ok,hl,hu]
        ·rw[k2 b]
         simp only[nW,Bo,nV,qU,hg,cR];omega
       ·cases C2
      ·cases C2
     |cell u m agg=>
      simp only[wz,Bool.and_eq_true,beq_iff_eq]at hm
      obtain⟨⟨⟨⟨rfl,hn⟩,qw⟩,kP⟩,hm⟩:=hm
      simp only[AF]at C2
      split at C2
      ·rename_i p Ks
       split at C2
       ·rename_i cs A5
        have hp:=hs.rep t
        rw[Ks]at hp
        obtain⟨b0,off,xs,g1,g2,g3,g4⟩:=Gh hs.inv A5 hp
        obtain⟨u,hu,k1,k2,_⟩:=z7 C2 g3.view
        have hl:=zb (P:=P) hn qw g2 (λh=>by subst h;simpa using kP) g4
        refine⟨u,?_,k1,hm,λb=>?_⟩
        ·simp only[Bp,Sem.run_bind]
         rw[show a.tmps.getD t undef=.pointer (some ⟨b0,off,none⟩) from g1]
         simp only[asAddr,Sem.run_pure,Result.andThen_ok,hl,hu]
        ·rw[k2 b,cW b _ _ (fJ cs)]
         simp only[nW,Bo];omega
       ·cases C2
      ·cases C2
   obtain⟨u,h1,h2,h3,h4⟩:=one
   obtain⟨us,k1,k2,k3⟩:=DB hs l rs vs' h3 hr2
   refine⟨u::us,?_,b8.cons h2 k2,λb=>?_⟩
   ·rw[List.mapM_cons]
    simp only[Sem.run_bind,h1,Result.andThen_ok,k1,Sem.run_pure]
   ·have e1:=h4 b
    have e2:=k3 b
    simp only[bR]
    omega
  ·cases hr
 |[],_::_,_,hm,_=>by simp[wz]at hm
 |x::_,[],_,hm,_=>by cases x<;>simp[wz]at hm
end Ax
namespace Ax
open Go
section
variable {K V:Type}
def nF (init:K->V)(wN:Nat->K->Option V)(D:Nat->Bool):Nat->K->V
 |0,x=>init x
 |k+1,x=>if D k then (wN k x).getD (nF init wN D k x) else nF init wN D k x
variable {init:K->V}{wN:Nat->K->Option V}
theorem lB {D D':Nat->Bool}{x:K}:∀{N:Nat},(∀k,k<N->D k≠D' k->wN k x=none)->nF init wN D N x=nF init wN D' N x
 |0,_=>rfl
 |N+1,h=>by
  have ih:=lB (N:=N) λk hk=>h k (by omega)
  have hN:=h N (by omega)
  simp only[nF,ih]
  cases h1:D N<;>cases h2:D' N
  ·rfl
  ·rw[hN (by rw[h1,h2];simp)];simp
  ·rw[hN (by rw[h1,h2];simp)];simp
  ·rfl
theorem yq {D:Nat->Bool}{x:K}{j:Nat}:∀{N:Nat},j<=N->(∀k,j<=k->k<N->D k=true->wN k x=none)->nF init wN D N x=nF init wN D j x
 |0,hj,_=>by
  have:j=0:=by omega
  subst this;rfl
 |N+1,hj,h=>by
  by_cases hjN:j=N+1
  ·subst hjN;rfl
  ·have ih:=yq (N:=N) (j:=j) (by omega) λk h1 h2=>h k h1 (by omega)
   simp only[nF]
   cases hD:D N
   ·simpa using ih
   ·rw[h N (by omega) (by omega) hD];simpa using ih
theorem GJ {D D':Nat->Bool}{x:K}{j N:Nat}(hj:j<N)(hD:D j=false)(hD':∀k,D' k=if k=j then true else D k)(h:∀k,j<k->k<N->D k=true->wN j x≠none->wN k x=none) :
  nF init wN D' N x=(wN j x).getD (nF init wN D N x):=by
 cases he:wN j x with
 |none=>
  simp only[Option.getD_none]
  refine lB λk hk iQ=>?_
  have:=hD' k
  by_cases hkj:k=j
  ·subst hkj;exact he
  ·rw[if_neg hkj]at this;exact absurd this iQ
 |some v=>
  simp only[Option.getD_some]
  have h1:nF init wN D' N x=nF init wN D' (j+1) x:=yq (by omega) λk h1 h2 h3=>by
   refine h k (by omega) h2 ?_ (by rw[he];simp)
   have:=hD' k
   rw[if_neg (by omega)]at this
   rw[<-this];exact h3
  rw[h1]
  have Tj:D' j=true:=by rw[hD' j,if_pos rfl]
  simp only[nF,Tj,if_true,he,Option.getD_some]
theorem yu {st:Nat->K->V}{N:Nat}(h0:∀x,st 0 x=init x)(hs:∀k,k<N->∀x,st (k+1) x=(wN k x).getD (st k x)):∀{j:Nat},j<=N->∀x,nF init wN (λk=>decide (k<j)) N x=st j x:=by
 have key:∀m,m<=N->∀x,nF init wN (λ_=>true) m x=st m x:=by
  intro m
  induction m with
  |zero=>intro _ x;exact(h0 x).symm
  |succ m ih=>
   intro hm x
   simp only[nF,if_true]
   rw[ih (by omega) x,hs m (by omega) x]
 intro j hj x
 rw[yq (j:=j) hj λk h1 h2 h3=>by simp at h3;omega]
 rw[lB (D':=λ_=>true) λk hk iQ=>by simp[hk]at iQ]
 exact key j hj x
end
end Ax
namespace Ax
open Go
def cL.nP (S:Nat->Option aC):cL->Bool
 |.SE .. | .alloc _|.box _|.store _|.lT .. | .uC .. | .makeMap|.mapUpdate _|.vZ _|.copy _|.oV=>true
 |.load _ _ take=>take
 |.rD _ _ _ mt=>mt
 |.call f=>match S f with|some sf=>(match sf.mode with|.pure=>false|_=>true)|none=>true
 |_=>false
def cL.Jj:cL->Bool
 |.move|.pick|.bin _|.eqv .. | .un _|.conv _|.Ee _|.nilCheck|.extract _|.field .. | .build .. | .lit .. | .fieldAddr _|.index|.aj .. | .ag .. | .aE .. | .dW .. | .append .. | .makeFunc .. | .z5 .. | .SF=>true
 |.rD _ _ _ mt=>!mt
 |_=>false
def cL.bA:cL->Option Nat
 |.aj j _ _ _|.ag j _|.aE j _|.dW j _=>some j
 |_=>none
def cL.bW:cL->Option Nat
 |.aj j _ _ take=>if take then some j else none
 |.ag j _|.aE j _|.dW j _=>some j
 |_=>none
variable {wl aa:Nat}{st bP:an}{bx eR:aX}{vals:List dX}{e:dX}{S:Nat->Option aC}{O:jo}{op:cL}
theorem Oy (hw:op.nP S=false)(h:aL wl aa op vals st bx=some (e,bP,eR)):bP=st:=by
 cases op
 case load agg n take=>
  simp only[cL.nP]at hw
  subst hw
  unfold aL at h
  simp only[Bool.false_eq_true,if_false]at h
  repeat' split at h
  all_goals first|(cases h;rfl)|cases h
 case rD sz bytes zero mt=>
  simp only[cL.nP]at hw
  subst hw
  unfold aL at h
  simp only[Bool.false_eq_true,if_false]at h
  repeat' split at h
  all_goals first|(cases h;rfl)|cases h
 all_goals first
  |(simp[cL.nP]at hw;done)
  |(unfold aL at h;simp only at h;repeat' split at h)
 all_goals first|(cases h;rfl)|cases h
theorem Oz (hn:op.Jj=true)(lN:an):aL wl aa op vals lN bx=(aL wl aa op vals st bx).map λx=>(x.1,lN,x.2.2):=by
 cases op
 case rD sz bytes zero mt=>
  simp only[cL.Jj,Bool.not_eq_true']at hn
  subst hn
  unfold aL
  simp only[Bool.false_eq_true,if_false]
  repeat' split
  all_goals rfl
 all_goals first
  |(simp[cL.Jj]at hn;done)
  |(unfold aL;(try unfold yc);simp only;repeat' split)
 all_goals first|rfl|simp_all
theorem GK (hb:op.bA=none)(wA:aX):aL wl aa op vals st wA=(aL wl aa op vals st bx).map λx=>(x.1,x.2.1,wA):=by
 cases op
 all_goals first
  |(simp[cL.bA]at hb;done)
  |(unfold aL;(try unfold yc);simp only;repeat' split)
 all_goals first|rfl|simp_all
structure zd (S:Nat->Option aC)(O:jo):Prop where
 call:∀wl aa f args st v bP sf,O.call wl aa f args st=some (v,bP)->S f=some sf->sf.mode=.pure->bP=st
theorem GM (S:Nat->Option aC)(n:Nat):zd S (nQ S n):=by
 refine⟨λwl aa f args st v bP sf h hS hm=>?_⟩
 cases n with
 |zero=>simp[nQ]at h
 |succ n=>
  simp only[nQ,hS]at h
  unfold dO at h
  split at h
  ·simp only[Option.map_eq_some_iff]at h
   obtain⟨x,_,hx⟩:=h
   cases hx
   rfl
  unfold cQ at h
  split at h
  ·split at h
   ·split at h
    ·rw[hm]at h
     simp only[Mode.fin]at h
     split at h
     ·cases h;rfl
     ·cases h
    ·cases h
   ·cases h
  ·cases h
theorem KC (hO:zd S O)(hw:op.nP S=false)(h:act O wl aa op vals st bx=some (e,bP,eR)):bP=st:=by
 unfold act at h
 split at h
 ·rename_i f
  simp only[cL.nP]at hw
  split at hw
  ·rename_i sf Z4
   split at hw
   ·rename_i hm
    unfold eY at h
    split at h
    ·rename_i f' vs hc
     have hf:f'=f:=by
      simp only[kV]at hc
      split at hc
      ·cases hc;rfl
      ·cases hc
     subst hf
     split at h
     ·rename_i dw;cases h;exact hO.call _ _ _ _ _ _ _ _ dw Z4 hm
     ·cases h
    ·cases h
   ·cases hw
  ·cases hw
 ·simp[cL.nP]at hw
 ·exact Oy hw h
theorem To (hn:op.Jj=true)(lN:an)(h:act O wl aa op vals st bx=some (e,bP,eR)):act O wl aa op vals lN bx=some (e,lN,eR):=by
 unfold act at h ⊢
 split at h
 ·simp[cL.Jj]at hn
 ·simp[cL.Jj]at hn
 ·rename_i h1 h2
  rw[Oz hn lN,h];rfl
theorem ED (hb:op.bA=none)(wA:aX)(h:act O wl aa op vals st bx=some (e,bP,eR)):eR=bx/\act O wl aa op vals st wA=some (e,bP,wA):=by
 have call:∀x,eY O wl aa x st bx=some (e,bP,eR)->eR=bx/\eY O wl aa x st wA=some (e,bP,wA):=by
  intro x h
  unfold eY at h ⊢
  split at h
  ·rename_i f vs
   cases hc:O.call wl aa f vs st with
   |none=>rw[hc]at h;cases h
   |some y=>rw[hc]at h;cases h;exact⟨rfl,rfl⟩
  ·cases h
 unfold act at h ⊢
 split at h
 ·exact call _ h
 ·exact call _ h
 ·rename_i h1 h2
  have e1:=GK (wl:=wl) (aa:=aa) (vals:=vals) (st:=st) (bx:=bx) hb bx
  rw[h]at e1
  simp only[Option.map_some,Option.some.injEq,Prod.mk.injEq,true_and]at e1
  refine⟨e1,?_⟩
  rw[GK hb wA,h];rfl
theorem GN {wA:aX}(hl:wA.length=bx.length)(ha:∀b,op.bA=some b->wA[b]?=bx[b]?)(h:act O wl aa op vals st bx=some (e,bP,eR)) :
  ∃Tp,act O wl aa op vals st wA=some (e,bP,Tp)/\eR.length=bx.length/\Tp.length=wA.length/\(∀b,op.bW=some b->Tp[b]?=eR[b]?)/\(∀b,op.bW≠some b->Tp[b]?=wA[b]?)/\(∀b,op.bW≠some b->eR[b]?=bx[b]?):=by
 cases hb:op.bA with
 |none=>
  obtain⟨rfl,e2⟩:=ED hb wA h
  refine⟨wA,e2,rfl,rfl,λb h=>?_,λ_ _=>rfl,λ_ _=>rfl⟩
  cases op<;>simp_all [cL.bA,cL.bW]
 |some j=>
  have hj:=ha j hb
  have KD:∀(row:List AV),j<bx.length->(bx.set j row).length=bx.length/\(wA.set j row).length=wA.length/\(wA.set j row)[j]?=(bx.set j row)[j]?/\(∀b,j≠b->(wA.set j row)[b]?=wA[b]?)/\(∀b,j≠b->(bx.set j row)[b]?=bx[b]?):=by
   intro row aV
   refine⟨by simp,by simp,?_,λb hb=>?_,λb hb=>?_⟩
   ·rw[List.getElem?_set,List.getElem?_set,if_pos rfl,if_pos rfl,if_pos aV,if_pos (by omega)]
   ·rw[List.getElem?_set,if_neg hb]
   ·rw[List.getElem?_set,if_neg hb]
  cases op<;>simp only[cL.bA]at hb<;>try cases hb
  case some.aj.refl agg n take=>
   simp only[act]at h ⊢
   unfold aL at h ⊢
   simp only at h ⊢
   split at h
   ·rename_i j' k
    split at h
    ·rename_i Tj
     subst Tj
     split at h
     ·rename_i row cR
      have aV:=(List.getElem?_eq_some_iff.1 cR).1
      rw[if_pos rfl,hj,cR]
      simp only
      split at h
      ·rename_i cs Ol
       cases take with
       |true=>
        simp only[if_true]at h ⊢
        split at h
        ·rename_i v hv
         cases h
         obtain⟨a1,a2,a3,a4,a5⟩:=KD (af row k (cs.map AV.ir)) aV
         exact⟨_,rfl,a1,a2,λb hb=>by simp[cL.bW]at hb;subst hb;exact a3,λb hb=>a4 b (by simpa [cL.bW] using hb),λb hb=>a5 b (by simpa [cL.bW] using hb)⟩
        ·cases h
       |false=>
        simp only[Bool.false_eq_true,if_false]at h ⊢
        split at h
        ·rename_i v hv
         cases h
         exact⟨_,rfl,rfl,rfl,λb hb=>by simp[cL.bW]at hb,λ_ _=>rfl,λ_ _=>rfl⟩
        ·cases h
      ·cases h
     ·cases h
    ·cases h
   ·cases h
  case some.ag.refl n=>
   simp only[act]at h ⊢
   unfold aL at h ⊢
   simp only at h ⊢
   split at h
   ·rename_i j' k v
    split at h
    ·rename_i hc
     have Tj:j=j':=by simp only[Bool.and_eq_true,decide_eq_true_eq]at hc;exact hc.1.1
     split at h
     ·rename_i row cR
      have aV:=(List.getElem?_eq_some_iff.1 cR).1
      rw[if_pos hc,hj,cR]
      simp only
      split at h
      ·rename_i bn
       cases h
       rw[if_pos bn]
       obtain⟨a1,a2,a3,a4,a5⟩:=KD (af row k v.cells) aV
       exact⟨_,rfl,a1,a2,λb hb=>by simp[cL.bW]at hb;subst hb;exact a3,λb hb=>a4 b (by simpa [cL.bW] using hb),λb hb=>a5 b (by simpa [cL.bW] using hb)⟩
      ·cases h
     ·cases h
    ·cases h
   ·cases h
  case some.aE.refl zero=>
   simp only[act]at h ⊢
   unfold aL at h ⊢
   simp only at h ⊢
   split at h
   ·split at h
    ·rename_i aV
     cases h
     rw[if_pos (by omega)]
     obtain⟨a1,a2,a3,a4,a5⟩:=KD zero aV
     exact⟨_,rfl,a1,a2,λb hb=>by simp[cL.bW]at hb;subst hb;exact a3,λb hb=>a4 b (by simpa [cL.bW] using hb),λb hb=>a5 b (by simpa [cL.bW] using hb)⟩
    ·cases h
   ·cases h
  case some.dW.refl n=>
   simp only[act]at h ⊢
   unfold aL at h ⊢
   simp only at h ⊢
   split at h
   ·rename_i v
    split at h
    ·rename_i hc
     have Sk:=hc
     simp only[Bool.and_eq_true,decide_eq_true_eq]at Sk
     cases h
     rw[if_pos (by simp only[Bool.and_eq_true,decide_eq_true_eq];exact⟨⟨by omega,Sk.1.2⟩,Sk.2⟩)]
     obtain⟨a1,a2,a3,a4,a5⟩:=KD v.cells Sk.1.1
     exact⟨_,rfl,a1,a2,λb hb=>by simp[cL.bW]at hb;subst hb;exact a3,λb hb=>a4 b (by simpa [cL.bW] using hb),λb hb=>a5 b (by simpa [cL.bW] using hb)⟩
    ·cases h
   ·cases h
theorem W7 {b:Nat}(h:act O wl aa op vals st bx=some (e,bP,eR))(hv:∀x∈vals,x.ny b=true)(hn:op.aF≠some b):e.ny b=true:=by
 have call:∀x,eY O wl aa x st bx=some (e,bP,eR)->e.ny b=true:=by
  intro x h
  unfold eY at h
  repeat' split at h
  all_goals first|(cases h;rfl)|cases h
 have val:∀a:AV,(dX.val a).ny b=true:=λ_=>rfl
 unfold act at h
 split at h
 ·exact call _ h
 ·exact call _ h
 ·cases op
  case move=>
   unfold aL at h
   simp only at h
   split at h
   ·cases h;exact hv _ (by simp)
   ·cases h
  case pick=>
   unfold aL at h
   simp only at h
   split at h
   ·rename_i c x y
    cases h
    cases c
    ·exact hv _ (by simp)
    ·exact hv _ (by simp)
   ·cases h
  case nilCheck=>
   unfold aL at h
   simp only at h
   split at h
   ·cases h;exact hv _ (by simp)
   ·split at h<;>first|(cases h;rfl)|cases h
   ·cases h
  case fieldAddr off=>
   unfold aL at h
   simp only at h
   split at h
   ·rename_i j k
    cases h
    have:=hv (.fp j k) (by simp)
    simpa [dX.ny] using this
   ·cases h;rfl
   ·cases h;rfl
   ·cases h
  case aE j zero=>
   unfold aL at h
   simp only at h
   split at h
   ·split at h
    ·cases h
     simp only[cL.aF,ne_eq,Option.some.injEq]at hn
     simpa [dX.ny] using hn
    ·cases h
   ·cases h
  case dW j n=>
   unfold aL at h
   simp only at h
   split at h
   ·split at h
    ·cases h
     simp only[cL.aF,ne_eq,Option.some.injEq]at hn
     simpa [dX.ny] using hn
    ·cases h
   ·cases h
  all_goals
   unfold aL at h
   (try unfold yc at h)
   simp only at h
   repeat' split at h
  all_goals first|(cases h;rfl)|cases h
end Ax
namespace Ax
open Go
def mO (o:Oper):List Nat:=(o.after.toList.filter (Region.binds .any)).map (·.on)
def bms:List Oper->List Nat->List Nat
 |[],acc=>acc
 |o::l,acc=>bms l (acc++[(mO o).foldl (λm p=>m ||| (1 <<< p) ||| acc.getD p 0) 0])
def bef (bm:List Nat)(i j:Nat):Bool:=(bm.getD j 0).testBit i
def pC (so:aZ):List Nat:=so.dst.toList++ow so.args
def Tq:List Src->List Nat
 |[]=>[]
 |.tmp t _::l=>t::Tq l
 |_::l=>Tq l
def wB (so:aZ):List Nat:=Tq so.args++(match so.guard with|some (t,_)=>[t]|none=>[])
def apart (S:Nat->Option aC)(bH:List (Nat×Nat))(i j:Nat)(a b:aZ):Bool:=
 (pC a).all (λt=>!(wB b).contains t && !(pC b).contains t)&&(pC b).all (λt=>!(wB a).contains t) &&
 (match a.op.bW with|some x=>b.op.bA != some x|none=>true)&&(match b.op.bW with|some x=>a.op.bA != some x|none=>true) &&
 (!(a.op.nP S&&b.op.nP S)||bH.contains (100000+i,j))&&(a.op.Jj || !(b.op.nP S)||a.op.nP S||bH.contains (i,j))&&(b.op.Jj || !(a.op.nP S)||b.op.nP S||bH.contains (j,i))
def Bq (n:Nat)(f:Nat->Nat->Bool):Bool:=(List.range n).all λj=>(List.range j).all λi=>f i j
def Ad:cL->Bool
 |.store _=>true
 |_=>false
def VS (S:Nat->Option aC)(m:List aZ)(bH:List (Nat×Nat)):Nat×Nat->Bool
 |(c,q)=>if 100000<=c&&decide (c<200000) then
   let p:=c-100000
   (match m[p]?,m[q]? with|some a,some b=>Ad a.op&&Ad b.op&&a.guard.isNone&&b.guard.isNone|_,_=>false) &&
   decide (p<q)&&(List.range (q-p-1)).all (λd=>match m[p+1+d]? with|some o=>!(o.op.nP S)|none=>false) &&
   bH.all (λx=>decide (100000<=x.1) || !(x.2==p||x.2==q)||bH.contains (100000*(x.1+2)+p,q)) &&
   bH.all (λx=>!(decide (100000<=x.1)&&decide (x.1<200000))||(x.1==c&&x.2==q))
  else true
def KE (S:Nat->Option aC)(P:Program)(ops:Array Oper)(n:Nat)(m:List aZ)(bH:List (Nat×Nat)):Bool:=
 let bm:=bms ops.toList []
 P.follows .mixedOrders&&pA S P ops n ops.toList m&&(decide (ops.size<100000)&&bH.all (VS S m bH)) &&
 (List.range ops.size).all (λj=>match ops[j]? with
  |some o=>(mO o).all (λp=>decide (p<j))&&(List.range ops.size).all λi=>!bef bm i j||(mO o).any λp=>i==p||bef bm i p
  |none=>true) &&
 Bq ops.size (λi j=>match m[i]?,m[j]? with
  |some a,some b=>(bef bm i j||apart S bH i j a b)&&(match a.op.aF,b.op.aF with|some x,some y=>x != y|_,_=>true)
  |_,_=>true)
theorem tS {n:Nat}{f:Nat->Nat->Bool}(h:Bq n f=true){i j:Nat}(h1:i<j)(h2:j<n):f i j=true:=by
 simp only[Bq,List.all_eq_true,List.mem_range]at h
 exact h j h2 i h1
end Ax
namespace Ax
open Go
variable {S:Nat->Option aC}{P:Program}{ops:Array Oper}{n:Nat}{m:List aZ}{bH:List (Nat×Nat)}
theorem Br:∀{l:List Oper}{m:List aZ},pA S P ops n l m=true->l.length=m.length/\∀(i:Nat) o so,l[i]?=some o->m[i]?=some so->Dz S P ops n o so=true
 |[],[],_=>⟨rfl,λi o so h=>by simp at h⟩
 |o::l,so::m,h=>by
  simp only[pA,Bool.and_eq_true]at h
  obtain⟨e1,e2⟩:=Br h.2
  refine⟨by simp[e1],λi o' so' h1 h2=>?_⟩
  cases i with
  |zero=>simp at h1 h2;subst h1;subst h2;exact h.1
  |succ i=>exact e2 i o' so' (by simpa using h1) (by simpa using h2)
 |[],_::_,h=>by simp[pA]at h
 |_::_,[],h=>by simp[pA]at h
def Down (ops:Array Oper)(D:Nat->Bool):Prop:=∀(j:Nat) o,ops[j]?=some o->D j=true->∀p∈mO o,D p=true
structure VT (S:Nat->Option aC)(P:Program)(ops:Array Oper)(n:Nat)(m:List aZ)(bH:List (Nat×Nat)):Prop where
 fol:P.follows .mixedOrders=true
 len:m.length=ops.size
 get:∀(i:Nat) o so,ops[i]?=some o->m[i]?=some so->Dz S P ops n o so=true
 lt:∀(j:Nat) o,ops[j]?=some o->∀p∈mO o,p<j
 apA:∀(D:Nat->Bool),Down ops D->∀(j:Nat) o,ops[j]?=some o->(∀p∈mO o,D p=true)->∀(k:Nat) a b,k<j->D k=false->m[k]?=some a->m[j]?=some b->apart S bH k j a b=true
 apB:∀(D:Nat->Bool),Down ops D->∀(j k:Nat) a b,j<k->D j=false->D k=true->m[j]?=some a->m[k]?=some b->apart S bH j k a b=true
 small:m.length<100000
 xt:∀p q,p<100000->(100000+p,q)∈bH->p<q/\(∃a b,m[p]?=some a/\m[q]?=some b/\Ad a.op=true/\Ad b.op=true/\a.guard=none/\b.guard=none)/\(∀(j:Nat) o,p<j->j<q->m[j]?=some o->o.op.nP S=false)/\
  (∀k w,(k,w)∈bH->k<100000->w=p\/w=q->(100000*(k+2)+p,q)∈bH)/\∀i j,i<100000->(100000+i,j)∈bH->i=p/\j=q
 boxes:∀(i j:Nat) a b x,i<j->m[i]?=some a->m[j]?=some b->a.op.aF=some x->b.op.aF≠some x
theorem OA (h:KE S P ops n m bH=true):VT S P ops n m bH:=by
 unfold KE at h
 simp only[Bool.and_eq_true,List.all_eq_true,List.mem_range]at h
 obtain⟨⟨⟨⟨h1,h2⟩,h5,h6⟩,h3⟩,h4⟩:=h
 obtain⟨e1,e2⟩:=Br h2
 have hlen:m.length=ops.size:=by rw[<-e1];simp
 have aV:∀(j:Nat) o,ops[j]?=some o->∀p∈mO o,p<j:=λj o ho p hp=>by
  have:=h3 j (Array.getElem?_eq_some_iff.1 ho).1
  rw[ho]at this
  simp only[Bool.and_eq_true,List.all_eq_true,decide_eq_true_eq]at this
  exact this.1 p hp
 have SW:∀(D:Nat->Bool),Down ops D->∀(j:Nat) o,ops[j]?=some o->(∀p∈mO o,D p=true)->∀i,i<ops.size->bef (bms ops.toList []) i j=true->D i=true:=by
  intro D hD j
  induction j using Nat.strongRecOn with
  |_ j ih=>
   intro o ho hp i hi hb
   have:=h3 j (Array.getElem?_eq_some_iff.1 ho).1
   rw[ho]at this
   simp only[Bool.and_eq_true,List.all_eq_true,List.mem_range,Bool.or_eq_true,Bool.not_eq_true',List.any_eq_true,beq_iff_eq]at this
   rcases this.2 i hi with h5|⟨p,Tr,h6⟩
   ·rw[hb]at h5;cases h5
   ·rcases h6 with rfl|h6
    ·exact hp i Tr
    ·have W8:=aV j o ho p Tr
     have Ts:p<ops.size:=by have:=(Array.getElem?_eq_some_iff.1 ho).1;omega
     have Tn:ops[p]?=some ops[p]:=by simp[Ts]
     exact ih p W8 ops[p] Tn (λq hq=>hD p ops[p] Tn (hp p Tr) q hq) i hi h6
 refine⟨h1,hlen,λi o so ho hso=>e2 i o so (by simpa using ho) hso,aV,λD hD j o ho hp k a b hk hDk ha hb=>?_,λD hD j k a b tg hDj hDk ha hb=>?_,by rw[hlen];simpa using h5,λp q hp Sl=>?_,λi j a b x zG ha hb hx hy=>?_⟩
 ·have hj:=(Array.getElem?_eq_some_iff.1 ho).1
  have:=tS h4 hk hj
  rw[ha,hb]at this
  simp only[Bool.and_eq_true,Bool.or_eq_true]at this
  rcases this.1 with h5|h5
  ·rw[SW D hD j o ho hp k (by omega) h5]at hDk;cases hDk
  ·exact h5
 ·have hk:k<ops.size:=by rw[<-hlen];exact(List.getElem?_eq_some_iff.1 hb).1
  have:=tS h4 tg hk
  rw[ha,hb]at this
  simp only[Bool.and_eq_true,Bool.or_eq_true]at this
  have W9:ops[k]?=some ops[k]:=by simp[hk]
  rcases this.1 with h5|h5
  ·rw[SW D hD k ops[k] W9 (hD k ops[k] W9 hDk) j (by omega) h5]at hDj;cases hDj
  ·exact h5
 ·have:=h6 _ Sl
  simp only[VS]at this
  rw[if_pos (by simp;omega)]at this
  simp only[Nat.add_sub_cancel_left,Bool.and_eq_true,decide_eq_true_eq,List.all_eq_true,List.mem_range,Bool.or_eq_true,Bool.not_eq_true',Bool.or_eq_false_iff,List.contains_eq_mem,Prod.forall,Bool.and_eq_false_iff,beq_iff_eq,beq_eq_false_iff_ne,decide_eq_false_iff_not]at this
  obtain⟨⟨⟨⟨t1,t2⟩,t3⟩,t4⟩,t5⟩:=this
  refine⟨t2,?_,λj o IM Z6 ho=>?_,λk w hk NC hw=>?_,λi j hi zG=>?_⟩
  ·split at t1
   ·rename_i a b ha hb
    simp only[Bool.and_eq_true,Option.isNone_iff_eq_none]at t1
    exact⟨a,b,ha,hb,t1.1.1.1,t1.1.1.2,t1.1.2,t1.2⟩
   ·cases t1
  ·have:=t3 (j-p-1) (by omega)
   rw[show p+1+(j-p-1)=j by omega,ho]at this
   simpa using this
  ·rcases t4 k w hk with (h|h)|h
   ·omega
   ·exfalso;rcases hw with e|e
    ·exact h.1 e
    ·exact h.2 e
   ·exact h
  ·rcases t5 _ _ zG with h|h
   ·omega
   ·exact⟨by omega,h.2⟩
 ·have hj:j<ops.size:=by rw[<-hlen];exact(List.getElem?_eq_some_iff.1 hb).1
  have:=tS h4 zG hj
  rw[ha,hb]at this
  simp only[Bool.and_eq_true]at this
  have h5:=this.2
  rw[hx,hy]at h5
  simp at h5
end Ax
