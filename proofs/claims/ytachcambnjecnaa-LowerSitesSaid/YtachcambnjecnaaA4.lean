/- The library of this proof, part 4: an abstract interpreter of the loaded code, and its soundness. -/
import Derived.Test.YtachcambnjecnaaA3
import Derived.Orders

namespace Ax
open Go
variable {P:Program}{w w':World}{G G':aM}{β gf:List lE}{ρ:Operand->Value}{o:Oper}
variable {S:Nat->Option aD}{so:aX}{vals:List eG}{wl aa:Nat}{st bS:aj}{bx fm:aU}{cO:Nat->Nat}{r:eG}
theorem iU.le{cO cO':Nat->Nat}{v:Value}(h:iU w G β st bx cO w' G' gf bS fm r v)(hc:∀b,cO b<=cO' b):iU w G β st bx cO' w' G' gf bS fm r v:=
 { h with fj:=λb=>by have h1:=h.fj b;have h2:=hc b;omega,tQ:=λb hb=>h.tQ b (by have:=hc b;omega) }
theorem XQ{t e:TypeId}{parts:Array (Nat×Operand)}(ho:o.op=.buildSlice t 0 parts)(hu:P.underlying t=some (.slice e)){sz:Nat}(eH:cx P e sz=true)(hp:parts = #[]) :
  (execOp ρ o).run P w=.ok (.value (.slice (some ⟨w.heap.size,0,none⟩) 0 0)) (w.alloc (.cells #[] e)):=by
 obtain⟨i,hi,Dq,_⟩:=kj eH
 subst hp
 have h0:(Array.range 0).map (λ_:Nat=>(default:Value)) = #[]:=by apply Array.ext';simp
 simp[execOp,ho,Instr.buildSlice,run_underlying hu,Go.sizeOf,typeInfo,hi,Instr.fill,newRow]
 rw[h0]
theorem Wt{t:TypeId}{n n' sz:Nat}{parts:Array (Nat×Operand)}{zero:List AV}{qs:List Nat}{mu:Bool}(ho:o.op=.buildSlice t n parts)(Ph:n=n')
  (hu:match P.underlying t with
   |some (.slice e)=>(cx P e sz&&decide (n*sz<=16777216)&&mW P e zero&&decide (0<sz)&&(zero.length==sz)&&parts.toList.map (·.1)==qs)=true
   |_=>False) (hI:iH w G st) (hB:jD w G β bx)
  (hR:jY w G β vals ((parts.toList.map (·.2)).map ρ)) (hcO:∀b,kS b vals ((parts.toList.map (·.2)).map ρ)<=cO b) (ha:aL wl aa (if mu then .Tp sz n' zero qs else .lit sz n' zero qs) vals st bx=some (r,bS,fm)) :
  iV P ρ o w G β st bx cO none r bS fm:=by
 subst Ph
 split at hu
 ·rename_i e BK
  simp only[Bool.and_eq_true,decide_eq_true_eq,beq_iff_eq]at hu
  obtain⟨⟨⟨⟨⟨eH,JF⟩,hz⟩,TN⟩,Ll⟩,hq⟩:=hu
  have E4:(parts.toList.map (·.2)).map ρ=parts.toList.map λp=>ρ p.2:=by simp
  rw[E4]at hR hcO
  cases mu with
  |true=>
   simp only[if_true]at ha
   unfold aL at ha
   simp only at ha
   split at ha
   ·rename_i vs Dn
    split at ha
    ·rename_i rows ru
     split at ha
     ·rename_i hc
      simp only[Bool.and_eq_true,decide_eq_true_eq]at hc
      cases ha
      obtain⟨hv,BB⟩:=hR.MY Dn
      obtain⟨cells,e1,e2,e3,e4,e5,e6⟩:=Wj (w:=w) ho BK eH JF hz TN Ll hq ru hc.2 hv
      obtain⟨G',hA,_⟩:=tS (sz:=sz) (cap:=n) (rows:=rows) (c:=cells) (e:=e) (xs:=cells.toList) (w':=w.alloc (.cells cells e)) (cO:=cO) hI hB rfl rfl rfl e4 (xx hc.1) e2 hc.2 (by omega) (by omega) (by simp)
       (λb=>by have h1:=e3 b;have h2:=hcO b;rw[BB]at h2;omega)
      exact⟨_,_,_,G',β,e1,.inl rfl,hA,eK.refl _ _⟩
     ·cases ha
    ·cases ha
   ·cases ha
  |false=>
   simp only[Bool.false_eq_true,if_false]at ha
   unfold aL at ha
   simp only at ha
   split at ha
   ·rename_i vs Dn
    split at ha
    ·rename_i rows ru
     split at ha
     ·rename_i hc
      simp only[Bool.and_eq_true]at hc
      cases ha
      obtain⟨hv,BB⟩:=hR.MY Dn
      by_cases hn:n=0
      ·subst hn
       rw[if_pos rfl]
       have XR:parts = #[]:=by
        cases OT:parts.toList with
        |nil=>exact Array.toList_eq_nil_iff.1 OT
        |cons p l=>
         rw[OT]at hq
         subst hq
         simp only[List.map_cons,List.replicate_zero]at ru
         cases Tc:AV.cL vs with
         |nil=>rw[Tc]at ru;simp[fN]at ru
         |cons v l'=>rw[Tc]at ru;simp[fN]at ru
       exact⟨_,_,_,_,β,XQ ho BK eH XR,.inl rfl,AG (w':=w.alloc (.cells #[] e)) rfl rfl rfl none hI hB (.kV _) λb=>by simp[fj],eK.refl _ _⟩
      ·rw[if_neg hn]
       have Fa:0<n:=by omega
       obtain⟨cells,e1,e2,e3,e4,e5,e6⟩:=Wj (w:=w) ho BK eH JF hz TN Ll hq ru Fa hv.view
       have iP:∀r∈rows,AV.dH r=true:=by
        obtain⟨_,_,_,_,_,GU,_⟩:=kK hz w G
        have:=xy (sz:=sz) (p:=λc=>c.bZ=true) qs (AV.cL vs) _ rows (λr hr c hc=>by
         rw[List.eq_of_mem_replicate hr]at hc;exact(GU c hc).1) (λv hv=>Hs (Ht vs v hv)) ru
        exact λr hr=>(cy r).2 (this r hr)
       have XH:=E7 (G:=G.new w.heap.size (some (rows.length*sz)) []) (w:=w.alloc (.cells cells e)) (cap:=n) (off:=0) e4 (xx hc.2) iP (Hr hc.1) (e2.push (w':=w.alloc (.cells cells e)) rfl _ _) (pJ rfl) (by omega) (by omega) (by simp[aM.new]) (λk x hk=>by rw[Nat.zero_add];simpa using hk)
       exact⟨_,_,_,_,β,e1,.inl rfl,AG (w':=w.alloc (.cells cells e)) rfl rfl rfl (some (rows.length*sz)) hI hB XH.view λb=>by simp[fj],eK.refl _ _⟩
     ·cases ha
    ·cases ha
   ·cases ha
 ·exact hu.elim
theorem BM{α:Type}{l:List α}(h:l.length=2):∃x y,l=[x,y]:=by
 match l,h with
 |[x,y],_=>exact⟨x,y,rfl⟩
theorem Aq{sz:Nat}{vals:List eG}(wl aa:Nat):aL wl aa (.indexAddr sz) vals st bx=aL 0 0 (.indexAddr sz) vals st bx:=rfl
theorem acq{w:World}{G:aM}{b:Bool}{v:Value}(h:aO w G (.bool b) v):v=.bool b:=h.jm
theorem XS(hm:mOp S P o so=true)(hI:iH w G st)(hB:jD w G β bx)(hX:∀b,cO b+fM b β bx+b6 b G.ls st<=1)
  (hA:∀xs,fq xs so.args=true->jY w G β vals (xs.map ρ)/\∀b,kS b vals (xs.map ρ)<=cO b)(ha:aL wl aa so.op vals st bx=some (r,bS,fm)) :
  iV P ρ o w G β st bx cO so.op.bz r bS fm:=by
 unfold mOp at hm
 rw[Bool.and_eq_true]at hm
 replace hm:=hm.2
 generalize hso:so.op=sop at hm ha
 split at hm
 ·
  rename_i x ho
  obtain⟨hR,hc⟩:=hA _ hm
  unfold aL at ha
  simp only at ha
  split at ha
  ·cases ha
   exact iV.lO hI hB (u:=ρ x) (by simp[execOp,ho]) hR.1 λb=>by have:=hc b;simp only[List.map_cons,kS]at this;omega
  ·cases ha
 ·
  rename_i x ho
  obtain⟨hR,hc⟩:=hA _ hm
  unfold aL at ha
  simp only at ha
  split at ha
  ·cases ha
   exact iV.lO hI hB (u:=ρ x) (by simp[execOp,ho]) hR.1 λb=>by have:=hc b;simp only[List.map_cons,kS]at this;omega
  ·cases ha
 ·
  rename_i c x y ho
  obtain⟨hR,hc⟩:=hA _ hm
  unfold aL at ha
  simp only at ha
  split at ha
  ·rename_i b x' y'
   cases ha
   obtain⟨h1,h2,h3,_⟩:=hR
   have hb:=acq h1
   refine iV.lO hI hB (u:=if b then ρ x else ρ y) (by simp[execOp,ho,hb,asBool]) ?_ λd=>?_
   ·cases b
    ·exact h3
    ·exact h2
   ·have:=hc d
    simp only[List.map_cons,kS]at this
    cases b
    ·simp;omega
    ·simp;omega
  ·cases ha
 ·
  rename_i op t x y yt op' ho
  simp only[Bool.and_eq_true,beq_iff_eq]at hm
  obtain⟨rfl,hm⟩:=hm
  obtain⟨hR,hc⟩:=hA _ hm
  unfold aL at ha
  simp only at ha
  split at ha
  ·split at ha
   ·rename_i v hv
    cases ha
    obtain⟨u,e1,e2,e3⟩:=abZ ho hv hR.1 hR.2.1
    exact iV.bZ hI hB e1 e2 e3
   ·cases ha
  ·cases ha
 ·
  rename_i op t x y yt k neg ho
  simp only[Bool.and_eq_true,beq_iff_eq]at hm
  obtain⟨⟨rfl,hm⟩,ht⟩:=hm
  obtain⟨hR,hc⟩:=hA _ hm
  unfold aL at ha
  simp only at ha
  split at ha
  ·split at ha
   ·rename_i b hb
    cases ha
    obtain⟨u,e1,e2⟩:=ab0 ho ht hb hR.1 hR.2.1
    exact iV.bZ hI hB e1 e2 rfl
   ·cases ha
  ·cases ha
 ·
  rename_i op t x y yt neg ho
  simp only[Bool.and_eq_true,beq_iff_eq]at hm
  obtain⟨⟨rfl,hm⟩,ht⟩:=hm
  obtain⟨hR,hc⟩:=hA _ hm
  unfold aL at ha
  simp only at ha
  split at ha
  ·rename_i id bX
   split at ha
   ·rename_i v sz rows fh
    split at ha
    ·rename_i jG
     cases ha
     exact iV.bZ hI hB (Tz ho ht hI fh jG hR.1 hR.2.1) (.bool _) rfl
    ·cases ha
   ·cases ha
  ·cases ha
 ·
  rename_i op t x op' ho
  simp only[Bool.and_eq_true,beq_iff_eq]at hm
  obtain⟨rfl,hm⟩:=hm
  obtain⟨hR,hc⟩:=hA _ hm
  unfold aL at ha
  simp only at ha
  split at ha
  ·split at ha
   ·rename_i v hv
    cases ha
    obtain⟨u,e1,e2,e3⟩:=agQ ho hv hR.1
    exact iV.bZ hI hB e1 e2 e3
   ·cases ha
  ·cases ha
 ·
  rename_i s d x k ho
  simp only[Bool.and_eq_true]at hm
  obtain⟨hm,ht⟩:=hm
  obtain⟨hR,hc⟩:=hA _ hm
  unfold aL at ha
  simp only at ha
  split at ha
  ·cases ha
   split at ht
   ·rename_i k1 k2 h1 h2
    simp only[beq_iff_eq]at ht
    subst ht
    exact iV.bZ hI hB (XG ho h1 h2 hR.1) (.int _ _) rfl
   ·cases ht
  ·cases ha
 ·
  rename_i x ho
  obtain⟨hR,hc⟩:=hA _ hm
  unfold aL at ha
  simp only at ha
  split at ha
  ·cases ha
   obtain⟨g,b,h1,h2,h3⟩:=hR.1
   exact iV.lO hI hB (wE ho h3) ⟨g,b,h1,h2,h3⟩ λd=>by simp[cv]
  ·split at ha
   ·cases ha
    have hp:∃a,ρ x=.pointer (some a):=by
     have h:=hR.1
     simp only[jQ]at h
     cases h with|ptr _ _ _ _ _ _ hp=>exact hp
    obtain⟨a,hp⟩:=hp
    exact iV.lO hI hB (wE ho hp) hR.1 λd=>by simp[cv,fj]
   ·cases ha
    have hp:∃a,ρ x=.pointer (some a):=by
     have h:=hR.1
     simp only[jQ]at h
     generalize ρ x=v at h
     cases h;exact⟨_,rfl⟩
    obtain⟨a,hp⟩:=hp
    exact iV.lO hI hB (wE ho hp) hR.1 λd=>by simp[cv,fj]
   ·cases ha
  ·cases ha
 ·
  rename_i x i j ho
  simp only[Bool.and_eq_true,beq_iff_eq]at hm
  obtain⟨rfl,hm⟩:=hm
  obtain⟨hR,hc⟩:=hA _ hm
  unfold aL at ha
  simp only at ha
  split at ha
  ·split at ha
   ·rename_i v hv
    cases ha
    obtain⟨u,e1,e2,e3⟩:=MK ho hv hR.1
    exact iV.lO hI hB e1 e2 λb=>by have h1:=hc b;have h2:=e3 b;simp only[List.map_cons,kS,cv]at h1 ⊢;omega
   ·cases ha
  ·cases ha
 ·
  rename_i t x f off n agg ho
  simp only[Bool.and_eq_true]at hm
  obtain⟨hm,ht⟩:=hm
  obtain⟨hR,hc⟩:=hA _ hm
  split at ht
  ·rename_i fs hu
   split at ht
   ·rename_i fd hf
    simp only[Bool.and_eq_true,beq_iff_eq]at ht
    obtain⟨⟨h1,h2⟩,h3⟩:=ht
    unfold aL at ha
    simp only at ha
    split at ha
    ·split at ha
     ·rename_i cs Pc
      split at ha
      ·rename_i v hv
       cases ha
       obtain⟨u,e1,e2,e3⟩:=TD ho hu hf h1 h2 h3 Pc hv hR.1
       exact iV.lO hI hB e1 e2 λb=>by have h1:=hc b;have h2:=e3 b;simp only[List.map_cons,kS,cv]at h1 ⊢;omega
      ·cases ha
     ·cases ha
    ·cases ha
   ·cases ht
  ·cases ht
 ·
  rename_i t parts zero qs ho
  simp only[Bool.and_eq_true]at hm
  obtain⟨⟨hm,hz⟩,ht⟩:=hm
  obtain⟨hR,hc⟩:=hA _ hm
  have E4:(parts.toList.map (·.2)).map ρ=parts.toList.map λp=>ρ p.2:=by simp
  rw[E4]at hR hc
  split at ht
  ·rename_i fs hu
   split at ht
   ·rename_i is Dq
    unfold aL at ha
    simp only at ha
    split at ha
    ·rename_i vs Dn
     split at ha
     ·rename_i cs ru
      cases ha
      obtain⟨hv,BB⟩:=hR.MY Dn
      obtain⟨u,e1,e2,e3⟩:=TF ho hu Dq hz ht ru hv
      exact iV.lO hI hB e1 e2 λb=>by have h1:=hc b;have h2:=e3 b;have h3:=BB b;simp only[cv];omega
     ·cases ha
    ·cases ha
   ·cases ht
  ·cases ht
 ·
  rename_i t n parts sz n' zero qs ho
  simp only[Bool.and_eq_true,beq_iff_eq]at hm
  obtain⟨⟨hn,hm⟩,ht⟩:=hm
  obtain⟨hR,hc⟩:=hA _ hm
  refine Wt (mu:=false) ho hn ?_ hI hB hR hc ha
  split at ht
  ·rename_i he;rw[he];simpa using ht
  ·cases ht
 ·
  rename_i t n parts sz n' zero qs ho
  simp only[Bool.and_eq_true,beq_iff_eq]at hm
  obtain⟨⟨hn,hm⟩,ht⟩:=hm
  obtain⟨hR,hc⟩:=hA _ hm
  refine Wt (mu:=true) ho hn ?_ hI hB hR hc ha
  split at ht
  ·rename_i he;rw[he];simpa using ht
  ·cases ht
 ·
  rename_i t x f off ho
  simp only[Bool.and_eq_true]at hm
  obtain⟨hm,ht⟩:=hm
  obtain⟨hR,hc⟩:=hA _ hm
  split at ht
  ·rename_i fs hu
   split at ht
   ·rename_i fd hf
    simp only[Bool.and_eq_true,beq_iff_eq]at ht
    obtain⟨h1,h2⟩:=ht
    subst h1
    split at h2
    ·rename_i i hi
     have hs:i.size≠0:=by simpa using h2
     unfold aL at ha
     simp only at ha
     split at ha
     ·rename_i j k
      cases ha
      obtain⟨g,b,g1,g2,g3⟩:=hR.1
      refine iV.lO hI hB (tO ho hu hf hi hs g3) ⟨g,b,g1,g2,?_⟩ λd=>by simp[cv]
      rw[kq]
     ·rename_i id bX i' k
      cases ha
      obtain⟨a,e1,e2⟩:=vV hR.1 (.inl ⟨id,bX,i',k,rfl,rfl⟩)
      exact iV.bZ hI hB (tO ho hu hf hi hs e1) e2 rfl
     ·rename_i sz rows i' k
      cases ha
      obtain⟨a,e1,e2⟩:=vV hR.1 (.inr ⟨sz,rows,i',k,rfl,rfl⟩)
      exact iV.bZ hI hB (tO ho hu hf hi hs e1) e2 rfl
     ·cases ha
    ·cases h2
   ·cases ht
  ·cases ht
 ·
  rename_i t x y sz ho
  simp only[Bool.and_eq_true]at hm
  obtain⟨hm,ht⟩:=hm
  obtain⟨hR,hc⟩:=hA _ hm
  split at ht
  ·rename_i e hu
   rw[Aq]at ha
   have BO:=ha
   unfold aL at ha
   simp only at ha
   split at ha
   ·obtain⟨rfl,rfl,p,u,rfl,e1,e2,e3⟩:=GX ho hu ht hI BO hR.1 (aO.fD hR.2.1)
    exact iV.bZ hI hB e1 e2 e3
   ·cases ha
  ·cases ht
 ·
  rename_i t x y ho
  simp only[Bool.and_eq_true]at hm
  obtain⟨hm,ht⟩:=hm
  obtain⟨hR,hc⟩:=hA _ hm
  split at ht
  ·rename_i hu
   unfold aL at ha
   simp only at ha
   split at ha
   ·split at ha
    ·rename_i h0
     split at ha
     ·rename_i b hb
      cases ha
      exact iV.bZ hI hB (TH ho hu h0 hb hR.1 (aO.fD hR.2.1)) (.int _ _) rfl
     ·cases ha
    ·cases ha
   ·cases ha
  ·cases ht
 ·
  rename_i t x lo hi mx tJ l h m sz ho
  simp only[Bool.and_eq_true,beq_iff_eq]at hm
  obtain⟨⟨⟨⟨⟨hm,rfl⟩,rfl⟩,rfl⟩,XP⟩,ht⟩:=hm
  obtain⟨hR,hc⟩:=hA _ hm
  refine T9 ho (λh=>by rw[h]at XP;simpa using XP) ?_ hI hB hR hc ha
  split at ht
  ·rename_i he;rw[he];exact ht
  ·rename_i he;rw[he];exact ht
  ·cases ht
 ·
  rename_i t x hi sz ho
  simp only[Bool.and_eq_true]at hm
  obtain⟨hm,ht⟩:=hm
  obtain⟨hR,hc⟩:=hA _ hm
  split at ht
  ·rename_i e hu
   have BO:=ha
   unfold aL at ha
   simp only at ha
   split at ha
   ·obtain⟨v,G',e1,e2⟩:=Pd ho hu ht hI hB hX hR.1 hR.2.1 BO
    exact⟨_,_,_,_,_,e1,.inl rfl,e2,eK.refl _ _⟩
   ·cases ha
  ·cases ht
 ·
  rename_i t x agg n take ho
  simp only[Bool.and_eq_true]at hm
  obtain⟨⟨⟨hm,hn⟩,qP⟩,kW⟩:=hm
  obtain⟨hR,hc⟩:=hA _ hm
  have Lr:mh P t=some agg:=by simpa using qP
  have Ls:agg=false->n=1:=λh=>by subst h;simpa using kW
  have BO:=ha
  unfold aL at ha
  simp only at ha
  split at ha
  ·rename_i p
   cases take with
   |true=>
    obtain⟨v,e1,e2⟩:=JO ho hn Lr Ls hI hB hX hR.1 BO
    exact⟨_,_,_,_,_,e1,.inl rfl,e2,eK.refl _ _⟩
   |false=>
    split at ha
    ·rename_i cs BD
     simp only[Bool.false_eq_true,if_false]at ha
     split at ha
     ·rename_i v hv
      cases ha
      obtain⟨b,off,xs,h1,h2,h3,h4⟩:=GY hI BD hR.1
      obtain⟨u,e1,e2,e3⟩:=E6 ho hn Lr Ls h1 h2 h3.view h4 hv
      exact iV.lO hI hB e1 e2 λd=>by
       simp only[cv,e3 d]
       rw[dn d _ _ (fR cs)]
       omega
     ·cases ha
    ·cases ha
  ·cases ha
 ·
  rename_i t x j agg n take ho
  simp only[Bool.and_eq_true]at hm
  obtain⟨⟨⟨hm,hn⟩,qP⟩,kW⟩:=hm
  obtain⟨hR,hc⟩:=hA _ hm
  have Lr:mh P t=some agg:=by simpa using qP
  have Ls:agg=false->n=1:=λh=>by subst h;simpa using kW
  have BO:=ha
  unfold aL at ha
  simp only at ha
  split at ha
  ·obtain⟨v,e1,e2⟩:=T2 ho hn Lr Ls hI hB hX hR.1 BO
   exact⟨_,_,_,_,_,e1,.inl rfl,e2,eK.refl _ _⟩
  ·cases ha
 ·
  rename_i t x y n ho
  simp only[Bool.and_eq_true]at hm
  obtain⟨hm,hn⟩:=hm
  obtain⟨hR,hc⟩:=hA _ hm
  have BO:=ha
  unfold aL at ha
  simp only at ha
  split at ha
  ·obtain⟨w',G',e1,e2⟩:=TZ ho hn hI hB hX hR.1 hR.2.1 (λb=>by have:=hc b;simp only[List.map_cons,kS,cv]at this;omega) BO
   exact⟨_,_,_,_,_,e1,.inr ⟨rfl,rfl⟩,e2,eK.refl _ _⟩
  ·cases ha
 ·
  rename_i t x y j n ho
  simp only[Bool.and_eq_true]at hm
  obtain⟨hm,hn⟩:=hm
  obtain⟨hR,hc⟩:=hA _ hm
  have BO:=ha
  unfold aL at ha
  simp only at ha
  split at ha
  ·obtain⟨w',G',gf,e1,e2,e3⟩:=Pb ho hn hI hB hX hR.1 hR.2.1 (λb=>by have:=hc b;simp only[List.map_cons,kS]at this;simp only[cv]at this ⊢;omega) BO
   exact⟨_,_,_,_,_,e1,.inr ⟨rfl,rfl⟩,e2,e3⟩
  ·cases ha
 ·
  rename_i t zero ho
  simp only[Bool.and_eq_true]at hm
  obtain⟨_,hz⟩:=hm
  obtain⟨i,z,hi,OX,mO,GU,On⟩:=kK hz w G
  unfold aL at ha
  simp only at ha
  split at ha
  ·cases ha
   obtain⟨G',Hu⟩:=MP (t:=t) (cO:=cO) hI hB mO GU On
   exact⟨_,_,_,_,_,Lj ho hi OX,.inl rfl,Hu,eK.refl _ _⟩
  ·cases ha
 ·
  rename_i t j zero ho
  simp only[Bool.and_eq_true]at hm
  obtain⟨_,hz⟩:=hm
  obtain⟨i,z,hi,OX,mO,GU,On⟩:=kK hz w G
  unfold aL at ha
  simp only at ha
  split at ha
  ·split at ha
   ·rename_i hj
    cases ha
    have hb:j<β.length:=by rw[hB.len];exact hj
    refine⟨_,_,_,_,_,Lj ho hi OX,.inl rfl,Li (c:=z.cells) (e:=t) (w':=w.alloc (.cells z.cells t)) hI hB rfl rfl rfl hj mO On (λb=>by rw[DU GU];omega),?_⟩
    exact eK.set (List.getElem?_eq_getElem hb) λh=>absurd rfl h
   ·cases ha
  ·cases ha
 ·
  rename_i t x n ho
  obtain⟨hR,hc⟩:=hA _ hm
  unfold aL at ha
  simp only at ha
  split at ha
  ·split at ha
   ·rename_i jG
    simp only[Bool.and_eq_true,decide_eq_true_eq]at jG
    cases ha
    obtain⟨G',Hu⟩:=O1 (t:=t) (cO:=cO) hI hB hR.1 jG.1 jG.2 (λb=>by have:=hc b;simp only[List.map_cons,kS,cv]at this;omega)
    exact⟨_,_,_,_,_,Wi ho,.inl rfl,Hu,eK.refl _ _⟩
   ·cases ha
  ·cases ha
 ·
  rename_i t x j n ho
  obtain⟨hR,hc⟩:=hA _ hm
  unfold aL at ha
  simp only at ha
  split at ha
  ·split at ha
   ·rename_i jG
    simp only[Bool.and_eq_true,decide_eq_true_eq]at jG
    cases ha
    have hb:j<β.length:=by rw[hB.len];exact jG.1.1
    obtain⟨BB,Le⟩:=aO.cells hR.1
    refine⟨_,_,_,_,_,Wi ho,.inl rfl,Li (c:=(ρ x).cells) (e:=t) (w':=w.alloc (.cells (ρ x).cells t)) hI hB rfl rfl rfl jG.1.1 BB jG.2 (λb=>by have:=hc b;simp only[List.map_cons,kS,cv]at this;rw[Le];omega),?_⟩
    exact eK.set (List.getElem?_eq_getElem hb) λh=>absurd rfl h
   ·cases ha
  ·cases ha
 ·
  rename_i t x y sz bytes zero mt ho
  simp only[Bool.and_eq_true]at hm
  obtain⟨hm,ht⟩:=hm
  obtain⟨hR,hc⟩:=hA _ hm
  split at ht
  ·rename_i e hu
   simp only[Bool.and_eq_true,decide_eq_true_eq]at ht
   obtain⟨⟨⟨⟨h1,h2⟩,h3⟩,h4⟩,h5⟩:=ht
   unfold aL at ha
   simp only at ha
   split at ha
   ·rename_i n c
    split at ha
    ·rename_i jG
     obtain⟨c1,c2,c3,c4⟩:=jG
     have hcm:c<=9223372036854775807:=by
      have:c*1<=c*bytes:=Int.mul_le_mul_of_nonneg_left (by omega) (by omega)
      simp only[dQ]at c3
      omega
     obtain⟨cells,e1,e2,e3,e4⟩:=G6 (w:=w) (G:=G) ho hu h1 h2 h3 h4 c4 (aO.fD hR.1) (aO.fD hR.2.1) c1 c2 c3 hcm
     obtain⟨_,_,_,_,_,GU,On⟩:=kK h3 w G
     have hle:n.toNat*sz<=c.toNat*sz:=Nat.mul_le_mul_right _ (by omega)
     have cm:bU sz (List.replicate n.toNat zero)=true:=cn.2 λr hr=>by rw[List.eq_of_mem_replicate hr,c4]
     have iA:∀r∈List.replicate n.toNat zero,AV.aK r=true:=λr hr=>by rw[List.eq_of_mem_replicate hr];exact On
     have hx:∀(k:Nat) x,(cells.toList.take (n.toNat*sz))[k]?=some x->cells[k]?=some x:=λk x hk=>by
      rw[List.getElem?_take]at hk
      split at hk
      ·simpa using hk
      ·cases hk
     split at ha
     ·cases ha
      by_cases yH:c.toNat=0
      ·have Fa:n.toNat=0:=by omega
       rw[Fa,yH]at e1
       rw[Fa]
       have hA0:iU w G β st bx cO (w.alloc (.cells cells e)) (G.new w.heap.size (some 0) [⟨some ⟨w.heap.size,0,none⟩,0,0,sz,0,false,[]⟩]) β (st++[.rows 0 sz []]) bx (.val (.mu st.length 0)) (.slice (some ⟨w.heap.size,0,none⟩) 0 0):=by
        have hl:(G.new w.heap.size (some 0) [⟨some ⟨w.heap.size,0,none⟩,0,0,sz,0,false,[]⟩]).ls[st.length]?=some ⟨some ⟨w.heap.size,0,none⟩,0,0,sz,0,false,[]⟩:=by
         simp only[aM.new]
         rw[List.getElem?_append_right (by rw[hI.len];exact Nat.le_refl _),hI.len]
         simp
        exact qv (w':=w.alloc (.cells cells e)) (ao:=.rows 0 sz []) (ob:=.cells cells e) rfl rfl rfl hI hB ⟨rfl,rfl,by simp[bU],by simp,rfl,rfl,rfl,λi r xs h=>by simp at h,.inl ⟨rfl,rfl,rfl⟩⟩ (.mu _ _ _ _ ⟨_,_,_,rfl⟩ hl (Nat.le_refl _) λ_=>rfl) rfl λb=>by simp[gX,j9.jl,fz]
       exact⟨_,_,_,_,_,e1,.inl rfl,hA0,eK.refl _ _⟩
      ·obtain⟨G',Hu,_⟩:=tS (sz:=sz) (cap:=c.toNat) (rows:=List.replicate n.toNat zero) (c:=cells) (e:=e) (xs:=cells.toList.take (n.toNat*sz)) (w':=w.alloc (.cells cells e)) (cO:=cO) hI hB rfl rfl rfl cm iA e3 (by omega) (by omega) (by simp;omega) hx (λb=>by rw[e4];omega)
       rw[List.length_replicate]at Hu
       exact⟨_,_,_,_,_,e1,.inl rfl,Hu,eK.refl _ _⟩
     ·split at ha
      ·rename_i hpz
       cases ha
       obtain⟨G',Hu⟩:=E8 (sz:=sz) (cap:=c.toNat) (rows:=List.replicate n.toNat zero) (c:=cells) (e:=e) (xs:=cells.toList.take (n.toNat*sz)) (w':=w.alloc (.cells cells e)) (cO:=cO) hI hB rfl rfl rfl cm iA
        (λr hr=>by rw[List.eq_of_mem_replicate hr];exact(cy zero).2 λc hc=>(GU c hc).1) (λr hr=>by rw[List.eq_of_mem_replicate hr];exact hpz) e3 (by omega) (by simp;omega) hx
       rw[List.length_replicate]at Hu
       exact⟨_,_,_,_,_,e1,.inl rfl,Hu,eK.refl _ _⟩
      ·cases ha
    ·cases ha
   ·cases ha
  ·cases ht
 ·
  rename_i t ho
  unfold aL at ha
  simp only at ha
  split at ha
  ·cases ha
   obtain⟨G',Hu⟩:=TQ (cO:=cO) hI hB
   exact⟨_,_,_,_,_,by simp only[execOp,ho,Option.map_none,Sem.run_bind,show (Instr.makeMap t none).run P w=.ok (.map (some w.heap.size)) (w.alloc (.map #[] 0)) from rfl,Result.andThen_ok,Sem.run_pure],.inl rfl,Hu,eK.refl _ _⟩
  ·cases ha
 ·
  rename_i t m k x kk ho
  simp only[Bool.and_eq_true]at hm
  obtain⟨hm,ht⟩:=hm
  obtain⟨hR,hc⟩:=hA _ hm
  split at ht
  ·rename_i kt et hu
   have BO:=ha
   unfold aL at ha
   simp only at ha
   split at ha
   ·obtain⟨w',G',e1,e2⟩:=zG (.inl ho) hu ht hI hB hX hR.1 hR.2.1 hR.2.2.1 BO
    exact⟨_,_,_,_,_,e1,.inr ⟨rfl,rfl⟩,e2,eK.refl _ _⟩
   ·cases ha
  ·cases ht
 ·
  rename_i t m k x kk ho
  simp only[Bool.and_eq_true]at hm
  obtain⟨hm,ht⟩:=hm
  obtain⟨hR,hc⟩:=hA _ hm
  split at ht
  ·rename_i kt et hu
   have BO:=ha
   unfold aL at ha
   simp only at ha
   split at ha
   ·obtain⟨w',G',e1,e2⟩:=zG (.inr ho) hu ht hI hB hX hR.1 hR.2.1 hR.2.2.1 BO
    exact⟨_,_,_,_,_,e1,.inr ⟨rfl,rfl⟩,e2,eK.refl _ _⟩
   ·cases ha
  ·cases ht
 ·
  rename_i t m k ok kk zero ok' ho
  simp only[Bool.and_eq_true,beq_iff_eq]at hm
  obtain⟨⟨rfl,hm⟩,ht⟩:=hm
  obtain⟨hR,hc⟩:=hA _ hm
  split at ht
  ·rename_i kt et hu
   simp only[Bool.and_eq_true]at ht
   obtain⟨ht,hz⟩:=ht
   split at hz
   ·rename_i ie hie
    split at hz
    ·rename_i z hzz
     unfold aL at ha
     simp only at ha
     split at ha
     ·rename_i am ak
      split at ha
      ·cases ha
      ·rename_i es qe
       split at ha
       ·split at ha
        ·cases ha
        ·rename_i br hf
         cases ha
         have ag9:(am=.fG/\es=[])\/∃id,am=.map id/\st[id]?=some (.map es):=by
          split at qe
          ·cases qe;exact .inl ⟨rfl,rfl⟩
          ·rename_i id
           split at qe
           ·rename_i fh;cases qe;exact .inr ⟨id,rfl,fh⟩
           ·cases qe
          ·cases qe
         obtain⟨u,e1,e2,e3⟩:=OY ho hu ht hie hzz hz hI ag9 hf hR.1 hR.2.1
         refine iV.bZ hI hB e1 e2 ?_
         cases ok
         ·exact e3
         ·simp[AV.bZ,AV.dH,e3]
       ·cases ha
     ·cases ha
    ·cases hz
   ·cases hz
  ·cases ht
 ·
  rename_i f first ke f' n ho
  simp only[Bool.and_eq_true,beq_iff_eq,decide_eq_true_eq]at hm
  obtain⟨⟨⟨rfl,hm⟩,rfl⟩,hf⟩:=hm
  obtain⟨hR,hc⟩:=hA _ hm
  unfold aL at ha
  simp only at ha
  split at ha
  ·rename_i vs Dn
   cases ha
   obtain⟨hv,BB⟩:=hR.MY Dn
   obtain⟨e1,e2⟩:=JC (P:=P) hf ho hv
   exact iV.bZ hI hB e1 e2 rfl
  ·cases ha
 ·
  rename_i c k ho
  simp only[Bool.and_eq_true,beq_iff_eq]at hm
  obtain⟨⟨hm,eH⟩,ht⟩:=hm
  obtain⟨hR,hc⟩:=hA _ hm
  obtain⟨x,hx⟩:∃x,c.args.toList=[x]:=List.length_eq_one_iff.1 (by simpa using eH)
  rw[hx]at hR hc
  split at ht
  ·rename_i t rY Wu
   unfold aL at ha
   simp only at ha
   split at ha
   ·split at ha
    ·rename_i n hn
     cases ha
     refine iV.bZ hI hB (ab1 ho rY hx Wu (k:=k) ?_ hI hn hR.1) (.int _ _) rfl
     split at ht
     ·assumption
     ·exact⟨_,by assumption⟩
     ·exact⟨_,_,by assumption⟩
     ·cases ht
    ·cases ha
   ·cases ha
  ·cases ht
 ·
  rename_i c mx ho
  simp only[Bool.and_eq_true,beq_iff_eq]at hm
  obtain⟨⟨hm,eH⟩,ht⟩:=hm
  obtain⟨hR,hc⟩:=hA _ hm
  obtain⟨x,y,hx⟩:∃x y,c.args.toList=[x,y]:=BM (by simpa using eH)
  rw[hx]at hR hc
  unfold aL at ha
  simp only at ha
  split at ha
  ·split at ha
   ·rename_i hk
    subst hk
    cases ha
    split at ht
    ·rename_i rY
     rw[if_pos ht]
     exact iV.bZ hI hB (ab2 ho rY hx hR.1 hR.2.1) (.int _ _) rfl
    ·rename_i rY
     rw[if_neg (by simpa using ht)]
     exact iV.bZ hI hB (ab3 ho rY hx hR.1 hR.2.1) (.int _ _) rfl
    ·cases ht
   ·cases ha
  ·cases ha
 ·
  rename_i c sz bytes ho
  simp only[Bool.and_eq_true,beq_iff_eq]at hm
  obtain⟨⟨⟨hm,eH⟩,JT⟩,ht⟩:=hm
  obtain⟨hR,hc⟩:=hA _ hm
  obtain⟨x,y,hx⟩:∃x y,c.args.toList=[x,y]:=BM (by simpa using eH)
  rw[hx]at hR hc
  split at ht
  ·rename_i t u rY XT Lt
   simp only[Bool.and_eq_true]at ht
   obtain⟨vZ,Lu⟩:=ht
   split at vZ
   ·rename_i e hu
    simp only[Bool.and_eq_true,decide_eq_true_eq]at vZ
    obtain⟨⟨⟨⟨h1,h2⟩,h3⟩,h4⟩,h5⟩:=vZ
    split at h5
    ·rename_i i hi
     split at h5
     ·rename_i z hz
      simp only[beq_iff_eq]at h5
      have hT:JI P t u e sz bytes i z:=by
       refine⟨hu,hi,hz,?_,?_,h5,h3,h4,?_⟩
       ·obtain⟨i',oT,Dq,_⟩:=kj h1
        rw[hi]at oT;cases oT;exact Dq
       ·simpa [nA,hi] using h2
       ·split at Lu
        ·exact .inl ⟨_,by assumption⟩
        ·exact .inr (by assumption)
        ·cases Lu
      have BO:=ha
      unfold aL at ha
      simp only at ha
      split at ha
      ·obtain⟨v,w',G',e1,e2⟩:=O4 (ty:=o.type) hT hI hB hX hR.1 hR.2.1 (λb=>by have:=hc b;simp only[List.map_cons,kS,cv]at this;omega) BO
       refine⟨_,_,_,_,_,?_,.inl rfl,e2,eK.refl _ _⟩
       simp only[execOp,ho,resolve,rY,Sem.run_bind,Sem.run_pure,Result.andThen_ok,invoke,builtin,mX hx,uY JT XT Lt]
       simp[e1]
      ·cases ha
     ·cases h5
    ·cases h5
   ·cases vZ
  ·cases ht
 ·
  rename_i c sz bytes ho
  simp only[Bool.and_eq_true,beq_iff_eq]at hm
  obtain⟨⟨⟨hm,eH⟩,JT⟩,ht⟩:=hm
  obtain⟨hR,hc⟩:=hA _ hm
  obtain⟨x,y,hx⟩:∃x y,c.args.toList=[x,y]:=BM (by simpa using eH)
  rw[hx]at hR hc
  split at ht
  ·rename_i t u rY XT Lt
   simp only[Bool.and_eq_true]at ht
   obtain⟨vZ,Lu⟩:=ht
   split at vZ
   ·rename_i e hu
    simp only[Bool.and_eq_true,decide_eq_true_eq]at vZ
    obtain⟨⟨⟨⟨h1,h2⟩,h3⟩,h4⟩,h5⟩:=vZ
    split at h5
    ·rename_i i hi
     split at h5
     ·rename_i z hz
      simp only[beq_iff_eq]at h5
      have hT:JI P t u e sz bytes i z:=by
       refine⟨hu,hi,hz,?_,?_,h5,h3,h4,?_⟩
       ·obtain⟨i',oT,Dq,_⟩:=kj h1
        rw[hi]at oT;cases oT;exact Dq
       ·simpa [nA,hi] using h2
       ·split at Lu
        ·exact .inl ⟨_,by assumption⟩
        ·exact .inr (by assumption)
        ·cases Lu
      have BO:=ha
      unfold aL at ha
      simp only at ha
      split at ha
      ·obtain⟨v,w',G',e1,e2⟩:=MS (ty:=o.type) hT hI hB hX hR.1 hR.2.1 BO
       refine⟨_,_,_,_,_,?_,.inl rfl,e2,eK.refl _ _⟩
       simp only[execOp,ho,resolve,rY,Sem.run_bind,Sem.run_pure,Result.andThen_ok,invoke,builtin,mX hx,uY JT XT Lt]
       simp[e1]
      ·cases ha
     ·cases h5
    ·cases h5
   ·cases vZ
  ·cases ht
 ·
  rename_i c sz ho
  simp only[Bool.and_eq_true,beq_iff_eq]at hm
  obtain⟨⟨⟨hm,eH⟩,JT⟩,ht⟩:=hm
  obtain⟨hR,hc⟩:=hA _ hm
  obtain⟨x,y,hx⟩:∃x y,c.args.toList=[x,y]:=BM (by simpa using eH)
  rw[hx]at hR hc
  split at ht
  ·rename_i t u rY XT Lt
   simp only[Bool.and_eq_true]at ht
   obtain⟨vZ,Lu⟩:=ht
   split at vZ
   ·rename_i e hu
    have hk:(∃e',P.underlying u=some (.slice e'))\/P.underlying u=some .string:=by
     split at Lu
     ·exact .inl ⟨_,by assumption⟩
     ·exact .inr (by assumption)
     ·cases Lu
    have BO:=ha
    unfold aL at ha
    simp only at ha
    split at ha
    ·obtain⟨v,w',G',e1,e2⟩:=XM (ty:=o.type) hu vZ hk hI hB hX hR.1 hR.2.1 BO
     refine⟨_,_,_,_,_,?_,.inl rfl,e2,eK.refl _ _⟩
     simp only[execOp,ho,resolve,rY,Sem.run_bind,Sem.run_pure,Result.andThen_ok,invoke,builtin,mX hx,uY JT XT Lt]
     simp[e1]
    ·cases ha
   ·cases vZ
  ·cases ht
 ·
  rename_i s d x ho
  simp only[Bool.and_eq_true]at hm
  obtain⟨hm,ht⟩:=hm
  obtain⟨hR,hc⟩:=hA _ hm
  split at ht
  ·rename_i e h1 h2
   split at ht
   ·rename_i h3
    unfold aL at ha
    simp only at ha
    split at ha
    ·split at ha
     ·rename_i rows xu
      split at ha
      ·rename_i l hl
       cases ha
       obtain⟨u,e1,e2⟩:=T4 ho h1 h3 h2 hI hR.1 xu hl
       exact iV.bZ hI hB e1 e2 rfl
      ·cases ha
     ·cases ha
    ·cases ha
   ·cases ht
  ·cases ht
 ·
  unfold aL at ha
  cases ha
 ·
  unfold aL at ha
  cases ha
 ·
  rename_i t x y sz bytes zero ho
  simp only[Bool.and_eq_true]at hm
  obtain⟨hm,ht⟩:=hm
  obtain⟨hR,hc⟩:=hA _ hm
  split at ht
  ·rename_i e hu
   simp only[Bool.and_eq_true,decide_eq_true_eq]at ht
   obtain⟨⟨⟨⟨h1,h2⟩,h3⟩,h4⟩,h5⟩:=ht
   unfold aL at ha
   simp only at ha
   split at ha
   ·rename_i n c
    split at ha
    ·rename_i jG
     obtain⟨c1,c2,c3,c4,hpz⟩:=jG
     have hcm:c<=9223372036854775807:=by
      have:c*1<=c*bytes:=Int.mul_le_mul_of_nonneg_left (by omega) (by omega)
      simp only[dQ]at c3
      omega
     obtain⟨cells,e1,e2,e3,e4⟩:=G6 (w:=w) (G:=G) ho hu h1 h2 h3 h4 c4 (aO.fD hR.1) (aO.fD hR.2.1) c1 c2 c3 hcm
     obtain⟨_,_,_,_,_,GU,On⟩:=kK h3 w G
     have hle:n.toNat*sz<=c.toNat*sz:=Nat.mul_le_mul_right _ (by omega)
     have cm:bU sz (List.replicate n.toNat zero)=true:=cn.2 λr hr=>by rw[List.eq_of_mem_replicate hr,c4]
     have iA:∀r∈List.replicate n.toNat zero,AV.aK r=true:=λr hr=>by rw[List.eq_of_mem_replicate hr];exact On
     have hx:∀(k:Nat) x,(cells.toList.take (n.toNat*sz))[k]?=some x->cells[k]?=some x:=λk x hk=>by
      rw[List.getElem?_take]at hk
      split at hk
      ·simpa using hk
      ·cases hk
     cases ha
     obtain⟨G',Hu⟩:=TM (sz:=sz) (cap:=c.toNat) (rows:=List.replicate n.toNat zero) (c:=cells) (e:=e) (xs:=cells.toList.take (n.toNat*sz)) (w':=w.alloc (.cells cells e)) (cO:=cO) hI hB rfl rfl rfl cm iA
      (λr hr=>by rw[List.eq_of_mem_replicate hr];exact(cy zero).2 λc hc=>(GU c hc).1) (λr hr=>by rw[List.eq_of_mem_replicate hr];exact hpz) e3 (by omega) (by simp;omega) hx
     rw[List.length_replicate]at Hu
     exact⟨_,_,_,_,_,e1,.inl rfl,Hu,eK.refl _ _⟩
    ·cases ha
   ·cases ha
  ·cases ht
 ·
  rename_i c sz bytes zero ho
  simp only[Bool.and_eq_true,beq_iff_eq]at hm
  obtain⟨⟨⟨hm,eH⟩,JT⟩,ht⟩:=hm
  obtain⟨hR,hc⟩:=hA _ hm
  obtain⟨x,y,hx⟩:∃x y,c.args.toList=[x,y]:=BM (by simpa using eH)
  rw[hx]at hR hc
  split at ht
  ·rename_i t u rY XT Lt
   simp only[Bool.and_eq_true]at ht
   obtain⟨vZ,Lu⟩:=ht
   split at vZ
   ·rename_i e hu
    simp only[Bool.and_eq_true,decide_eq_true_eq]at vZ
    obtain⟨⟨⟨⟨h1,h2⟩,h3⟩,h4⟩,h5⟩:=vZ
    have hk:∃k,P.underlying u=some (.int k):=by
     split at Lu
     ·exact⟨_,by assumption⟩
     ·cases Lu
    have BO:=ha
    unfold aL at ha
    simp only at ha
    split at ha
    ·obtain⟨v,w',G',e1,e2⟩:=MU (ty:=o.type) hu hk h1 h2 h3 h4 h5 hI hB hX hR.1 hR.2.1 BO
     refine⟨_,_,_,_,_,?_,.inl rfl,e2,eK.refl _ _⟩
     simp only[execOp,ho,resolve,rY,Sem.run_bind,Sem.run_pure,Result.andThen_ok,invoke,builtin,mX hx,uY JT XT Lt]
     simp[e1]
    ·cases ha
   ·cases vZ
  ·cases ht
 ·
  rename_i c ho
  simp only[Bool.and_eq_true,beq_iff_eq]at hm
  obtain⟨⟨hm,eH⟩,ht⟩:=hm
  obtain⟨hR,hc⟩:=hA _ hm
  obtain⟨x,hx⟩:∃x,c.args.toList=[x]:=List.length_eq_one_iff.1 (by simpa using eH)
  rw[hx]at hR hc
  split at ht
  ·rename_i t rY Wu
   split at ht
   ·rename_i e hu
    unfold aL at ha
    simp only at ha
    split at ha
    ·cases ha
     refine iV.bZ hI hB ?_ (.int _ _) rfl
     have e1:∃n,ρ x=.slice none n 0:=by
      have h1:aO w G .U (ρ x):=hR.1
      generalize ρ x=v at h1
      cases h1
      exact⟨_,rfl⟩
     obtain⟨n,e1⟩:=e1
     simp[execOp,ho,resolve,rY,invoke,builtin,JA hx,Builtin.cap_,Wu,run_underlying hu,e1,goInt]
    ·cases ha
   ·cases ht
  ·cases ht
 ·
  have h0:so.args=[]:=by simpa using hm
  have hv:=(hA [] (by rw[h0];rfl)).1
  cases vals with
  |nil=>unfold aL at ha;simp at ha
  |cons a l=>simp[jY]at hv
 ·cases hm
end Ax
namespace Ax
open Go
variable {P:Program}{w w':World}{G G':aM}{β gf:List lE}
theorem tX(d:Nat)(e:eG)(t:Nat):∀env:nZ,cQ (tH env d e) t=if t=d then e else cQ env t
 |[]=>by
  simp only[tH,cQ]
  by_cases h:d=t
  ·rw[if_pos h,if_pos h.symm]
  ·rw[if_neg h,if_neg (show ¬t=d from λe=>h e.symm)]
 |(k,x)::r=>by
  have ih:=tX d e t r
  unfold tH
  split
  ·simp only[cQ]
   by_cases h:d=t
   ·rw[if_pos h,if_pos h.symm]
   ·rw[if_neg h,if_neg (show ¬t=d from λe=>h e.symm)]
  ·split
   ·rename_i hk
    subst hk
    simp only[cQ]
    by_cases h:d=t
    ·rw[if_pos h,if_pos h.symm]
    ·rw[if_neg h,if_neg (show ¬t=d from λe=>h e.symm),if_neg h]
   ·simp only[cQ,ih]
    by_cases h:k=t
    ·rw[if_pos h,if_pos h,if_neg (by omega)]
    ·rw[if_neg h,if_neg h]
theorem BP(d t:Nat):∀env:nZ,cQ (Ah env d) t=if t=d then .none else cQ env t
 |[]=>by simp[Ah,cQ]
 |(k,x)::r=>by
  have ih:=BP d t r
  unfold Ah
  split
  ·rename_i h
   rw[ih]
   simp only[cQ]
   by_cases h2:t=d
   ·rw[if_pos h2,if_pos h2]
   ·rw[if_neg h2,if_neg h2,if_neg (by omega)]
  ·simp only[cQ,ih]
   by_cases h2:t=d
   ·rw[if_pos h2,if_pos h2]
    rw[if_neg (by omega)]
   ·rw[if_neg h2,if_neg h2]
def oI:List Src->List Nat
 |[]=>[]
 |.tmp t true::r=>t::oI r
 |_::r=>oI r
theorem rz(t:Nat):∀(ss:List Src)(env:nZ),cQ (ss.foldl k8 env) t=if t∈oI ss then .none else cQ env t
 |[],env=>by simp[oI]
 |.tmp u true::r,env=>by
  simp only[List.foldl_cons,k8,oI,rz t r,BP,List.mem_cons]
  by_cases h1:t∈oI r
  ·simp[h1]
  ·by_cases h2:t=u
   ·simp[h2]
   ·simp[h1,h2]
 |.tmp u false::r,env=>by rw[List.foldl_cons,rz t r];rfl
 |.const a::r,env=>by rw[List.foldl_cons,rz t r];rfl
theorem rZ(t:Nat):∀(l:List Nat)(env:nZ),cQ (iz l env) t=if t∈l then .none else cQ env t
 |[],env=>by simp[iz]
 |u::l,env=>by
  simp only[iz,rZ t l,BP,List.mem_cons]
  by_cases h1:t∈l
  ·simp[h1]
  ·by_cases h2:t=u
   ·simp[h2]
   ·simp[h1,h2]
theorem D0(t:Nat):∀(k:Nat)(l:List AV),cQ (DQ k l) t=if k<=t then (match l[t-k]? with|some v=>.val v|none=>.none) else .none
 |k,[]=>by simp[DQ,cQ]
 |k,v::r=>by
  simp only[DQ,cQ,D0 t (k+1) r]
  by_cases h:k=t
  ·subst h;simp
  ·rw[if_neg h]
   by_cases h2:k<=t
   ·rw[if_pos h2,if_pos (by omega),show t-k=(t-(k+1))+1 by omega]
    simp
   ·rw[if_neg h2,if_neg (by omega)]
theorem BQ{j:Nat}:∀{env:nZ},n7 j env=true->∀t,(cQ env t).nL j=true
 |[],_,_=>rfl
 |(k,x)::r,h,t=>by
  simp only[n7,List.all_cons,Bool.and_eq_true]at h
  simp only[cQ]
  split
  ·exact h.1
  ·exact BQ (env:=r) (by simpa [n7] using h.2) t
def ga(f:Nat->Nat):Nat->Nat
 |0=>0
 |n+1=>ga f n+f n
theorem mY{f g:Nat->Nat}:∀{n:Nat},(∀t,t<n->f t=g t)->ga f n=ga g n
 |0,_=>rfl
 |n+1,h=>by simp only[ga];rw[mY λt ht=>h t (by omega),h n (by omega)]
theorem AJ{f g:Nat->Nat}:∀{n:Nat},(∀t,t<n->f t<=g t)->ga f n<=ga g n
 |0,_=>Nat.le_refl _
 |n+1,h=>by
  simp only[ga]
  have h1:=AJ (f:=f) (g:=g) (n:=n) λt ht=>h t (by omega)
  have h2:=h n (by omega)
  omega
theorem rA{f g:Nat->Nat}{d:Nat}:∀{n:Nat},d<n->(∀t,t≠d->f t=g t)->ga f n+g d=ga g n+f d
 |0,h,_=>by omega
 |n+1,h,he=>by
  simp only[ga]
  by_cases hd:d=n
  ·subst hd
   rw[mY (f:=f) (g:=g) λt ht=>he t (by omega)]
   omega
  ·have:=rA (f:=f) (g:=g) (n:=n) (d:=d) (by omega) he
   rw[he n λe=>hd e.symm]
   omega
theorem tY{f:Nat->Nat}{t n:Nat}(h:t<n):f t<=ga f n:=by
 have:=rA (f:=λu=>if u=t then 0 else f u) (g:=f) (d:=t) h λu hu=>if_neg hu
 simp only[if_true]at this
 omega
theorem D1{n:Nat}:ga (λ_=>0) n=0:=by
 induction n with
 |zero=>rfl
 |succ n ih=>simp[ga,ih]
def oh(f:Nat->Nat):List Nat->Nat
 |[]=>0
 |t::l=>f t+oh f l
theorem xz{f:Nat->Nat}{n:Nat}(hf:∀t,n<=t->f t=0):∀(l:List Nat),l.Nodup->oh f l+ga (λt=>if t∈l then 0 else f t) n<=ga f n
 |[],_=>by simp[oh]
 |t::l,h=>by
  have ih:=xz hf l (List.nodup_cons.1 h).2
  have hn:=(List.nodup_cons.1 h).1
  simp only[oh]
  by_cases ht:t<n
  ·have:=rA (f:=λu=>if u∈t::l then 0 else f u) (g:=λu=>if u∈l then 0 else f u) (d:=t) ht λu hu=>by simp[hu]
   simp only[List.mem_cons,true_or,if_true,if_neg hn]at this
   simp only[List.mem_cons]
   omega
  ·rw[hf t (by omega)]
   rw[mY (f:=λu=>if u∈t::l then 0 else f u) (g:=λu=>if u∈l then 0 else f u) λu hu=>by simp[show u≠t by omega]]
   omega
mutual
def AV.under(n:Nat):AV->Bool
 |.mu i _|.ptr i _ _ _|.map i=>decide (i<n)
 |.agg cs|.fK cs=>AV.mZ n cs
 |.fn _ a b=>AV.mZ n a&&AV.mZ n b
 |_=>true
def AV.mZ(n:Nat):List AV->Bool
 |[]=>true
 |v::r=>v.under n&&AV.mZ n r
end
theorem gh(n:Nat):∀cs:List AV,AV.mZ n cs=true↔∀c∈cs,c.under n=true
 |[]=>by simp[AV.mZ]
 |c::cs=>by simp[AV.mZ,gh n cs]
mutual
theorem iB(n:Nat):∀a:AV,a.an=true->a.under n=true
 |.mu _ _,h=>by simp[AV.an]at h
 |.ptr _ _ _ _,h=>by simp[AV.an]at h
 |.map _,h=>by simp[AV.an]at h
 |.agg cs,h=>by simp only[AV.an,AV.under]at *;exact nP n cs h
 |.fK cs,h=>by simp only[AV.an,AV.under]at *;exact nP n cs h
 |.fn _ a b,h=>by simp only[AV.an,AV.under,Bool.and_eq_true]at *;exact⟨nP n a h.1,nP n b h.2⟩
 |.undef,_|.gone,_|.bool _,_|.int _ _,_|.str _,_|.eO,_|.U,_|.fG,_|.iw,_|.jF,_|.dj _ _,_|.je _ _,_|.raw _ _,_|.kV,_|.ox _ _ _ _,_=>by simp[AV.under]
theorem nP(n:Nat):∀cs:List AV,AV.ah cs=true->AV.mZ n cs=true
 |[],_=>rfl
 |c::cs,h=>by
  simp only[AV.ah,Bool.and_eq_true]at h
  simp only[AV.mZ,iB n c h.1,nP n cs h.2,Bool.and_self]
end
mutual
theorem JU{m n:Nat}(XU:m<=n):∀a:AV,a.under m=true->a.under n=true
 |.mu _ _,h|.ptr _ _ _ _,h|.map _,h=>by simp only[AV.under,decide_eq_true_eq]at *;omega
 |.agg cs,h=>by simp only[AV.under]at *;exact nQ XU cs h
 |.fK cs,h=>by simp only[AV.under]at *;exact nQ XU cs h
 |.fn _ a b,h=>by simp only[AV.under,Bool.and_eq_true]at *;exact⟨nQ XU a h.1,nQ XU b h.2⟩
 |.undef,_|.gone,_|.bool _,_|.int _ _,_|.str _,_|.eO,_|.U,_|.fG,_|.iw,_|.jF,_|.dj _ _,_|.je _ _,_|.raw _ _,_|.kV,_|.ox _ _ _ _,_=>by simp[AV.under]
theorem nQ{m n:Nat}(XU:m<=n):∀cs:List AV,AV.mZ m cs=true->AV.mZ n cs=true
 |[],_=>rfl
 |c::cs,h=>by
  simp only[AV.mZ,Bool.and_eq_true]at *
  exact⟨JU XU c h.1,nQ XU cs h.2⟩
end
theorem aO.xA{a:AV}{v:Value}(h:aO w G a v):a.under G.ls.length=true:=by
 induction h with
 |agg cs vs hl h ih=>
  simp only[AV.under]
  refine(gh _ cs).2 λc hc=>?_
  obtain⟨i,hi,rfl⟩:=List.mem_iff_getElem.1 hc
  have oT:i<vs.size:=by omega
  exact ih i cs[i] vs[i] (List.getElem?_eq_getElem hi) (by simp[oT])
 |fK cs vs hl h ih=>
  simp only[AV.under]
  refine(gh _ cs).2 λc hc=>?_
  obtain⟨i,hi,rfl⟩:=List.mem_iff_getElem.1 hc
  have oT:i<vs.size:=by omega
  exact ih i cs[i] vs[i] (List.getElem?_eq_getElem hi) (by simp[oT])
 |mu id bX v loc hp hl hv he=>simpa [AV.under] using (List.getElem?_eq_some_iff.1 hl).1
 |ptr id bX i k v loc hp hl hv he=>simpa [AV.under] using (List.getElem?_eq_some_iff.1 hl).1
 |map id loc b hl hm hb=>simpa [AV.under] using (List.getElem?_eq_some_iff.1 hl).1
 |fn f first ke vf vc hl hm hn h k ih ik=>
  simp only[AV.under,Bool.and_eq_true]
  refine⟨(gh _ first).2 λc hc=>?_,(gh _ ke).2 λc hc=>?_⟩
  ·obtain⟨i,hi,rfl⟩:=List.mem_iff_getElem.1 hc
   have oT:i<vf.size:=by omega
   exact ih i first[i] vf[i] (List.getElem?_eq_getElem hi) (by simp[oT])
  ·obtain⟨i,hi,rfl⟩:=List.mem_iff_getElem.1 hc
   have oT:i<vc.size:=by omega
   exact ik i ke[i] vc[i] (List.getElem?_eq_getElem hi) (by simp[oT])
 |_=>simp[AV.under]
def aM.cut(G:aM)(n:Nat):aM:=⟨G.ls.take n,G.kR⟩
theorem AK{n i:Nat}{loc:j9}(h:G.ls[i]?=some loc)(hi:i<n):(G.cut n).ls[i]?=some loc:=by
 simp only[aM.cut];rw[List.getElem?_take,if_pos hi];exact h
theorem aO.BR{n:Nat}{a:AV}{v:Value}(h:aO w G a v):a.under n=true->aO w (G.cut n) a v:=by
 induction h with
 |undef=>exact λ_=>.undef
 |gone v h=>exact λ_=>.gone v h
 |bool b=>exact λ_=>.bool b
 |int k n=>exact λ_=>.int k n
 |str l s h=>exact λ_=>.str l s h
 |eO=>exact λ_=>.eO
 |U=>exact λ_=>.U
 |fG=>exact λ_=>.fG
 |iw=>exact λ_=>.iw
 |jF=>exact λ_=>.jF
 |agg cs vs hl h ih=>exact λhb=>.agg cs vs hl λi c v h1 h2=>ih i c v h1 h2 ((gh n cs).1 (by simpa [AV.under] using hb) c (cU h1))
 |fK cs vs hl h ih=>exact λhb=>.fK cs vs hl λi c v h1 h2=>ih i c v h1 h2 ((gh n cs).1 (by simpa [AV.under] using hb) c (cU h1))
 |dj sz rows a cap oG fo cm iP nM uK hc hr ih=>
  exact λ_=>.dj sz rows a cap oG fo cm iP nM uK hc λi r j c v h1 h2 h3=>ih i r j c v h1 h2 h3 (iB n c ((fS r).1 (nM r (cU h1)) c (cU h2)))
 |je sz rows a cap oG fo cm iP nM uK hc hr gV ff ih=>
  exact λ_=>.je sz rows a cap oG fo cm iP nM uK hc (λi r j c v h1 h2 h3=>ih i r j c v h1 h2 h3 (iB n c ((fS r).1 (nM r (cU h1)) c (cU h2)))) gV ff
 |raw sz rows a cap oG fo cm iP nM uK hc hr gV ff ih=>
  exact λ_=>.raw sz rows a cap oG fo cm iP nM uK hc (λi r j c v h1 h2 h3=>ih i r j c v h1 h2 h3 (iB n c ((fS r).1 (nM r (cU h1)) c (cU h2)))) gV ff
 |kV a=>exact λ_=>.kV a
 |mu id bX v loc hp hl hv he=>exact λhb=>.mu id bX v loc hp (AK hl (by simpa [AV.under] using hb)) hv he
 |ptr id bX i k v loc hp hl hv he=>exact λhb=>.ptr id bX i k v loc hp (AK hl (by simpa [AV.under] using hb)) hv he
 |ox sz rows i k a cap hs ih=>exact λ_=>.ox sz rows i k a cap (ih (by simp[AV.under]))
 |map id loc b hl hm hb=>exact λlN=>.map id loc b (AK hl (by simpa [AV.under] using lN)) hm hb
 |fn f first ke vf vc hl hm hn h k ih ik=>
  intro hb
  simp only[AV.under,Bool.and_eq_true]at hb
  exact .fn f first ke vf vc hl hm hn (λi c v h1 h2=>ih i c v h1 h2 ((gh n first).1 hb.1 c (cU h1))) λi c v h1 h2=>ik i c v h1 h2 ((gh n ke).1 hb.2 c (cU h1))
def fL.under(n:Nat):fL->Bool
 |.rows _ _ rs=>rs.all (AV.mZ n)
 |.map es=>es.all λe=>e.1.under n&&e.2.under n
theorem og.BR{n:Nat}{ob:fL}{loc:j9}(h:og w G ob loc)(hb:ob.under n=true):og w (G.cut n) ob loc:=by
 cases ob with
 |rows bX sz rows=>
  obtain⟨h1,h2,h3⟩:=h
  simp only[fL.under,List.all_eq_true]at hb
  refine⟨h1,h2,h3.Dp,h3.AE,h3.len,h3.size,h3.qO,λi r xs e1 e2=>?_,h3.oe⟩
  obtain⟨a1,a2⟩:=h3.rm i r xs e1 e2
  exact⟨a1,λj c v g1 g2=>(a2 j c v g1 g2).BR ((gh n r).1 (hb r (cU e1)) c (cU g1))⟩
 |map es=>
  obtain⟨h1,h2,b,tK,clock,h3,h4,h5,h6,h7⟩:=h
  simp only[fL.under,List.all_eq_true,Bool.and_eq_true]at hb
  refine⟨h1,h2,b,tK,clock,h3,h4,h5,h6,λi k v e e1 e2=>?_⟩
  obtain⟨g1,g2,g3,g4⟩:=h7 i k v e e1 e2
  have:=hb (k,v) (cU e1)
  exact⟨g1.BR this.1,g2.BR this.2,g3,g4⟩
theorem og.xA{ob:fL}{loc:j9}(h:og w G ob loc):ob.under G.ls.length=true:=by
 cases ob with
 |rows bX sz rows=>
  obtain⟨h1,h2,h3⟩:=h
  simp only[fL.under,List.all_eq_true]
  intro r hr
  obtain⟨i,hi,rfl⟩:=List.mem_iff_getElem.1 hr
  have oT:i<loc.vals.length:=by rw[h3.qO];exact hi
  obtain⟨a1,a2⟩:=h3.rm i rows[i] loc.vals[i] (List.getElem?_eq_getElem hi) (List.getElem?_eq_getElem oT)
  refine(gh _ _).2 λc hc=>?_
  obtain⟨j,hj,rfl⟩:=List.mem_iff_getElem.1 hc
  have hj':j<loc.vals[i].length:=by omega
  exact(a2 j _ _ (List.getElem?_eq_getElem hj) (List.getElem?_eq_getElem hj')).xA
 |map es=>
  obtain⟨h1,h2,b,tK,clock,h3,h4,h5,h6,h7⟩:=h
  simp only[fL.under,List.all_eq_true,Bool.and_eq_true]
  intro x hx
  obtain⟨i,hi,rfl⟩:=List.mem_iff_getElem.1 hx
  have oT:i<tK.size:=by omega
  obtain⟨g1,g2,_,_⟩:=h7 i es[i].1 es[i].2 tK[i] (List.getElem?_eq_getElem hi) (by simp[oT])
  exact⟨g1.xA,g2.xA⟩
def D2(l:Nat)(st:aj):Prop:=∀(id:Nat) ob,id<l->st[id]?=some ob->ob.under l=true
theorem iH.acr{st:aj}(h:iH w G st):D2 st.length st:=by
 intro id ob _ hob
 obtain⟨loc,hl,hr⟩:=h.loc hob
 rw[<-h.len];exact hr.xA
theorem iH.BR{st:aj}{n:Nat}(h:iH w G st)(hl:D2 n st):iH w (G.cut n) (st.take n) where
 len:=by simp[aM.cut,h.len]
 bC:=λid ob loc h1 h2=>by
  simp only[aM.cut]at h2
  rw[List.getElem?_take]at h1 h2
  split at h1
  ·rename_i Jm
   rw[if_pos Jm]at h2
   exact(h.bC id ob loc h1 h2).BR (hl id ob Jm h1)
  ·cases h1
 lF:=h.lF
theorem Ua{n:Nat}(h:qq w G w' G')(hn:G.ls.length<=n):qq w G w' (G'.cut n) where
 ON:=h.ON
 Lb:=λid loc hl=>by
  obtain⟨loc',a1,a2,a3⟩:=h.Lb id loc hl
  exact⟨loc',AK a1 (by have:=(List.getElem?_eq_some_iff.1 hl).1;omega),a2,a3⟩
theorem D3(b:Nat):∀(n:Nat)(ls:List j9)(st:aj),b6 b (ls.take n) (st.take n)<=b6 b ls st
 |0,ls,st=>by simp[b6]
 |n+1,[],st=>by simp[b6]
 |n+1,l::ls,[]=>by simp[b6]
 |n+1,l::ls,o::st=>by
  have:=D3 b n ls st
  simp only[List.take_succ_cons,b6];omega
end Ax
namespace Ax
open Go
structure cZ (wl aa:Nat)(st bS:aj):Prop where
 len:st.length<=bS.length
 low:∀id,id<wl->id<st.length->bS[id]?=st[id]?
 aa:∀l,l<=aa->l<=st.length->D2 l st->D2 l bS
variable {wl aa:Nat}{st bS MG:aj}
theorem cZ.refl(wl aa:Nat)(st:aj):cZ wl aa st st:=⟨Nat.le_refl _,λ_ _ _=>rfl,λ_ _ _ h=>h⟩
theorem cZ.trans(h:cZ wl aa st bS)(k:cZ wl aa bS MG):cZ wl aa st MG:=
 ⟨Nat.le_trans h.len k.len,λid h1 h2=>(k.low id h1 (Nat.lt_of_lt_of_le h2 h.len)).trans (h.low id h1 h2),λl h1 h2 h3=>k.aa l h1 (Nat.le_trans h2 h.len) (h.aa l h1 h2 h3)⟩
theorem cZ.push(wl aa:Nat)(st:aj)(ob:fL):cZ wl aa st (st++[ob]) where
 len:=by simp
 low:=λid _ h=>by rw[List.getElem?_append_left h]
 aa:=λl _ h1 h2 id GG h3 h4=>h2 id GG h3 (by rwa [List.getElem?_append_left (by omega)]at h4)
theorem cZ.set{id:Nat}{ob GG:fL}(fh:st[id]?=some ob)(hw:wl<=id)(h:∀l,l<=aa->id<l->ob.under l=true->GG.under l=true):cZ wl aa st (st.set id GG) where
 len:=by simp
 low:=λi h1 _=>by rw[List.getElem?_set,if_neg (by omega)]
 aa:=λl h1 h2 h3 i XJ h4 h5=>by
  rw[List.getElem?_set]at h5
  split at h5
  ·rename_i e;subst e
   split at h5
   ·cases h5;exact h l h1 h4 (h3 _ ob h4 fh)
   ·cases h5
  ·exact h3 i XJ h4 h5
theorem sd{l bX sz:Nat}{rs:List (List AV)}:(fL.rows bX sz rs).under l=true↔∀r∈rs,∀c∈r,c.under l=true:=by
 simp only[fL.under,List.all_eq_true]
 exact⟨λh r hr=>(gh l r).1 (h r hr),λh r hr=>(gh l r).2 (h r hr)⟩
theorem MZ{α:Type}{as vs:List α}{k:Nat}{x:α}(h:k+vs.length<=as.length)(hx:x∈af as k vs):x∈as\/x∈vs:=by
 rw[jn _ _ _ h]at hx
 rcases List.mem_append.1 hx with hx|hx
 ·rcases List.mem_append.1 hx with hx|hx
  ·exact .inl (List.mem_of_mem_take hx)
  ·exact .inr hx
 ·exact .inl (List.mem_of_mem_drop hx)
theorem se{p:AV}{cells:List AV}(h:dR wl aa st p cells=some bS)(hc:∀id bX i k,p=.ptr id bX i k->True:=λ_ _ _ _ _=>trivial):cZ wl aa st bS:=by
 unfold dR at h
 split at h
 ·split at h
  ·rename_i v sz rows fh
   split at h
   ·rename_i jG
    simp only[Bool.and_eq_true,decide_eq_true_eq,bh,Bool.or_eq_true]at jG
    obtain⟨_,hw,hl⟩:=jG
    split at h
    ·rename_i r hr
     split at h
     ·rename_i cm
      cases h
      refine cZ.set fh hw λl h1 h2 h3=>?_
      rw[sd]at h3 ⊢
      intro r' vM c Om
      rcases List.mem_or_eq_of_mem_set vM with h4|h4
      ·exact h3 r' h4 c Om
      ·subst h4
       rcases MZ cm Om with h5|h5
       ·exact h3 r (cU hr) c h5
       ·rcases hl with hl|hl
        ·omega
        ·exact iB l c ((fS cells).1 hl c h5)
     ·cases h
    ·cases h
   ·cases h
  ·cases h
 ·cases h
theorem BS{sz bytes:Nat}{s:AV}{new:List (List AV)}{bx fm:aU}{r:eG}(h:yC wl aa sz bytes s new st bx=some (r,bS,fm)):cZ wl aa st bS:=by
 unfold yC at h
 split at h
 ·split at h
  ·split at h
   ·cases h;exact cZ.refl _ _ _
   ·split at h
    ·cases h;exact cZ.push _ _ _ _
    ·cases h
  ·split at h
   ·cases h;exact cZ.push _ _ _ _
   ·cases h
  ·split at h
   ·rename_i fh
    split at h
    ·rename_i hc
     simp only[Bool.and_eq_true,decide_eq_true_eq,Bool.or_eq_true,List.all_eq_true]at hc
     cases h
     refine cZ.set fh hc.1.2 λl h1 h2 h3=>?_
     rw[sd]at h3 ⊢
     intro r hr c Td
     rcases List.mem_append.1 hr with h4|h4
     ·exact h3 r h4 c Td
     ·rcases hc.2 with h5|h5
      ·omega
      ·exact iB l c ((fS r).1 (h5 r h4) c Td)
    ·cases h
   ·cases h
  ·cases h
 ·cases h
theorem JV{op:fQ}{vals:List eG}{bx fm:aU}{r:eG}(h:aL wl aa op vals st bx=some (r,bS,fm)):cZ wl aa st bS:=by
 cases op
 case load agg n take=>
  unfold aL at h
  simp only at h
  split at h
  ·split at h
   ·split at h
    ·split at h
     ·rename_i hw _;cases h;exact se hw
     ·cases h
    ·split at h
     ·cases h;exact cZ.refl _ _ _
     ·cases h
   ·cases h
  ·cases h
 case store n=>
  unfold aL at h
  simp only at h
  split at h
  ·split at h
   ·split at h
    ·rename_i hw;cases h;exact se hw
    ·cases h
   ·cases h
  ·cases h
 case wz sz=>
  unfold aL at h
  simp only at h
  split at h
  ·split at h
   ·rename_i fh
    split at h
    ·rename_i hc
     simp only[Bool.and_eq_true,decide_eq_true_eq]at hc
     cases h
     refine cZ.set fh hc.2 λl _ _ h3=>?_
     rw[sd]at h3 ⊢
     exact λr hr=>h3 r (List.mem_of_mem_take hr)
    ·cases h
   ·cases h
  ·cases h
 case mc sz bytes=>
  unfold aL at h
  simp only at h
  split at h
  ·split at h
   ·cases h
   ·exact BS h
  ·cases h
 case uJ sz bytes zero=>
  unfold aL at h
  simp only at h
  split at h
  ·split at h
   ·exact BS h
   ·cases h
  ·cases h
 case copy sz=>
  unfold aL at h
  simp only at h
  split at h
  ·split at h
   ·rename_i fh ry
    split at h
    ·rename_i hc
     simp only[Bool.and_eq_true,decide_eq_true_eq,Bool.or_eq_true,List.all_eq_true]at hc
     cases h
     refine cZ.set fh hc.1.2 λl h1 h2 h3=>?_
     rw[sd]at h3 ⊢
     intro r hr c Td
     rcases List.mem_append.1 hr with h4|h4
     ·rcases hc.2 with h5|h5
      ·omega
      ·exact iB l c ((fS r).1 (h5 r h4) c Td)
     ·exact h3 r (List.mem_of_mem_drop h4) c Td
    ·cases h
   ·cases h
  ·cases h
 case mapUpdate kk=>
  unfold aL at h
  simp only at h
  split at h
  ·rename_i id k v
   split at h
   ·rename_i es fh
    split at h
    ·rename_i hc
     simp only[Bool.and_eq_true,bh,decide_eq_true_eq,Bool.or_eq_true]at hc
     split at h
     ·rename_i tK MW
      cases h
      refine cZ.set fh hc.2.1 λl h1 h2 h3=>?_
      have hk:k.under l=true:=by
       have:=hc.1
       unfold DP at this
       split at this<;>first|rfl|cases this
      have hv:v.view.under l=true:=by
       rcases hc.2.2 with h5|h5
       ·omega
       ·simp only[AV.ah,Bool.and_true]at h5
        exact iB l _ (tV v h5)
      clear fh
      simp only[fL.under,List.all_eq_true,Bool.and_eq_true]at h3 ⊢
      have key:∀(es tK:List (AV×AV)),(∀x∈es,x.1.under l=true/\x.2.under l=true)->Dt kk k v.view es=some tK->∀x∈tK,x.1.under l=true/\x.2.under l=true:=by
       intro es
       induction es with
       |nil=>intro tK _ h x hx;simp[Dt]at h;subst h;simp at hx;subst hx;exact⟨hk,hv⟩
       |cons c es ih=>
        intro tK qe h
        obtain⟨a,u⟩:=c
        simp only[Dt]at h
        split at h
        ·cases h
         intro x hx
         rcases List.mem_cons.1 hx with rfl|hx
         ·exact⟨hk,hv⟩
         ·exact qe x (by simp[hx])
        ·split at h
         ·rename_i r' vM
          cases h
          intro x hx
          rcases List.mem_cons.1 hx with rfl|hx
          ·exact qe _ (by simp)
          ·exact ih r' (λx hx=>qe x (by simp[hx])) vM x hx
         ·cases h
        ·cases h
      exact key es tK h3 MW
     ·cases h
    ·cases h
   ·cases h
  ·cases h
 all_goals
  unfold aL at h
  simp only at h
  repeat' split at h
 all_goals first
  |(cases h;exact cZ.refl _ _ _)
  |(cases h;exact cZ.push _ _ _ _)
  |cases h
structure pN (O:jC):Prop where
 call:∀wl aa f args st v bS,O.call wl aa f args st=some (v,bS)->cZ wl aa st bS
 loop:∀wl aa rs c s x s',O.loop wl aa rs c s=some (x,s')->cZ wl aa s.st s'.st
variable {O:jC}
theorem M0(hO:pN O){op:fQ}{vals:List eG}{bx fm:aU}{r:eG}(h:qM O wl aa op vals st bx=some (r,bS,fm)):cZ wl aa st bS:=by
 have call:∀x,fC O wl aa x st bx=some (r,bS,fm)->cZ wl aa st bS:=by
  intro x h
  unfold fC at h
  split at h
  ·split at h
   ·rename_i hc;cases h;exact hO.call _ _ _ _ _ _ _ hc
   ·cases h
  ·cases h
 unfold qM at h
 split at h
 ·exact call _ h
 ·exact call _ h
 ·exact JV h
theorem xB(hO:pN O){o:aX}{s s':St}(h:gr O wl aa o s=some s'):cZ wl aa s.st s'.st:=by
 unfold gr at h
 split at h
 ·cases h
 ·cases h;exact cZ.refl _ _ _
 ·split at h
  ·cases h
  ·rename_i ha
   have hk:=M0 hO ha
   split at h
   ·cases h;exact hk
   ·split at h
    ·cases h;exact hk
    ·cases h
theorem v7(hO:pN O):∀{l:List aX}{s s':St},eY O wl aa l s=some s'->cZ wl aa s.st s'.st
 |[],s,s',h=>by simp only[eY,Option.some.injEq]at h;subst h;exact cZ.refl _ _ _
 |o::l,s,s',h=>by
  simp only[eY]at h
  split at h
  ·rename_i s1 h1;exact(xB hO h1).trans (v7 hO h)
  ·cases h
theorem v8(hO:pN O):∀{l:List aX}{s s':St}{gT:List St},dJ O wl aa l s=some (s',gT)->cZ wl aa s.st s'.st
 |[],s,s',gT,h=>by simp only[dJ,Option.some.injEq,Prod.mk.injEq]at h;obtain⟨rfl,_⟩:=h;exact cZ.refl _ _ _
 |o::l,s,s',gT,h=>by
  simp only[dJ]at h
  split at h
  ·rename_i s1 h1
   split at h
   ·rename_i h2;cases h;exact(xB hO h1).trans (v8 hO h2)
   ·cases h
  ·cases h
theorem BU(hO:pN O){l:List aX}{bK:List (Nat×Nat)}{s s':St}(h:fO O wl aa l bK s=some s'):cZ wl aa s.st s'.st:=by
 unfold fO at h
 split at h
 ·cases h
 ·rename_i hr
  split at h
  ·cases h;exact v8 hO hr
  ·cases h
theorem DB{a a':AV}(h:qm wl a st=some (a',bS)):cZ wl aa st bS:=by
 unfold qm at h
 split at h
 ·split at h
  ·rename_i fh
   split at h
   ·rename_i hc
    simp only[Bool.and_eq_true,decide_eq_true_eq]at hc
    cases h
    exact cZ.set fh hc.2 λl _ _ _=>by simp[fL.under]
   ·cases h
  ·cases h
 ·split at h
  ·cases h;exact cZ.refl _ _ _
  ·cases h
theorem v9:∀{l l':List AV}{st bS:aj},kI wl l st=some (l',bS)->cZ wl aa st bS
 |[],l',st,bS,h=>by simp only[kI,Option.some.injEq,Prod.mk.injEq]at h;obtain⟨_,rfl⟩:=h;exact cZ.refl _ _ _
 |a::l,l',st,bS,h=>by
  simp only[kI]at h
  split at h
  ·rename_i h1
   split at h
   ·rename_i h2;cases h;exact(DB h1).trans (v9 h2)
   ·cases h
  ·cases h
theorem tZ:∀{l l':List (List AV)}{st bS:aj},lf wl l st=some (l',bS)->cZ wl aa st bS
 |[],l',st,bS,h=>by simp only[lf,Option.some.injEq,Prod.mk.injEq]at h;obtain⟨_,rfl⟩:=h;exact cZ.refl _ _ _
 |a::l,l',st,bS,h=>by
  simp only[lf]at h
  split at h
  ·rename_i h1
   split at h
   ·rename_i h2;cases h;exact(v9 h1).trans (tZ h2)
   ·cases h
  ·cases h
theorem qR{a a':AV}(h:jL wl a st=some (a',bS)):cZ wl aa st bS:=by
 unfold jL at h
 split at h
 ·split at h
  ·rename_i fh
   split at h
   ·rename_i hc
    simp only[Bool.and_eq_true,decide_eq_true_eq]at hc
    split at h
    ·rename_i hl
     cases h
     exact(cZ.set (aa:=aa) fh hc.2 λl _ _ _=>by simp[fL.under]).trans (tZ hl)
    ·cases h
   ·cases h
  ·cases h
 ·cases h;exact cZ.refl _ _ _
 ·cases h
theorem DC{a a':AV}(h:oD wl a st=some (a',bS)):cZ wl aa st bS:=by
 unfold oD at h
 split at h
 ·cases h;exact cZ.push _ _ _ _
 ·exact qR h
theorem jr(hO:pN O){rs:List jV}:∀{c:bQ}{s:St}{x:Ex}{s':St},gO O wl aa rs c s=some (x,s')->cZ wl aa s.st s'.st
 |.skip,s,x,s',h=>by simp only[gO,Option.some.injEq,Prod.mk.injEq]at h;obtain⟨_,rfl⟩:=h;exact cZ.refl _ _ _
 |.region cT draw dM,s,x,s',h=>by
  simp only[gO]at h
  split at h
  ·rename_i s1 h1
   cases h
   show cZ wl aa s.st s1.st
   cases draw with
   |none=>exact v7 hO (by simpa only using h1)
   |some bK=>exact BU hO (by simpa only using h1)
  ·cases h
 |.seq a b,s,x,s',h=>by
  simp only[gO]at h
  split at h
  ·rename_i s1 h1;exact(jr hO h1).trans (jr hO h)
  ·exact jr hO h
 |.cond c ca a cb b,s,x,s',h=>by
  simp only[gO]at h
  split at h
  ·have:=jr (c:=a) hO h
   exact this
  ·have:=jr (c:=b) hO h
   exact this
  ·cases h
 |.block id c,s,x,s',h=>by
  simp only[gO]at h
  split at h
  ·rename_i h1
   split at h<;>(cases h;exact jr hO h1)
  ·exact jr hO h
 |.loop c,s,x,s',h=>by simp only[gO]at h;exact hO.loop _ _ _ _ _ _ _ h
 |.exit id,s,x,s',h=>by simp only[gO,Option.some.injEq,Prod.mk.injEq]at h;obtain⟨_,rfl⟩:=h;exact cZ.refl _ _ _
 |.ret,s,x,s',h=>by
  simp only[gO]at h
  split at h
  ·cases h;exact cZ.refl _ _ _
  ·cases h
 |.OL t,s,x,s',h=>by
  simp only[gO]at h
  split at h
  ·split at h
   ·rename_i hf;cases h;exact qR hf
   ·cases h
  ·cases h
 |.Bb j k,s,x,s',h=>by
  simp only[gO]at h
  split at h
  ·split at h
   ·split at h
    ·rename_i hf;cases h;exact qR hf
    ·cases h
   ·cases h
  ·cases h
 |.vI t off,s,x,s',h=>by
  obtain⟨_,id,bX,i,k,v,v',lM,lZ,_,_,g3,g4,rfl⟩:=Bg h
  exact(DC g3).trans (se g4)
theorem JW:∀m:Mode,m=.pure\/m=.l9\/m=.Ds:=by
 intro m
 cases m<;>simp
theorem Ar(hO:pN O){sf:aD}{args:List AV}{v:AV}(h:de O wl aa sf args st=some (v,bS)):cZ wl aa st bS:=by
 unfold de at h
 split at h
 ·split at h
  ·rename_i x s hs
   split at h
   ·rename_i u hu
    have hk:=jr hO hs
    simp only[pD]at hk
    rcases JW sf.mode with hm|hm|hm
    ·rw[hm]at h
     simp only[Mode.kJ]at h
     split at h
     ·cases h;exact cZ.refl _ _ _
     ·cases h
    ·rw[hm]at h hk
     simp only[Mode.kJ]at h
     simp only[Mode.wC,Mode.pC]at hk
     split at h
     ·cases h
      refine⟨by rw[List.length_take];have:=hk.len;omega,λid h1 h2=>?_,λl h1 h2 h3 id ob h4 h5=>?_⟩
      ·rw[List.getElem?_take,if_pos h2];exact hk.low id h1 h2
      ·rw[List.getElem?_take]at h5
       split at h5
       ·exact hk.aa l h2 h2 h3 id ob h4 h5
       ·cases h5
     ·cases h
    ·rw[hm]at h hk
     simp only[Mode.kJ]at h
     cases h
     exact hk
   ·cases h
  ·cases h
 ·cases h
theorem BW(hO:pN O){sf:aD}{args:List AV}{v:AV}(h:dZ O wl aa sf args st=some (v,bS)):cZ wl aa st bS:=by
 unfold dZ at h
 split at h
 ·simp only[Option.map_eq_some_iff]at h
  obtain⟨x,_,hx⟩:=h
  cases hx
  exact cZ.refl _ _ _
 ·exact Ar hO h
theorem D4(S:Nat->Option aD):∀n,pN (n8 S n)
 |0=>⟨λ_ _ _ _ _ _ _ h=>by simp[n8]at h,λ_ _ _ _ _ _ _ h=>by simp[n8]at h⟩
 |n+1=>by
  have ih:=D4 S n
  refine⟨λwl aa f args st v bS h=>?_,λwl aa rs c s x s' h=>?_⟩
  ·simp only[n8]at h
   split at h
   ·exact BW ih h
   ·cases h
  ·simp only[n8]at h
   split at h
   ·rename_i s1 h1;exact(jr ih h1).trans (ih.loop _ _ _ _ _ _ _ h)
   ·exact jr ih h
end Ax
namespace Ax
open Go
variable {P:Program}{w w':World}{G G':aM}{β gf:List lE}
abbrev kz(a:Act)(t:Nat):Value:=a.tmps.getD t undef
structure FS (w:World)(G:aM)(β:List lE)(a:Act)(η:Nat->eG)(bx:aU)(st:aj)(n:Nat):Prop where
 Hv:a.defers=[]
 size:n<=a.tmps.size
 lC:∀t,jQ w G β (η t) (kz a t)
 lt:∀t,n<=t->η t=.none
 inv:iH w G st
 box:jD w G β bx
def sX(β:List lE)(a:Act)(η:Nat->eG)(bx:aU)(st:aj)(G:aM)(n:Nat)(b:Nat):Nat:=
 ga (λt=>cv b (η t) (kz a t)) n+fM b β bx+b6 b G.ls st
structure Mv (w:World)(G:aM)(A:Nat->Nat)(w':World)(G':aM)(A':Nat->Nat):Prop where
 iR:qq w G w' G'
 fj:∀b,b<w.heap.size->A' b<=A b
 one:∀b,A' b<=1
 tQ:∀b,b<w.heap.size->A b=0->dL w G w' G' b
 size:w.heap.size<=w'.heap.size
 os:w'.os=w.os
 out:w'.output=w.output
theorem Mv.refl{A:Nat->Nat}(h:∀b,A b<=1):Mv w G A w G A:=⟨qq.refl w G,λ_ _=>Nat.le_refl _,h,λ_ _ _=>⟨rfl,rfl⟩,Nat.le_refl _,rfl,rfl⟩
theorem dL.trans{w1 w2 w3:World}{G1 G2 G3:aM}{b:Nat}(h:dL w1 G1 w2 G2 b)(k:dL w2 G2 w3 G3 b):dL w1 G1 w3 G3 b:=⟨k.1.trans h.1,k.2.trans h.2⟩
theorem Mv.trans{A A' A'':Nat->Nat}{w'':World}{G'':aM}(h:Mv w G A w' G' A')(k:Mv w' G' A' w'' G'' A''):Mv w G A w'' G'' A'' where
 iR:=h.iR.trans k.iR
 fj:=λb hb=>Nat.le_trans (k.fj b (Nat.lt_of_lt_of_le hb h.size)) (h.fj b hb)
 one:=k.one
 tQ:=λb hb h0=>(h.tQ b hb h0).trans (k.tQ b (Nat.lt_of_lt_of_le hb h.size) (by have:=h.fj b hb;omega))
 size:=Nat.le_trans h.size k.size
 os:=k.os.trans h.os
 out:=k.out.trans h.out
theorem Mv.Pj{A A' B B':Nat->Nat}(h:Mv w G A w' G' A')(hB:∀b,A b<=B b)(hc:∀b,b<w.heap.size->B' b<=B b)(ho:∀b,B' b<=1):Mv w G B w' G' B':=
 ⟨h.iR,hc,ho,λb hb h0=>h.tQ b hb (by have:=hB b;omega),h.size,h.os,h.out⟩
theorem D5{e:eG}{v:Value}{b:Nat}(h:jQ w G β e v)(hb:0<cv b e v):b<w.heap.size:=by
 cases e with
 |none=>simp[cv]at hb
 |fp j k=>simp[cv]at hb
 |val a=>exact aO.held h hb
section
variable {a:Act}{η:Nat->eG}{bx:aU}{st:aj}{n:Nat}
theorem FS.held(h:FS w G β a η bx st n){b:Nat}(hb:0<sX β a η bx st G n b):b<w.heap.size:=by
 unfold sX at hb
 by_cases h1:0<fM b β bx
 ·exact h.box.held h1
 ·by_cases h2:0<b6 b G.ls st
  ·exact h.inv.held h2
  ·have h3:0<ga (λt=>cv b (η t) (kz a t)) n:=by omega
   have key:∀n,0<ga (λt=>cv b (η t) (kz a t)) n->∃t,0<cv b (η t) (kz a t):=by
    intro n
    induction n with
    |zero=>intro h;simp[ga]at h
    |succ n ih=>
     intro h
     simp only[ga]at h
     by_cases h0:0<cv b (η n) (kz a n)
     ·exact⟨n,h0⟩
     ·exact ih (by omega)
   obtain⟨t,ht⟩:=key n h3
   exact D5 (h.lC t) ht
end
theorem jQ.bx{e:eG}{v:Value}{nb:Option Nat}(h:jQ w G β e v)(hb:eK nb β gf)(hn:∀j,nb=some j->e.nL j=true):jQ w G gf e v:=by
 cases e with
 |none=>trivial
 |val a=>exact h
 |fp j k=>
  obtain⟨g,b,h1,h2,h3⟩:=h
  obtain⟨g',a1,a2⟩:=hb j g h1
  refine⟨g',b,a1,(a2 λe=>?_).trans h2,h3⟩
  have:=hn j e
  simp[eG.nL]at this
theorem jQ.iR{e:eG}{v:Value}(h:jQ w G β e v)(hs:qq w G w' G')(hu:∀b,0<cv b e v->dL w G w' G' b):jQ w' G' β e v:=by
 cases e with
 |none=>trivial
 |val a=>exact aO.iR h hs hu
 |fp j k=>exact h
def yy(η:Nat->eG):Src->eG
 |.tmp t true=>η t
 |.tmp t false=>(η t).view
 |.const a=>.val a
theorem AL(env:nZ)(s:Src):GC env s=yy (cQ env) s:=by
 cases s with
 |tmp t mv=>cases mv<;>rfl
 |const a=>rfl
def sj(η:Nat->eG):Option (Nat×Bool)->Option Bool
 |none=>some true
 |some (t,b)=>match η t with
  |.val (.bool c)=>some (c==b)
  |.val .undef=>some false
  |_=>none
theorem D6(env:nZ)(g:Option (Nat×Bool)):lA env g=sj (cQ env) g:=by
 cases g with
 |none=>rfl
 |some x=>rfl
def jN(η:Nat->eG)(dst:Option Nat)(e:eG):Nat->eG:=λt=>if dst=some t then e else η t
def jh(η:Nat->eG)(l:List Nat):Nat->eG:=λt=>if t∈l then .none else η t
theorem Lv{a:Act}{η:Nat->eG}(hr:∀t,jQ w G β (η t) (kz a t)):∀{x:Operand}{s:Src},Jy x s=true->jQ w G β (yy η s) (a.eval x)/\∀b,cv b (yy η s) (a.eval x)<=oh (λt=>cv b (η t) (kz a t)) (oI [s])
 |.tmp t,.tmp u true,h=>by
  simp only[Jy,beq_iff_eq]at h
  subst h
  exact⟨hr t,λb=>by simp only[oI,oh,yy];exact Nat.le_refl _⟩
 |.tmp t,.tmp u false,h=>by
  simp only[Jy,beq_iff_eq]at h
  subst h
  exact⟨(hr t).view,λb=>by simp only[yy,DS];omega⟩
 |.const v,.const c,h=>by
  simp only[Jy]at h
  obtain⟨h1,h2,_⟩:=wD h w G
  exact⟨h1,λb=>by simp only[yy,cv,eJ b c _ h2];omega⟩
 |.func f,.const (.fn g [] []),h=>by
  simp only[Jy,Bool.and_eq_true,beq_iff_eq,decide_eq_true_eq]at h
  obtain⟨rfl,hf⟩:=h
  exact⟨aO.fn f [] [] #[] #[] rfl rfl ⟨rfl,rfl,hf⟩ (λi c v h=>by simp at h) (λi c v h=>by simp at h),λb=>by simp[yy,cv,fj]⟩
theorem Pk(s:Src)(r:List Src):oI (s::r)=oI [s]++oI r:=by
 cases s with
 |tmp t mv=>cases mv<;>rfl
 |const a=>rfl
theorem zJ(f:Nat->Nat):∀(l m:List Nat),oh f (l++m)=oh f l+oh f m
 |[],m=>by simp[oh]
 |t::l,m=>by simp only[List.cons_append,oh,zJ f l m];omega
theorem Hw{a:Act}{η:Nat->eG}(hr:∀t,jQ w G β (η t) (kz a t)):∀{xs:List Operand}{ss:List Src},fq xs ss=true->jY w G β (ss.map (yy η)) (xs.map a.eval)/\
  ∀b,kS b (ss.map (yy η)) (xs.map a.eval)<=oh (λt=>cv b (η t) (kz a t)) (oI ss)
 |[],[],_=>⟨trivial,λb=>by simp[kS]⟩
 |x::xs,s::ss,h=>by
  simp only[fq,Bool.and_eq_true]at h
  obtain⟨h1,h2⟩:=Lv hr h.1
  obtain⟨h3,h4⟩:=Hw hr h.2
  refine⟨⟨h1,h3⟩,λb=>?_⟩
  have e1:=h2 b
  have e2:=h4 b
  rw[Pk,zJ]
  simp only[List.map_cons,kS]
  omega
 |[],_::_,h=>by simp[fq]at h
 |_::_,[],h=>by simp[fq]at h
def JX(cT:Array Oper)(o:Oper)(so:aX):Bool:=
 match o.guard,so.guard with
 |none,none=>true
 |some (j,b),some (t,c)=>b==c&&(match cT[j]? with|some q=>q.dst==some t|none=>false)
 |_,_=>false
def ua:List Nat->Bool
 |[]=>true
 |t::l=>!(l.contains t)&&ua l
theorem uZ:∀{l:List Nat},ua l=true->l.Nodup
 |[],_=>List.nodup_nil
 |t::l,h=>by
  simp only[ua,Bool.and_eq_true,Bool.not_eq_true',List.contains_eq_mem,decide_eq_false_iff_not]at h
  exact List.nodup_cons.2 ⟨h.1,uZ h.2⟩
def D7(S:Nat->Option aD)(P:Program)(cT:Array Oper)(n:Nat)(o:Oper)(so:aX):Bool:=
 mOp S P o so&&JX cT o so&&(match so.dst with|some d=>decide (d<n)|none=>true)&&ua (oI so.args)
theorem M1{cT:Array Oper}{o:Oper}{so:aX}{a:Act}{η:Nat->eG}{n:Nat}(hg:JX cT o so=true)(hr:∀t,jQ w G β (η t) (kz a t))(bn:∀t,n<=t->η t=.none)(eH:n<=a.tmps.size){b:Bool}
  (hw:sj η so.guard=some b):Region.wanted o (yielded cT a.tmps)=b:=by
 unfold JX at hg
 split at hg
 ·rename_i h1 h2
  rw[h2]at hw
  simp only[sj]at hw
  cases hw
  simp[Region.wanted,h1]
 ·rename_i j b1 t c h1 h2
  simp only[Bool.and_eq_true,beq_iff_eq]at hg
  obtain⟨rfl,hg⟩:=hg
  split at hg
  ·rename_i q hq
   simp only[beq_iff_eq]at hg
   rw[h2]at hw
   simp only[sj]at hw
   have hy:yielded cT a.tmps j=match a.tmps[t]? with|some (.bool b)=>some b|_=>none:=by
    simp only[yielded,hq,Option.bind_some,hg]
    rfl
   have DD:=hr t
   split at hw
   ·rename_i c hc
    cases hw
    have ht:t<n:=by
     rcases Nat.lt_or_ge t n with h|h
     ·exact h
     ·rw[bn t h]at hc;cases hc
    rw[hc]at DD
    have hv:=aO.jm DD
    have ht':a.tmps[t]?=some (.bool c):=by
     have hs:t<a.tmps.size:=by omega
     have:a.tmps.getD t undef=a.tmps[t]:=by simp[Array.getD,hs]
     rw[<-hv,kz,this];simp[hs]
    simp only[Region.wanted,h1,hy,ht']
    rfl
   ·rename_i hc
    cases hw
    have ht:t<n:=by
     rcases Nat.lt_or_ge t n with h|h
     ·exact h
     ·rw[bn t h]at hc;cases hc
    rw[hc]at DD
    have hv:kz a t=undef:=by
     generalize kz a t=v at DD
     cases DD;rfl
    have ht':a.tmps[t]?=some undef:=by
     have hs:t<a.tmps.size:=by omega
     have:a.tmps.getD t undef=a.tmps[t]:=by simp[Array.getD,hs]
     rw[<-hv,kz,this];simp[hs]
    simp only[Region.wanted,h1,hy,ht']
    rfl
   ·cases hw
  ·cases hg
 ·cases hg
end Ax
namespace Ax
open Go
variable {P:Program}{w w':World}{G G':aM}{β gf:List lE}
def M3 (P : Program) (f : FuncId) : Prop := ∃ fn, P.funcs[f]? = some fn ∧ (fn.name == "runtime.NumGoroutine") = false ∧ fn.body.isNone = false
def js(S:Nat->Option aD)(P:Program)(O:jC):Prop:=
 ∀wl aa f args st v bS,O.call wl aa f args st=some (v,bS)->∃sf,S f=some sf/\M3 P sf.fV/\(f<100000->sf.fV=f)/\
  ∀(w:World) (G:aM) (vs:List Value),cj w G args vs->iH w G st->(∀b,bV b args vs+b6 b G.ls st<=1)->
   Calls P sf.fV vs.toArray w λe w'=>∃u G',e=.returned u/\aO w' G' v u/\iH w' G' bS/\
    Mv w G (λb=>bV b args vs+b6 b G.ls st) w' G' (λb=>fj b v u+b6 b G'.ls bS)
theorem BX{f:FuncId}(h:M3 P f)(args:Array Value)(w:World):(callFunc f args).run P w=.ok (.enter f args) w:=by
 obtain⟨fn,h1,h2,h3⟩:=h
 have h4 : ¬ fn.name = "runtime.NumGoroutine" := by simpa using h2
 have h5:¬fn.body=none:=by intro h;rw[h]at h3;simp at h3
 simp[callFunc,h1,h4,h5]
theorem D8{ρ:Operand->Value}{o:Oper}{c:Call}{f:FuncId}{vf vc:Array Value}{x:Operand}(ho:o.op=.call c)(hc:c.callee=.value x)(hx:ρ x=.func (.func f) vf vc)(hf:M3 P f)(w:World) :
  (execOp ρ o).run P w=.ok (.enter f (vf++c.args.map ρ++vc)) w:=by
 simp only[execOp,ho,resolve,hc,hx,Deferred.ofValue,Sem.run_bind,Sem.run_pure,Result.andThen_ok,invoke,BX hf]
theorem M4{l:List eG}{x:Nat×List AV}(h:ld .pz l=some x):∃f first ke l' vs,l=.val (.fn f first ke)::l'/\iO l'=some vs/\x=(f,first++vs++ke):=by
 unfold ld at h
 split at h
 ·rename_i heq;cases heq
 ·rename_i f first ke l' _
  split at h
  ·rename_i vs Dn;cases h;exact⟨f,first,ke,l',vs,rfl,Dn,rfl⟩
  ·cases h
 ·cases h
section
variable {S:Nat->Option aD}{O:jC}{cT:Array Oper}{n:Nat}{o:Oper}{so:aX}{a:Act}{η:Nat->eG}{bx fm:aU}{st bS:aj}{wl aa:Nat}{e:eG}
theorem FS.after(hs:FS w G β a η bx st n)(h1:∀b,sX β a η bx st G n b<=1){cO:Nat->Nat}(hcO:∀b,cO b=oh (λt=>cv b (η t) (kz a t)) (oI so.args))(XW:(oI so.args).Nodup)(hd:∀d,so.dst=some d->d<n){v:Value}
  (hA:iU w G β st bx cO w' G' gf bS fm e v)(hB:eK so.op.bz β gf)(ML:∀j,so.op.bz=some j->∀t,so.dst≠some t->t ∉ oI so.args->(η t).nL j=true) :
  FS w' G' gf (a.put so.dst v) (jN (jh η (oI so.args)) so.dst e) fm bS n/\Mv w G (sX β a η bx st G n) w' G' (sX gf (a.put so.dst v) (jN (jh η (oI so.args)) so.dst e) fm bS G' n):=by
 have MW:∀t,kz (a.put so.dst v) t=if so.dst=some t then (if t<n then v else kz (a.put so.dst v) t) else kz a t:=by
  intro t
  cases yK:so.dst with
  |none=>simp[Act.put]
  |some d=>
   have hdn:=hd d yK
   have hdt:d<a.tmps.size:=Nat.lt_of_lt_of_le hdn hs.size
   by_cases ht:d=t
   ·subst ht
    simp[Act.put,kz,hdn,hdt]
   ·simp[ht,Act.put,kz]
 have Pm:∀t,t<n->so.dst=some t->kz (a.put so.dst v) t=v:=λt h1 h2=>by rw[MW t,if_pos h2,if_pos h1]
 have Hx:∀t,so.dst≠some t->kz (a.put so.dst v) t=kz a t:=λt h=>by rw[MW t,if_neg h]
 have Hy:∀b,cO b+ga (λt=>if t∈oI so.args then 0 else cv b (η t) (kz a t)) n<=ga (λt=>cv b (η t) (kz a t)) n:=λb=>by
  rw[hcO]
  exact xz (λt ht=>by rw[hs.lt t ht];rfl) _ XW
 have kW:∀b t,so.dst≠some t->t ∉ oI so.args->0<cv b (η t) (kz a t)->cO b+fM b β bx+b6 b G.ls st=0:=by
  intro b t h2 h3 h4
  have htn:t<n:=by
   rcases Nat.lt_or_ge t n with h|h
   ·exact h
   ·rw[hs.lt t h]at h4;simp[cv]at h4
  have h5:=tY (f:=λt=>if t∈oI so.args then 0 else cv b (η t) (kz a t)) htn
  simp only[if_neg h3]at h5
  have h6:=Hy b
  have h7:=h1 b
  unfold sX at h7
  omega
 have dy:∀t,so.dst≠some t->t ∉ oI so.args->jQ w' G' gf (η t) (kz a t):=λt h2 h3=>
  ((hs.lC t).iR hA.iR λb hb=>hA.tQ b (kW b t h2 h3 hb) (D5 (hs.lC t) hb)).bx hB λj hj=>ML j hj t h2 h3
 have hFS:FS w' G' gf (a.put so.dst v) (jN (jh η (oI so.args)) so.dst e) fm bS n:=by
  refine⟨?_,?_,λt=>?_,λt ht=>?_,hA.inv,hA.box⟩
  ·cases yK:so.dst<;>simp[Act.put,hs.Hv]
  ·cases yK:so.dst<;>simp[Act.put,hs.size]
  ·simp only[jN,jh]
   by_cases h2:so.dst=some t
   ·rw[if_pos h2,Pm t (hd t h2) h2];exact hA.lC
   ·rw[if_neg h2,Hx t h2]
    by_cases h3:t∈oI so.args
    ·rw[if_pos h3];trivial
    ·rw[if_neg h3];exact dy t h2 h3
  ·simp only[jN,jh]
   rw[if_neg (λh=>by have:=hd t h;omega)]
   rw[hs.lt t ht];simp
 have JE:∀b,sX gf (a.put so.dst v) (jN (jh η (oI so.args)) so.dst e) fm bS G' n b<=sX β a η bx st G n b+(if w.heap.size<=b then 1 else 0):=by
  intro b
  have h2:=hA.fj b
  have h3:=Hy b
  have h4:ga (λt=>cv b (jN (jh η (oI so.args)) so.dst e t) (kz (a.put so.dst v) t)) n<=ga (λt=>if t∈oI so.args then 0 else cv b (η t) (kz a t)) n+cv b e v:=by
   cases yK:so.dst with
   |none=>
    rw[yK]at Hx
    have:ga (λt=>cv b (jN (jh η (oI so.args)) none e t) (kz (a.put none v) t)) n=ga (λt=>if t∈oI so.args then 0 else cv b (η t) (kz a t)) n:=mY λt _=>by
     rw[Hx t (by simp)]
     simp only[jN,jh]
     rw[if_neg (by simp)]
     split<;>rfl
    rw[this];omega
   |some d=>
    rw[yK]at Hx Pm
    have h5:=rA (f:=λt=>cv b (jN (jh η (oI so.args)) (some d) e t) (kz (a.put (some d) v) t)) (g:=λt=>if t∈oI so.args then 0 else cv b (η t) (kz a t)) (d:=d) (hd d yK) λt ht=>by
     rw[Hx t (by simpa using λh=>ht h.symm)]
     simp only[jN,jh]
     rw[if_neg (by simpa using λh=>ht h.symm)]
     split<;>rfl
    have h6:cv b (jN (jh η (oI so.args)) (some d) e d) (kz (a.put (some d) v) d)=cv b e v:=by
     rw[Pm d (hd d yK) rfl];simp[jN]
    rw[h6]at h5
    omega
  unfold sX
  omega
 refine⟨hFS,hA.iR,λb hb=>?_,λb=>?_,λb hb h0=>hA.tQ b ?_ hb,hA.size,hA.os,hA.out⟩
 ·have:=JE b
  rw[if_neg (by omega)]at this
  exact this
 ·have h2:=JE b
  by_cases hb:w.heap.size<=b
  ·rw[if_pos hb]at h2
   have h3:sX β a η bx st G n b=0:=by
    rcases Nat.eq_zero_or_pos (sX β a η bx st G n b) with h|h
    ·exact h
    ·have:=hs.held h;omega
   omega
  ·rw[if_neg hb]at h2
   have:=h1 b
   omega
 ·have h2:=Hy b
  unfold sX at h0
  omega
theorem Pn{v:AV}{u:Value}{args:List AV}{vs:List Value}{cO:Nat->Nat}(hB:jD w G β bx)(hX:∀b,cO b+fM b β bx+b6 b G.ls st<=1)(hc:∀b,bV b args vs<=cO b)(hr:aO w' G' v u)(hI':iH w' G' bS)
  (hM:Mv w G (λb=>bV b args vs+b6 b G.ls st) w' G' (λb=>fj b v u+b6 b G'.ls bS)):iU w G β st bx cO w' G' β bS bx (.val v) u where
 iR:=hM.iR
 inv:=hI'
 box:=lP hB hM.iR λb hb=>hM.tQ b (hB.held hb) (by have h1:=hX b;have h2:=hc b;omega)
 lC:=hr
 fj:=λb=>by
  simp only[cv]
  by_cases hb:w.heap.size<=b
  ·rw[if_pos hb]
   have h1:=hM.one b
   have h2:fM b β bx=0:=by
    rcases Nat.eq_zero_or_pos (fM b β bx) with h|h
    ·exact h
    ·have:=hB.held h;omega
   omega
  ·rw[if_neg hb]
   have h1:=hM.fj b (by omega)
   have h2:=hc b
   omega
 tQ:=λb h0 hb=>hM.tQ b hb (by have:=hc b;omega)
 size:=hM.size
 os:=hM.os
 out:=hM.out
theorem Lw{Q:Exit->Act->World->Prop}{i:Nat}(hi:cT[i]?=some o)(hm:D7 S P cT n o so=true)(hO:js S P O)(hs:FS w G β a η bx st n)(h1:∀b,sX β a η bx st G n b<=1){K:Act->World->Prop}{b:Bool}
  (hw:sj η so.guard=some b)
  (iP:b=false->∀(a':Act),FS w G β a' (jN η so.dst (.val .undef)) bx st n->Mv w G (sX β a η bx st G n) w G (sX β a' (jN η so.dst (.val .undef)) bx st G n)->K a' w)
  (ahb:b=true->∃e bS fm,qM O wl aa so.op (so.args.map (yy η)) st bx=some (e,bS,fm)/\(∀j,so.op.bz=some j->∀t,so.dst≠some t->t ∉ oI so.args->(η t).nL j=true)/\
   ∀(w':World) (G':aM) (gf:List lE) (a':Act),FS w' G' gf a' (jN (jh η (oI so.args)) so.dst e) fm bS n->Mv w G (sX β a η bx st G n) w' G' (sX gf a' (jN (jh η (oI so.args)) so.dst e) fm bS G' n)->K a' w') :
  wpOp P cT Q i K a w:=by
 unfold D7 at hm
 simp only[Bool.and_eq_true]at hm
 obtain⟨⟨⟨hm,hg⟩,hd0⟩,XW⟩:=hm
 have hd:∀d,so.dst=some d->d<n:=λd hd=>by rw[hd]at hd0;simpa using hd0
 have XW:=uZ XW
 have yK:o.dst=so.dst:=by
  unfold mOp at hm
  rw[Bool.and_eq_true]at hm
  have:=hm.1
  split at this
  ·rename_i h1 h2;simp only[beq_iff_eq]at this;rw[h1,h2,this]
  ·rename_i h1 h2;rw[h1,h2]
  ·cases this
 have acv:=M1 hg hs.lC hs.lt hs.size hw
 unfold wpOp
 rw[hi]
 simp only[acv]
 cases b with
 |false=>
  simp only[Bool.false_eq_true,if_false]
  rw[yK]
  have hA:iU w G β st bx (λb=>oh (λt=>cv b (η t) (kz a t)) (oI ([]:List Src))) w G β st bx (.val .undef) undef:=iU.lO hs.inv hs.box .undef λb=>by simp[cv,fj]
  obtain⟨f1,f2⟩:=FS.after (so:=⟨so.dst,.move,[],none⟩) hs h1 (λb=>rfl) List.nodup_nil hd hA (eK.refl _ _) (λj hj=>by simp[fQ.bz]at hj)
  have hk:jh η (oI ([]:List Src))=η:=by funext t;simp[jh,oI]
  simp only[hk]at f1 f2
  exact iP rfl _ f1 f2
 |true=>
  obtain⟨e,bS,fm,ha,ML,hK⟩:=ahb rfl
  simp only[if_true]
  refine .inl ?_
  have hX:∀b,oh (λt=>cv b (η t) (kz a t)) (oI so.args)+fM b β bx+b6 b G.ls st<=1:=λb=>by
   have h2:=xz (f:=λt=>cv b (η t) (kz a t)) (n:=n) (λt ht=>by rw[hs.lt t ht];rfl) _ XW
   have h3:=h1 b
   unfold sX at h3
   omega
  have hA:∀xs,fq xs so.args=true->jY w G β (so.args.map (yy η)) (xs.map a.eval)/\∀b,kS b (so.args.map (yy η)) (xs.map a.eval)<=oh (λt=>cv b (η t) (kz a t)) (oI so.args):=λxs Wq=>Hw hs.lC Wq
  have plain:aL wl aa so.op (so.args.map (yy η)) st bx=some (e,bS,fm)->o.wp P a w K Q:=by
   intro ha
   obtain⟨nx,v,w',G',gf,e1,e2,e3,e4⟩:=XS hm hs.inv hs.box hX hA ha
   obtain⟨f1,f2⟩:=FS.after hs h1 (λb=>rfl) XW hd e3 e4 ML
   have hk:=hK w' G' gf _ f1 f2
   unfold Oper.wp
   rw[e1]
   rcases e2 with rfl|⟨rfl,rfl⟩
   ·rw[Oper.upon_value,yK];exact hk
   ·rw[Oper.upon_skip,yK];exact hk
  have call:∀(f i:Nat) (vs:List AV) (us:List Value) (G0:Prop),fC O wl aa (some (i,vs)) st bx=some (e,bS,fm)->cj w G vs us->(∀b,bV b vs us<=oh (λt=>cv b (η t) (kz a t)) (oI so.args))->so.op.bz=none->
    (∀sf,S i=some sf->(i<100000->sf.fV=i)->sf.fV=f)->(M3 P f->(execOp a.eval o).run P w=.ok (.enter f us.toArray) w)->o.wp P a w K Q:=by
   intro f i vs us _ hc dy Le Te hsf hex
   unfold fC at hc
   simp only at hc
   split at hc
   ·rename_i v lM dF
    cases hc
    obtain⟨sf,s1,s2,s3,s4⟩:=hO _ _ _ _ _ _ _ dF
    have hf:=hsf sf s1 s3
    rw[hf]at s2 s4
    have XX:=s4 w G us dy hs.inv λb=>by have h2:=hX b;have h3:=Le b;omega
    unfold Oper.wp
    rw[hex s2,Oper.upon_enter]
    refine XX.mono λen w' hen=>?_
    obtain⟨u,G',rfl,r1,r2,r3⟩:=hen
    have hA1:=Pn hs.box hX Le r1 r2 r3
    obtain⟨f1,f2⟩:=FS.after hs h1 (λb=>rfl) XW hd hA1 (eK.refl _ _) ML
    have hk:=hK w' G' β _ f1 f2
    simp only
    rw[yK]
    exact hk
   ·cases hc
  unfold qM at ha
  split at ha
  ·rename_i i Ww
   unfold mOp at hm
   rw[Bool.and_eq_true]at hm
   replace hm:=hm.2
   rw[Ww]at hm
   simp only[ld]at ha
   cases Dn:iO (so.args.map (yy η)) with
   |none=>rw[Dn]at ha;simp[fC]at ha
   |some vs=>
    rw[Dn]at ha
    split at hm<;>first|(rename_i h1 h2;cases h2;done)|(rename_i h2;cases h2;done)|(rename_i h1 h2;cases h1;done)|skip
    ·rename_i c i' XY heq
     cases heq
     split at hm
     ·rename_i f rY
      simp only[Bool.and_eq_true]at hm
      obtain⟨XZ,hmf⟩:=hm
      obtain⟨hR,hC⟩:=hA _ XZ
      obtain⟨r1,r2⟩:=hR.MY Dn
      refine call f i vs _ True ha r1 (λb=>by rw[<-r2];exact hC b) (by rw[Ww];rfl) (λsf h1 h2=>?_) λhF=>?_
      ·rw[h1]at hmf;simpa using hmf
      ·have:=D8 (ρ:=a.eval) XY rY (show a.eval (.func f)=.func (.func f) #[] #[] from rfl) hF w
       rw[this]
       congr 2
       apply Array.ext'
       simp
     ·cases hm
    ·cases hm
  ·rename_i Ww
   unfold mOp at hm
   rw[Bool.and_eq_true]at hm
   replace hm:=hm.2
   rw[Ww]at hm
   split at hm<;>first|(rename_i h1 h2;cases h2;done)|(rename_i h2;cases h2;done)|(rename_i h1 h2;cases h1;done)|skip
   ·rename_i c XY heq
    split at hm
    ·rename_i x rY
     obtain⟨hR,hC⟩:=hA _ hm
     cases BB:ld .pz (so.args.map (yy η)) with
     |none=>rw[BB]at ha;simp[fC]at ha
     |some y=>
      rw[BB]at ha
      obtain⟨f,first,ke,l,vs,Tc,Dn,rfl⟩:=M4 BB
      rw[Tc]at hR hC
      simp only[List.map_cons]at hR hC
      obtain⟨hR0,hRl⟩:=hR
      obtain⟨r1,r2⟩:=jY.MY hRl Dn
      simp only[jQ]at hR0
      generalize GS:a.eval x=xv at hR0 hC
      cases hR0 with
      |fn _ _ _ vf vc hl hm' hn hh G9=>
      refine call f f (first++vs++ke) (vf.toList++c.args.toList.map a.eval++vc.toList) True ha ((cj.append ⟨by simpa using hl,λi c v e1 e2=>hh i c v e1 (by simpa using e2)⟩ r1).append ⟨by simpa using hm',λi c v e1 e2=>G9 i c v e1 (by simpa using e2)⟩) (λb=>?_) (by rw[Ww];rfl) (λsf h1 h2=>h2 hn.2.2) λhF=>?_
      ·rw[fy b _ _ _ _ (by simp only[List.length_append,hl,r1.1];simp),fy b _ _ _ _ (by simpa using hl),dn b _ _ hn.1,dn b _ _ hn.2.1]
       have h2:=hC b
       have h3:=r2 b
       simp only[kS]at h2
       omega
      ·have:=D8 (ρ:=a.eval) XY rY GS hF w
       rw[this]
       congr 2
       apply Array.ext'
       simp
    ·cases hm
   ·cases hm
  ·exact plain ha
end
end Ax
namespace Ax
open Go
variable {P:Program}{w w':World}{G G':aM}{β gf:List lE}
variable {S:Nat->Option aD}{O:jC}{a:Act}{bx:aU}{st:aj}{n wl aa:Nat}{s s':St}{η:Nat->eG}
abbrev FT(w:World)(G:aM)(β:List lE)(a:Act)(s:St)(n:Nat):Prop:=FS w G β a (cQ s.env) s.bx s.st n
abbrev gi(β:List lE)(a:Act)(s:St)(G:aM)(n:Nat):Nat->Nat:=sX β a (cQ s.env) s.bx s.st G n
theorem FS.congr{Ov:Nat->eG}(h:FS w G β a η bx st n)(he:∀t,Ov t=η t):FS w G β a Ov bx st n:=by
 have:Ov=η:=funext he
 rw[this];exact h
theorem FS.Po{Ov:Nat->eG}(h:FS w G β a η bx st n)(he:∀t,Ov t=η t\/Ov t=.none):FS w G β a Ov bx st n/\∀b,sX β a Ov bx st G n b<=sX β a η bx st G n b:=by
 refine⟨⟨h.Hv,h.size,λt=>?_,λt ht=>?_,h.inv,h.box⟩,λb=>?_⟩
 ·rcases he t with e|e
  ·rw[e];exact h.lC t
  ·rw[e];trivial
 ·rcases he t with e|e
  ·rw[e];exact h.lt t ht
  ·exact e
 ·unfold sX
  have:=AJ (f:=λt=>cv b (Ov t) (kz a t)) (g:=λt=>cv b (η t) (kz a t)) (n:=n) λt _=>by
   rcases he t with e|e
   ·rw[e];exact Nat.le_refl _
   ·rw[e];simp[cv]
  omega
theorem jH(env:nZ)(dst:Option Nat)(e:eG):cQ (vJ env dst e)=jN (cQ env) dst e:=by
 funext t
 cases dst with
 |none=>simp[vJ,jN]
 |some d=>
  simp only[vJ,jN,tX,Option.some.injEq]
  by_cases h:t=d
  ·rw[if_pos h,if_pos h.symm]
  ·rw[if_neg h,if_neg λe=>h e.symm]
theorem sq(env:nZ)(ss:List Src):cQ (ss.foldl k8 env)=jh (cQ env) (oI ss):=by
 funext t
 rw[rz]
 rfl
theorem M5{cT:Array Oper}{o:Oper}{so:aX}{Q:Exit->Act->World->Prop}{i:Nat}(hi:cT[i]?=some o)(hm:D7 S P cT n o so=true)(hO:js S P O)(hs:FT w G β a s n)(h1:∀b,gi β a s G n b<=1){K:Act->World->Prop}
  (he:gr O wl aa so s=some s')(hK:∀(w':World)(G':aM)(gf:List lE)(a':Act),FT w' G' gf a' s' n->Mv w G (gi β a s G n) w' G' (gi gf a' s' G' n)->K a' w'):wpOp P cT Q i K a w:=by
 unfold gr at he
 rw[D6]at he
 split at he
 ·cases he
 ·rename_i hw
  cases he
  refine Lw (wl:=wl) (aa:=aa) hi hm hO hs h1 hw (λ_ a' f1 f2=>?_) (λh=>by cases h)
  refine hK w G β a' ?_ ?_
  ·rw[FT,jH];exact f1
  ·rw[show gi β a' { s with env:=vJ s.env so.dst (.val .undef) } G n=sX β a' (jN (cQ s.env) so.dst (.val .undef)) s.bx s.st G n by rw[gi,jH]]
   exact f2
 ·rename_i hw
  have vU:so.args.map (GC s.env)=so.args.map (yy (cQ s.env)):=List.map_congr_left λx _=>AL s.env x
  rw[vU]at he
  split at he
  ·cases he
  ·rename_i e bS fm ha
   have kJ:∀(w':World) (G':aM) (gf:List lE) (a':Act),s'=⟨vJ (so.args.foldl k8 s.env) so.dst e,fm,bS⟩->FS w' G' gf a' (jN (jh (cQ s.env) (oI so.args)) so.dst e) fm bS n->
     Mv w G (sX β a (cQ s.env) s.bx s.st G n) w' G' (sX gf a' (jN (jh (cQ s.env) (oI so.args)) so.dst e) fm bS G' n)->K a' w':=by
    intro w' G' gf a' Am f1 f2
    subst Am
    refine hK w' G' gf a' ?_ ?_
    ·rw[FT,jH,sq];exact f1
    ·rw[show gi gf a' ⟨vJ (so.args.foldl k8 s.env) so.dst e,fm,bS⟩ G' n=sX gf a' (jN (jh (cQ s.env) (oI so.args)) so.dst e) fm bS G' n by rw[gi,jH,sq]]
     exact f2
   split at he
   ·rename_i Te
    cases he
    exact Lw hi hm hO hs h1 hw (λh=>by cases h) λ_=>⟨e,bS,fm,ha,(λj hj=>by rw[Te]at hj;cases hj),λw' G' gf a' f1 f2=>kJ w' G' gf a' rfl f1 f2⟩
   ·rename_i j Te
    split at he
    ·rename_i ML
     cases he
     refine Lw hi hm hO hs h1 hw (λh=>by cases h) λ_=>⟨e,bS,fm,ha,λj' hj t Lt ht2=>?_,λw' G' gf a' f1 f2=>kJ w' G' gf a' rfl f1 f2⟩
     rw[Te]at hj;cases hj
     have:=BQ ML t
     rw[jH,sq]at this
     simp only[jN,jh]at this
     rw[if_neg Lt,if_neg ht2]at this
     exact this
    ·cases he
def pO(S:Nat->Option aD)(P:Program)(cT:Array Oper)(n:Nat):List Oper->List aX->Bool
 |[],[]=>true
 |o::l,so::m=>D7 S P cT n o so&&pO S P cT n l m
 |_,_=>false
theorem BY{cT:Array Oper}{Q:Exit->Act->World->Prop}(hO:js S P O):∀(l:List Oper)(m:List aX)(k:Nat)(w:World)(G:aM)(β:List lE)(a:Act)(s:St),cT.toList.drop k=l->pO S P cT n l m=true->
  FT w G β a s n->(∀b,gi β a s G n b<=1)->eY O wl aa m s=some s'->(∀(w':World) (G':aM) (gf:List lE) (a':Act),FT w' G' gf a' s' n->Mv w G (gi β a s G n) w' G' (gi gf a' s' G' n)->Q .normal a' w')->
  wpOps P cT Q (List.range' k l.length) a w
 |[],[],k,w,G,β,a,s,hl,hm,hs,h1,he,hQ=>by
  simp only[eY,Option.some.injEq]at he
  subst he
  simp only[List.length_nil,List.range'_zero,wpOps]
  exact hQ w G β a hs (Mv.refl h1)
 |o::l,so::m,k,w,G,β,a,s,hl,hm,hs,h1,he,hQ=>by
  simp only[pO,Bool.and_eq_true]at hm
  simp only[eY]at he
  split at he
  ·rename_i s1 vZ
   simp only[List.length_cons,List.range'_succ]
   rw[wpOps_cons]
   have hi:cT[k]?=some o:=by
    have:(cT.toList.drop k)[0]?=some o:=by rw[hl];rfl
    rw[List.getElem?_drop]at this
    simpa using this
   refine M5 hi hm.1 hO hs h1 vZ λw1 G1 β1 a1 f1 f2=>?_
   refine BY hO l m (k+1) w1 G1 β1 a1 s1 ?_ hm.2 f1 f2.one he λw2 G2 Pp a2 g1 g2=>hQ w2 G2 Pp a2 g1 (f2.trans g2)
   rw[show k+1=k+1 from rfl,<-List.drop_drop,hl]
   rfl
  ·cases he
 |[],_::_,_,_,_,_,_,_,_,hm,_,_,_,_=>by simp[pO]at hm
 |_::_,[],_,_,_,_,_,_,_,hm,_,_,_,_=>by simp[pO]at hm
def wK(P:Program):List ResultVar->List jV->Bool
 |[],[]=>true
 |.tmp t::l,.tmp u _::m=>t==u&&wK P l m
 |.cell t ty::l,.box u _ n agg::m=>t==u&&cx P ty n&&mh P ty==some agg&&(agg||n==1)&&wK P l m
 |.cell t ty::l,.cell u n agg::m=>t==u&&cx P ty n&&mh P ty==some agg&&(agg||n==1)&&wK P l m
 |_,_=>false
def om:List jV->List Nat
 |[]=>[]
 |.tmp t true::l=>t::om l
 |_::l=>om l
def BZ:List jV->List Nat
 |[]=>[]
 |.box _ j _ _::l=>j::BZ l
 |_::l=>BZ l
end Ax
namespace Ax
open Go
variable {P:Program}{w w':World}{G G':aM}{β gf:List lE}
variable {a:Act}{bx:aU}{st:aj}{n:Nat}{s:St}
def B0(tmps:Array Value):ResultVar->Sem Value
 |.tmp t=>pure (tmps.getD t undef)
 |.cell c t=>do loadVar t (<-asAddr (tmps.getD c undef))
def M6(us:List Value):Value:=match us with | [u]=>u|_=>.tuple us.toArray
theorem Hz{fn:Func}{tmps:Array Value}{us:List Value}(h:(fn.results.toList.mapM (B0 tmps)).run P w=.ok us w):(results fn tmps).run P w=.ok (M6 us) w:=by
 have h2:(fn.results.mapM (B0 tmps)).run P w=.ok us.toArray w:=by
  have e:fn.results.mapM (B0 tmps)=List.toArray <$> fn.results.toList.mapM (B0 tmps):=by
   rw[Array.mapM_eq_mapM_toList]
  rw[e,map_eq_pure_bind,Sem.run_bind,h]
  rfl
 have e3:results fn tmps=(fn.results.mapM (B0 tmps)).bind λvs=>Pure.pure (if h:vs.size=1 then vs[0] else .tuple vs):=rfl
 rw[e3]
 show Sem.run P (fn.results.mapM (B0 tmps) >>= λvs=>Pure.pure (if h:vs.size=1 then vs[0] else .tuple vs)) w=_
 rw[Sem.run_bind,h2]
 simp only[Result.andThen_ok,Sem.run_pure]
 congr 1
 match us with
 |[]=>simp[M6]
 |[u]=>simp[M6]
 |_::_::_=>simp[M6]
def rB(b:Nat)(β:List lE)(bx:aU)(j:Nat):Nat:=match β[j]?,bx[j]? with|some g,some r=>bV b r g.vals|_,_=>0
theorem HA(b:Nat):∀(β:List lE)(bx:aU),ga (rB b β bx) bx.length<=fM b β bx
 |β,[]=>by simp[ga]
 |[],r::bx=>by
  have:ga (rB b [] (r::bx)) (r::bx).length=ga (λ_=>0) (r::bx).length:=mY λt _=>by simp[rB]
  rw[this,D1];omega
 |g::β,r::bx=>by
  have ih:=HA b β bx
  have shift:∀m,ga (rB b (g::β) (r::bx)) (m+1)=rB b (g::β) (r::bx) 0+ga (rB b β bx) m:=by
   intro m
   induction m with
   |zero=>simp[ga]
   |succ m ih=>
    have:ga (rB b (g::β) (r::bx)) (m+1+1)=ga (rB b (g::β) (r::bx)) (m+1)+rB b (g::β) (r::bx) (m+1):=rfl
    rw[this,ih]
    have e:rB b (g::β) (r::bx) (m+1)=rB b β bx m:=by simp[rB]
    rw[e]
    simp only[ga];omega
  simp only[List.length_cons]
  rw[shift]
  have e:rB b (g::β) (r::bx) 0=bV b r g.vals:=by simp[rB]
  rw[e]
  simp only[fM]
  omega
theorem cj.cons{a:AV}{as:List AV}{x:Value}{xs:List Value}(h:aO w G a x)(k:cj w G as xs):cj w G (a::as) (x::xs):=
 ⟨by simp[k.1],λi c v e1 e2=>by
  cases i with
  |zero=>simp at e1 e2;subst e1;subst e2;exact h
  |succ i=>exact k.2 i c v (by simpa using e1) (by simpa using e2)⟩
theorem zK{t:TypeId}{n:Nat}{agg:Bool}(hn:cx P t n=true)(qP:mh P t=some agg){b off:Nat}{xs:List Value}(hlen:xs.length=n)(kW:agg=false->n=1)
  (hc:∀(j:Nat) x,xs[j]?=some x->w.cell? ⟨b,off+j,none⟩=some x):(loadVar t ⟨b,off,none⟩).run P w=.ok (if agg then .agg xs.toArray else xs.headD undef) w:=by
 have:=Bp (P:=P) hn qP hlen kW hc
 simpa [Instr.loadAt,Instr.sureAddr] using this
theorem D9(hs:FT w G β a s n):∀(l:List ResultVar)(rs:List jV)(vs:List AV),wK P l rs=true->wA s rs=some vs->
  ∃us,(l.mapM (B0 a.tmps)).run P w=.ok us w/\cj w G vs us/\∀b,bV b vs us<=oh (λt=>cv b (cQ s.env t) (kz a t)) (om rs)+oh (rB b β s.bx) (BZ rs)
 |[],[],vs,_,hr=>by
  simp only[wA,Option.some.injEq]at hr
  subst hr
  exact⟨[],rfl,⟨rfl,λi c v h=>by simp at h⟩,λb=>by simp[bV]⟩
 |x::l,r::rs,vs,hm,hr=>by
  simp only[wA]at hr
  split at hr
  ·rename_i v vs' DE hr2
   cases hr
   have one:∃u,(B0 a.tmps x).run P w=.ok u w/\aO w G v u/\wK P l rs=true/\∀b,fj b v u+(oh (λt=>cv b (cQ s.env t) (kz a t)) (om rs)+oh (rB b β s.bx) (BZ rs))<=
     oh (λt=>cv b (cQ s.env t) (kz a t)) (om (r::rs))+oh (rB b β s.bx) (BZ (r::rs)):=by
    cases x with
    |tmp t=>
     cases r with
     |tmp u mv=>
      simp only[wK,Bool.and_eq_true,beq_iff_eq]at hm
      obtain⟨rfl,hm⟩:=hm
      simp only[Bc]at DE
      rw[AL]at DE
      split at DE
      ·rename_i v' hv
       cases DE
       have DD:=hs.lC t
       refine⟨kz a t,by simp[B0],?_,hm,λb=>?_⟩
       ·cases mv with
        |true=>simp only[yy]at hv;rw[hv]at DD;exact DD
        |false=>have:=DD.view;simp only[yy]at hv;rw[hv]at this;exact this
       ·cases mv with
        |true=>simp only[yy]at hv;simp only[om,BZ,oh,hv,cv];omega
        |false=>
         simp only[yy]at hv
         have h0:=DS b (cQ s.env t) (kz a t)
         rw[hv]at h0
         simp only[cv]at h0
         simp only[om,BZ];omega
      ·cases DE
     |box u j m agg=>simp[wK]at hm
     |cell u m agg=>simp[wK]at hm
    |cell t ty=>
     cases r with
     |tmp u mv=>simp[wK]at hm
     |box u j m agg=>
      simp only[wK,Bool.and_eq_true,beq_iff_eq]at hm
      obtain⟨⟨⟨⟨rfl,hn⟩,qP⟩,kW⟩,hm⟩:=hm
      simp only[Bc]at DE
      split at DE
      ·rename_i i row ML dg
       split at DE
       ·rename_i Al
        simp only[Bool.and_eq_true,decide_eq_true_eq]at Al
        obtain⟨rfl,hlen⟩:=Al
        have hp:=hs.lC t
        rw[ML]at hp
        obtain⟨g,b0,c,e,hg,ff,Hf,th,eS,hle,gV,dw⟩:=Fg hs.box hp dg
        obtain⟨u,hu,k1,k2,_⟩:=AF DE th.lC
        have hl:=zK (P:=P) hn qP (by rw[<-th.lC.1];exact hlen) (λh=>by subst h;simpa using kW) (b:=b0) (off:=0) (λj x hx=>by rw[Nat.zero_add];exact dw j x hx)
        refine⟨u,?_,k1,hm,λb=>?_⟩
        ·simp only[B0,Sem.run_bind]
         rw[show a.tmps.getD t undef=.pointer (some ⟨b0,0,none⟩) from Hf]
         simp only[asAddr,Sem.run_pure,Result.andThen_ok,hl,hu]
        ·rw[k2 b]
         simp only[om,BZ,oh,rB,hg,dg];omega
       ·cases DE
      ·cases DE
     |cell u m agg=>
      simp only[wK,Bool.and_eq_true,beq_iff_eq]at hm
      obtain⟨⟨⟨⟨rfl,hn⟩,qP⟩,kW⟩,hm⟩:=hm
      simp only[Bc]at DE
      split at DE
      ·rename_i p TN
       split at DE
       ·rename_i cs BD
        have hp:=hs.lC t
        rw[TN]at hp
        obtain⟨b0,off,xs,g1,g2,g3,g4⟩:=GY hs.inv BD hp
        obtain⟨u,hu,k1,k2,_⟩:=AF DE g3.view
        have hl:=zK (P:=P) hn qP g2 (λh=>by subst h;simpa using kW) g4
        refine⟨u,?_,k1,hm,λb=>?_⟩
        ·simp only[B0,Sem.run_bind]
         rw[show a.tmps.getD t undef=.pointer (some ⟨b0,off,none⟩) from g1]
         simp only[asAddr,Sem.run_pure,Result.andThen_ok,hl,hu]
        ·rw[k2 b,dn b _ _ (fR cs)]
         simp only[om,BZ];omega
       ·cases DE
      ·cases DE
   obtain⟨u,h1,h2,h3,h4⟩:=one
   obtain⟨us,k1,k2,k3⟩:=D9 hs l rs vs' h3 hr2
   refine⟨u::us,?_,cj.cons h2 k2,λb=>?_⟩
   ·rw[List.mapM_cons]
    simp only[Sem.run_bind,h1,Result.andThen_ok,k1,Sem.run_pure]
   ·have e1:=h4 b
    have e2:=k3 b
    simp only[bV]
    omega
  ·cases hr
 |[],_::_,_,hm,_=>by simp[wK]at hm
 |x::_,[],_,hm,_=>by cases x<;>simp[wK]at hm
end Ax
namespace Ax
open Go
section
variable {K V:Type}
def nS(init:K->V)(wY:Nat->K->Option V)(D:Nat->Bool):Nat->K->V
 |0,x=>init x
 |k+1,x=>if D k then (wY k x).getD (nS init wY D k x) else nS init wY D k x
variable {init:K->V}{wY:Nat->K->Option V}
theorem lQ{D D':Nat->Bool}{x:K}:∀{N:Nat},(∀k,k<N->D k≠D' k->wY k x=none)->nS init wY D N x=nS init wY D' N x
 |0,_=>rfl
 |N+1,h=>by
  have ih:=lQ (N:=N) λk hk=>h k (by omega)
  have hN:=h N (by omega)
  simp only[nS,ih]
  cases h1:D N<;>cases h2:D' N
  ·rfl
  ·rw[hN (by rw[h1,h2];simp)];simp
  ·rw[hN (by rw[h1,h2];simp)];simp
  ·rfl
theorem yL{D:Nat->Bool}{x:K}{j:Nat}:∀{N:Nat},j<=N->(∀k,j<=k->k<N->D k=true->wY k x=none)->nS init wY D N x=nS init wY D j x
 |0,hj,_=>by
  have:j=0:=by omega
  subst this;rfl
 |N+1,hj,h=>by
  by_cases hjN:j=N+1
  ·subst hjN;rfl
  ·have ih:=yL (N:=N) (j:=j) (by omega) λk h1 h2=>h k h1 (by omega)
   simp only[nS]
   cases hD:D N
   ·simpa using ih
   ·rw[h N (by omega) (by omega) hD];simpa using ih
theorem HB{D D':Nat->Bool}{x:K}{j N:Nat}(hj:j<N)(hD:D j=false)(hD':∀k,D' k=if k=j then true else D k)(h:∀k,j<k->k<N->D k=true->wY j x≠none->wY k x=none) :
  nS init wY D' N x=(wY j x).getD (nS init wY D N x):=by
 cases he:wY j x with
 |none=>
  simp only[Option.getD_none]
  refine lQ λk hk ku=>?_
  have:=hD' k
  by_cases hkj:k=j
  ·subst hkj;exact he
  ·rw[if_neg hkj]at this;exact absurd this ku
 |some v=>
  simp only[Option.getD_some]
  have h1:nS init wY D' N x=nS init wY D' (j+1) x:=yL (by omega) λk h1 h2 h3=>by
   refine h k (by omega) h2 ?_ (by rw[he];simp)
   have:=hD' k
   rw[if_neg (by omega)]at this
   rw[<-this];exact h3
  rw[h1]
  have XO:D' j=true:=by rw[hD' j,if_pos rfl]
  simp only[nS,XO,if_true,he,Option.getD_some]
theorem yM{st:Nat->K->V}{N:Nat}(h0:∀x,st 0 x=init x)(hs:∀k,k<N->∀x,st (k+1) x=(wY k x).getD (st k x)):∀{j:Nat},j<=N->∀x,nS init wY (λk=>decide (k<j)) N x=st j x:=by
 have key:∀m,m<=N->∀x,nS init wY (λ_=>true) m x=st m x:=by
  intro m
  induction m with
  |zero=>intro _ x;exact(h0 x).symm
  |succ m ih=>
   intro hm x
   simp only[nS,if_true]
   rw[ih (by omega) x,hs m (by omega) x]
 intro j hj x
 rw[yL (j:=j) hj λk h1 h2 h3=>by simp at h3;omega]
 rw[lQ (D':=λ_=>true) λk hk ku=>by simp[hk]at ku]
 exact key j hj x
end
end Ax
namespace Ax
open Go
def fQ.n6(S:Nat->Option aD):fQ->Bool
 |.Tp .. | .alloc _|.box _|.store _|.mc .. | .uJ .. | .makeMap|.mapUpdate _|.wz _|.copy _|.pz=>true
 |.load _ _ take=>take
 |.rO _ _ _ mt=>mt
 |.call f=>match S f with|some sf=>(match sf.mode with|.pure=>false|_=>true)|none=>true
 |_=>false
def fQ.JY:fQ->Bool
 |.move|.pick|.aR _|.Ai .. | .un _|.conv _|.EW _|.nilCheck|.extract _|.field .. | .build .. | .lit .. | .fieldAddr _|.index|.aE .. | .ai .. | .aH .. | .gq .. | .append .. | .makeFunc .. | .AD .. | .Tq=>true
 |.rO _ _ _ mt=>!mt
 |_=>false
def fQ.bA:fQ->Option Nat
 |.aE j _ _ _|.ai j _|.aH j _|.gq j _=>some j
 |_=>none
def fQ.bW:fQ->Option Nat
 |.aE j _ _ take=>if take then some j else none
 |.ai j _|.aH j _|.gq j _=>some j
 |_=>none
variable {wl aa:Nat}{st bS:aj}{bx fm:aU}{vals:List eG}{e:eG}{S:Nat->Option aD}{O:jC}{op:fQ}
theorem Pq(hw:op.n6 S=false)(h:aL wl aa op vals st bx=some (e,bS,fm)):bS=st:=by
 cases op
 case load agg n take=>
  simp only[fQ.n6]at hw
  subst hw
  unfold aL at h
  simp only[Bool.false_eq_true,if_false]at h
  repeat' split at h
  all_goals first|(cases h;rfl)|cases h
 case rO sz bytes zero mt=>
  simp only[fQ.n6]at hw
  subst hw
  unfold aL at h
  simp only[Bool.false_eq_true,if_false]at h
  repeat' split at h
  all_goals first|(cases h;rfl)|cases h
 all_goals first
  |(simp[fQ.n6]at hw;done)
  |(unfold aL at h;simp only at h;repeat' split at h)
 all_goals first|(cases h;rfl)|cases h
theorem Pr(hn:op.JY=true)(lZ:aj):aL wl aa op vals lZ bx=(aL wl aa op vals st bx).map λx=>(x.1,lZ,x.2.2):=by
 cases op
 case rO sz bytes zero mt=>
  simp only[fQ.JY,Bool.not_eq_true']at hn
  subst hn
  unfold aL
  simp only[Bool.false_eq_true,if_false]
  repeat' split
  all_goals rfl
 all_goals first
  |(simp[fQ.JY]at hn;done)
  |(unfold aL;(try unfold yC);simp only;repeat' split)
 all_goals first|rfl|simp_all
theorem HC(hb:op.bA=none)(wL:aU):aL wl aa op vals st wL=(aL wl aa op vals st bx).map λx=>(x.1,x.2.1,wL):=by
 cases op
 all_goals first
  |(simp[fQ.bA]at hb;done)
  |(unfold aL;(try unfold yC);simp only;repeat' split)
 all_goals first|rfl|simp_all
structure zM (S:Nat->Option aD)(O:jC):Prop where
 call:∀wl aa f args st v bS sf,O.call wl aa f args st=some (v,bS)->S f=some sf->sf.mode=.pure->bS=st
theorem HD(S:Nat->Option aD)(n:Nat):zM S (n8 S n):=by
 refine⟨λwl aa f args st v bS sf h hS hm=>?_⟩
 cases n with
 |zero=>simp[n8]at h
 |succ n=>
  simp only[n8,hS]at h
  unfold dZ at h
  split at h
  ·simp only[Option.map_eq_some_iff]at h
   obtain⟨x,_,hx⟩:=h
   cases hx
   rfl
  unfold de at h
  split at h
  ·split at h
   ·split at h
    ·rw[hm]at h
     simp only[Mode.kJ]at h
     split at h
     ·cases h;rfl
     ·cases h
    ·cases h
   ·cases h
  ·cases h
theorem Ly(hO:zM S O)(hw:op.n6 S=false)(h:qM O wl aa op vals st bx=some (e,bS,fm)):bS=st:=by
 unfold qM at h
 split at h
 ·rename_i f
  simp only[fQ.n6]at hw
  split at hw
  ·rename_i sf hsf
   split at hw
   ·rename_i hm
    unfold fC at h
    split at h
    ·rename_i f' vs hc
     have hf:f'=f:=by
      simp only[ld]at hc
      split at hc
      ·cases hc;rfl
      ·cases hc
     subst hf
     split at h
     ·rename_i dF;cases h;exact hO.call _ _ _ _ _ _ _ _ dF hsf hm
     ·cases h
    ·cases h
   ·cases hw
  ·cases hw
 ·simp[fQ.n6]at hw
 ·exact Pq hw h
theorem Ub(hn:op.JY=true)(lZ:aj)(h:qM O wl aa op vals st bx=some (e,bS,fm)):qM O wl aa op vals lZ bx=some (e,lZ,fm):=by
 unfold qM at h ⊢
 split at h
 ·simp[fQ.JY]at hn
 ·simp[fQ.JY]at hn
 ·rename_i h1 h2
  rw[Pr hn lZ,h];rfl
theorem Fl(hb:op.bA=none)(wL:aU)(h:qM O wl aa op vals st bx=some (e,bS,fm)):fm=bx/\qM O wl aa op vals st wL=some (e,bS,wL):=by
 have call:∀x,fC O wl aa x st bx=some (e,bS,fm)->fm=bx/\fC O wl aa x st wL=some (e,bS,wL):=by
  intro x h
  unfold fC at h ⊢
  split at h
  ·rename_i f vs
   cases hc:O.call wl aa f vs st with
   |none=>rw[hc]at h;cases h
   |some y=>rw[hc]at h;cases h;exact⟨rfl,rfl⟩
  ·cases h
 unfold qM at h ⊢
 split at h
 ·exact call _ h
 ·exact call _ h
 ·rename_i h1 h2
  have e1:=HC (wl:=wl) (aa:=aa) (vals:=vals) (st:=st) (bx:=bx) hb bx
  rw[h]at e1
  simp only[Option.map_some,Option.some.injEq,Prod.mk.injEq,true_and]at e1
  refine⟨e1,?_⟩
  rw[HC hb wL,h];rfl
theorem HE{wL:aU}(hl:wL.length=bx.length)(ha:∀b,op.bA=some b->wL[b]?=bx[b]?)(h:qM O wl aa op vals st bx=some (e,bS,fm)) :
  ∃Uc,qM O wl aa op vals st wL=some (e,bS,Uc)/\fm.length=bx.length/\Uc.length=wL.length/\(∀b,op.bW=some b->Uc[b]?=fm[b]?)/\(∀b,op.bW≠some b->Uc[b]?=wL[b]?)/\(∀b,op.bW≠some b->fm[b]?=bx[b]?):=by
 cases hb:op.bA with
 |none=>
  obtain⟨rfl,e2⟩:=Fl hb wL h
  refine⟨wL,e2,rfl,rfl,λb h=>?_,λ_ _=>rfl,λ_ _=>rfl⟩
  cases op<;>simp_all [fQ.bA,fQ.bW]
 |some j=>
  have hj:=ha j hb
  have Lz:∀(row:List AV),j<bx.length->(bx.set j row).length=bx.length/\(wL.set j row).length=wL.length/\(wL.set j row)[j]?=(bx.set j row)[j]?/\(∀b,j≠b->(wL.set j row)[b]?=wL[b]?)/\(∀b,j≠b->(bx.set j row)[b]?=bx[b]?):=by
   intro row bn
   refine⟨by simp,by simp,?_,λb hb=>?_,λb hb=>?_⟩
   ·rw[List.getElem?_set,List.getElem?_set,if_pos rfl,if_pos rfl,if_pos bn,if_pos (by omega)]
   ·rw[List.getElem?_set,if_neg hb]
   ·rw[List.getElem?_set,if_neg hb]
  cases op<;>simp only[fQ.bA]at hb<;>try cases hb
  case some.aE.refl agg n take=>
   simp only[qM]at h ⊢
   unfold aL at h ⊢
   simp only at h ⊢
   split at h
   ·rename_i j' k
    split at h
    ·rename_i XO
     subst XO
     split at h
     ·rename_i row dg
      have bn:=(List.getElem?_eq_some_iff.1 dg).1
      rw[if_pos rfl,hj,dg]
      simp only
      split at h
      ·rename_i cs Pc
       cases take with
       |true=>
        simp only[if_true]at h ⊢
        split at h
        ·rename_i v hv
         cases h
         obtain⟨a1,a2,a3,a4,a5⟩:=Lz (af row k (cs.map AV.iM)) bn
         exact⟨_,rfl,a1,a2,λb hb=>by simp[fQ.bW]at hb;subst hb;exact a3,λb hb=>a4 b (by simpa [fQ.bW] using hb),λb hb=>a5 b (by simpa [fQ.bW] using hb)⟩
        ·cases h
       |false=>
        simp only[Bool.false_eq_true,if_false]at h ⊢
        split at h
        ·rename_i v hv
         cases h
         exact⟨_,rfl,rfl,rfl,λb hb=>by simp[fQ.bW]at hb,λ_ _=>rfl,λ_ _=>rfl⟩
        ·cases h
      ·cases h
     ·cases h
    ·cases h
   ·cases h
  case some.ai.refl n=>
   simp only[qM]at h ⊢
   unfold aL at h ⊢
   simp only at h ⊢
   split at h
   ·rename_i j' k v
    split at h
    ·rename_i hc
     have XO:j=j':=by simp only[Bool.and_eq_true,decide_eq_true_eq]at hc;exact hc.1.1
     split at h
     ·rename_i row dg
      have bn:=(List.getElem?_eq_some_iff.1 dg).1
      rw[if_pos hc,hj,dg]
      simp only
      split at h
      ·rename_i cm
       cases h
       rw[if_pos cm]
       obtain⟨a1,a2,a3,a4,a5⟩:=Lz (af row k v.cells) bn
       exact⟨_,rfl,a1,a2,λb hb=>by simp[fQ.bW]at hb;subst hb;exact a3,λb hb=>a4 b (by simpa [fQ.bW] using hb),λb hb=>a5 b (by simpa [fQ.bW] using hb)⟩
      ·cases h
     ·cases h
    ·cases h
   ·cases h
  case some.aH.refl zero=>
   simp only[qM]at h ⊢
   unfold aL at h ⊢
   simp only at h ⊢
   split at h
   ·split at h
    ·rename_i bn
     cases h
     rw[if_pos (by omega)]
     obtain⟨a1,a2,a3,a4,a5⟩:=Lz zero bn
     exact⟨_,rfl,a1,a2,λb hb=>by simp[fQ.bW]at hb;subst hb;exact a3,λb hb=>a4 b (by simpa [fQ.bW] using hb),λb hb=>a5 b (by simpa [fQ.bW] using hb)⟩
    ·cases h
   ·cases h
  case some.gq.refl n=>
   simp only[qM]at h ⊢
   unfold aL at h ⊢
   simp only at h ⊢
   split at h
   ·rename_i v
    split at h
    ·rename_i hc
     have Om:=hc
     simp only[Bool.and_eq_true,decide_eq_true_eq]at Om
     cases h
     rw[if_pos (by simp only[Bool.and_eq_true,decide_eq_true_eq];exact⟨⟨by omega,Om.1.2⟩,Om.2⟩)]
     obtain⟨a1,a2,a3,a4,a5⟩:=Lz v.cells Om.1.1
     exact⟨_,rfl,a1,a2,λb hb=>by simp[fQ.bW]at hb;subst hb;exact a3,λb hb=>a4 b (by simpa [fQ.bW] using hb),λb hb=>a5 b (by simpa [fQ.bW] using hb)⟩
    ·cases h
   ·cases h
theorem X1{b:Nat}(h:qM O wl aa op vals st bx=some (e,bS,fm))(hv:∀x∈vals,x.nL b=true)(hn:op.bz≠some b):e.nL b=true:=by
 have call:∀x,fC O wl aa x st bx=some (e,bS,fm)->e.nL b=true:=by
  intro x h
  unfold fC at h
  repeat' split at h
  all_goals first|(cases h;rfl)|cases h
 have val:∀a:AV,(eG.val a).nL b=true:=λ_=>rfl
 unfold qM at h
 split at h
 ·exact call _ h
 ·exact call _ h
 ·cases op
  case move=>
   unfold aL at h
   simp only at h
   split at h
   ·cases h;exact hv _ (by simp)
   ·cases h
  case pick=>
   unfold aL at h
   simp only at h
   split at h
   ·rename_i c x y
    cases h
    cases c
    ·exact hv _ (by simp)
    ·exact hv _ (by simp)
   ·cases h
  case nilCheck=>
   unfold aL at h
   simp only at h
   split at h
   ·cases h;exact hv _ (by simp)
   ·split at h<;>first|(cases h;rfl)|cases h
   ·cases h
  case fieldAddr off=>
   unfold aL at h
   simp only at h
   split at h
   ·rename_i j k
    cases h
    have:=hv (.fp j k) (by simp)
    simpa [eG.nL] using this
   ·cases h;rfl
   ·cases h;rfl
   ·cases h
  case aH j zero=>
   unfold aL at h
   simp only at h
   split at h
   ·split at h
    ·cases h
     simp only[fQ.bz,ne_eq,Option.some.injEq]at hn
     simpa [eG.nL] using hn
    ·cases h
   ·cases h
  case gq j n=>
   unfold aL at h
   simp only at h
   split at h
   ·split at h
    ·cases h
     simp only[fQ.bz,ne_eq,Option.some.injEq]at hn
     simpa [eG.nL] using hn
    ·cases h
   ·cases h
  all_goals
   unfold aL at h
   (try unfold yC at h)
   simp only at h
   repeat' split at h
  all_goals first|(cases h;rfl)|cases h
end Ax
namespace Ax
open Go
def m9(o:Oper):List Nat:=(o.after.toList.filter (Region.binds .any)).map (·.on)
def bms:List Oper->List Nat->List Nat
 |[],acc=>acc
 |o::l,acc=>bms l (acc++[(m9 o).foldl (λm p=>m ||| (1 <<< p) ||| acc.getD p 0) 0])
def bef(bm:List Nat)(i j:Nat):Bool:=(bm.getD j 0).testBit i
def pP(so:aX):List Nat:=so.dst.toList++oI so.args
def Ud:List Src->List Nat
 |[]=>[]
 |.tmp t _::l=>t::Ud l
 |_::l=>Ud l
def wM(so:aX):List Nat:=Ud so.args++(match so.guard with|some (t,_)=>[t]|none=>[])
def j4(S:Nat->Option aD)(bK:List (Nat×Nat))(i j:Nat)(a b:aX):Bool:=
 (pP a).all (λt=>!(wM b).contains t && !(pP b).contains t)&&(pP b).all (λt=>!(wM a).contains t) &&
 (match a.op.bW with|some x=>b.op.bA != some x|none=>true)&&(match b.op.bW with|some x=>a.op.bA != some x|none=>true) &&
 (!(a.op.n6 S&&b.op.n6 S)||bK.contains (100000+i,j))&&(a.op.JY || !(b.op.n6 S)||a.op.n6 S||bK.contains (i,j))&&(b.op.JY || !(a.op.n6 S)||b.op.n6 S||bK.contains (j,i))
def B1(n:Nat)(f:Nat->Nat->Bool):Bool:=(List.range n).all λj=>(List.range j).all λi=>f i j
def AM:fQ->Bool
 |.store _=>true
 |_=>false
def Wx(S:Nat->Option aD)(m:List aX)(bK:List (Nat×Nat)):Nat×Nat->Bool
 |(c,q)=>if 100000<=c&&decide (c<200000) then
   let p:=c-100000
   (match m[p]?,m[q]? with|some a,some b=>AM a.op&&AM b.op&&a.guard.isNone&&b.guard.isNone|_,_=>false) &&
   decide (p<q)&&(List.range (q-p-1)).all (λd=>match m[p+1+d]? with|some o=>!(o.op.n6 S)|none=>false) &&
   bK.all (λx=>decide (100000<=x.1) || !(x.2==p||x.2==q)||bK.contains (100000*(x.1+2)+p,q)) &&
   bK.all (λx=>!(decide (100000<=x.1)&&decide (x.1<200000))||(x.1==c&&x.2==q))
  else true
def LA(S:Nat->Option aD)(P:Program)(cT:Array Oper)(n:Nat)(m:List aX)(bK:List (Nat×Nat)):Bool:=
 let bm:=bms cT.toList []
 P.follows .mixedOrders&&pO S P cT n cT.toList m&&(decide (cT.size<100000)&&bK.all (Wx S m bK)) &&
 (List.range cT.size).all (λj=>match cT[j]? with
  |some o=>(m9 o).all (λp=>decide (p<j))&&(List.range cT.size).all λi=>!bef bm i j||(m9 o).any λp=>i==p||bef bm i p
  |none=>true) &&
 B1 cT.size (λi j=>match m[i]?,m[j]? with
  |some a,some b=>(bef bm i j||j4 S bK i j a b)&&(match a.op.bz,b.op.bz with|some x,some y=>x != y|_,_=>true)
  |_,_=>true)
theorem uc{n:Nat}{f:Nat->Nat->Bool}(h:B1 n f=true){i j:Nat}(h1:i<j)(h2:j<n):f i j=true:=by
 simp only[B1,List.all_eq_true,List.mem_range]at h
 exact h j h2 i h1
end Ax
namespace Ax
open Go
variable {S:Nat->Option aD}{P:Program}{cT:Array Oper}{n:Nat}{m:List aX}{bK:List (Nat×Nat)}
theorem B2:∀{l:List Oper}{m:List aX},pO S P cT n l m=true->l.length=m.length/\∀(i:Nat) o so,l[i]?=some o->m[i]?=some so->D7 S P cT n o so=true
 |[],[],_=>⟨rfl,λi o so h=>by simp at h⟩
 |o::l,so::m,h=>by
  simp only[pO,Bool.and_eq_true]at h
  obtain⟨e1,e2⟩:=B2 h.2
  refine⟨by simp[e1],λi o' so' h1 h2=>?_⟩
  cases i with
  |zero=>simp at h1 h2;subst h1;subst h2;exact h.1
  |succ i=>exact e2 i o' so' (by simpa using h1) (by simpa using h2)
 |[],_::_,h=>by simp[pO]at h
 |_::_,[],h=>by simp[pO]at h
def Pu(cT:Array Oper)(D:Nat->Bool):Prop:=∀(j:Nat) o,cT[j]?=some o->D j=true->∀p∈m9 o,D p=true
structure Wy (S:Nat->Option aD)(P:Program)(cT:Array Oper)(n:Nat)(m:List aX)(bK:List (Nat×Nat)):Prop where
 fol:P.follows .mixedOrders=true
 len:m.length=cT.size
 get:∀(i:Nat) o so,cT[i]?=some o->m[i]?=some so->D7 S P cT n o so=true
 lt:∀(j:Nat) o,cT[j]?=some o->∀p∈m9 o,p<j
 apA:∀(D:Nat->Bool),Pu cT D->∀(j:Nat) o,cT[j]?=some o->(∀p∈m9 o,D p=true)->∀(k:Nat) a b,k<j->D k=false->m[k]?=some a->m[j]?=some b->j4 S bK k j a b=true
 apB:∀(D:Nat->Bool),Pu cT D->∀(j k:Nat) a b,j<k->D j=false->D k=true->m[j]?=some a->m[k]?=some b->j4 S bK j k a b=true
 Ea:m.length<100000
 xt:∀p q,p<100000->(100000+p,q)∈bK->p<q/\(∃a b,m[p]?=some a/\m[q]?=some b/\AM a.op=true/\AM b.op=true/\a.guard=none/\b.guard=none)/\(∀(j:Nat) o,p<j->j<q->m[j]?=some o->o.op.n6 S=false)/\
  (∀k w,(k,w)∈bK->k<100000->w=p\/w=q->(100000*(k+2)+p,q)∈bK)/\∀i j,i<100000->(100000+i,j)∈bK->i=p/\j=q
 Wz:∀(i j:Nat) a b x,i<j->m[i]?=some a->m[j]?=some b->a.op.bz=some x->b.op.bz≠some x
theorem Pv(h:LA S P cT n m bK=true):Wy S P cT n m bK:=by
 unfold LA at h
 simp only[Bool.and_eq_true,List.all_eq_true,List.mem_range]at h
 obtain⟨⟨⟨⟨h1,h2⟩,h5,h6⟩,h3⟩,h4⟩:=h
 obtain⟨e1,e2⟩:=B2 h2
 have hlen:m.length=cT.size:=by rw[<-e1];simp
 have bn:∀(j:Nat) o,cT[j]?=some o->∀p∈m9 o,p<j:=λj o ho p hp=>by
  have:=h3 j (Array.getElem?_eq_some_iff.1 ho).1
  rw[ho]at this
  simp only[Bool.and_eq_true,List.all_eq_true,decide_eq_true_eq]at this
  exact this.1 p hp
 have TE:∀(D:Nat->Bool),Pu cT D->∀(j:Nat) o,cT[j]?=some o->(∀p∈m9 o,D p=true)->∀i,i<cT.size->bef (bms cT.toList []) i j=true->D i=true:=by
  intro D hD j
  induction j using Nat.strongRecOn with
  |_ j ih=>
   intro o ho hp i hi hb
   have:=h3 j (Array.getElem?_eq_some_iff.1 ho).1
   rw[ho]at this
   simp only[Bool.and_eq_true,List.all_eq_true,List.mem_range,Bool.or_eq_true,Bool.not_eq_true',List.any_eq_true,beq_iff_eq]at this
   rcases this.2 i hi with h5|⟨p,Ue,h6⟩
   ·rw[hb]at h5;cases h5
   ·rcases h6 with rfl|h6
    ·exact hp i Ue
    ·have hpj:=bn j o ho p Ue
     have Uf:p<cT.size:=by have:=(Array.getElem?_eq_some_iff.1 ho).1;omega
     have Ww:cT[p]?=some cT[p]:=by simp[Uf]
     exact ih p hpj cT[p] Ww (λq hq=>hD p cT[p] Ww (hp p Ue) q hq) i hi h6
 refine⟨h1,hlen,λi o so ho hso=>e2 i o so (by simpa using ho) hso,bn,λD hD j o ho hp k a b hk hDk ha hb=>?_,λD hD j k a b B3 hDj hDk ha hb=>?_,by rw[hlen];simpa using h5,λp q hp S6=>?_,λi j a b x Al ha hb hx hy=>?_⟩
 ·have hj:=(Array.getElem?_eq_some_iff.1 ho).1
  have:=uc h4 hk hj
  rw[ha,hb]at this
  simp only[Bool.and_eq_true,Bool.or_eq_true]at this
  rcases this.1 with h5|h5
  ·rw[TE D hD j o ho hp k (by omega) h5]at hDk;cases hDk
  ·exact h5
 ·have hk:k<cT.size:=by rw[<-hlen];exact(List.getElem?_eq_some_iff.1 hb).1
  have:=uc h4 B3 hk
  rw[ha,hb]at this
  simp only[Bool.and_eq_true,Bool.or_eq_true]at this
  have X2:cT[k]?=some cT[k]:=by simp[hk]
  rcases this.1 with h5|h5
  ·rw[TE D hD k cT[k] X2 (hD k cT[k] X2 hDk) j (by omega) h5]at hDj;cases hDj
  ·exact h5
 ·have:=h6 _ S6
  simp only[Wx]at this
  rw[if_pos (by simp;omega)]at this
  simp only[Nat.add_sub_cancel_left,Bool.and_eq_true,decide_eq_true_eq,List.all_eq_true,List.mem_range,Bool.or_eq_true,Bool.not_eq_true',Bool.or_eq_false_iff,List.contains_eq_mem,Prod.forall,Bool.and_eq_false_iff,beq_iff_eq,beq_eq_false_iff_ne,decide_eq_false_iff_not]at this
  obtain⟨⟨⟨⟨t1,t2⟩,t3⟩,t4⟩,t5⟩:=this
  refine⟨t2,?_,λj o Jp hj2 ho=>?_,λk w hk LD hw=>?_,λi j hi Al=>?_⟩
  ·split at t1
   ·rename_i a b ha hb
    simp only[Bool.and_eq_true,Option.isNone_iff_eq_none]at t1
    exact⟨a,b,ha,hb,t1.1.1.1,t1.1.1.2,t1.1.2,t1.2⟩
   ·cases t1
  ·have:=t3 (j-p-1) (by omega)
   rw[show p+1+(j-p-1)=j by omega,ho]at this
   simpa using this
  ·rcases t4 k w hk with (h|h)|h
   ·omega
   ·exfalso;rcases hw with e|e
    ·exact h.1 e
    ·exact h.2 e
   ·exact h
  ·rcases t5 _ _ Al with h|h
   ·omega
   ·exact⟨by omega,h.2⟩
 ·have hj:j<cT.size:=by rw[<-hlen];exact(List.getElem?_eq_some_iff.1 hb).1
  have:=uc h4 Al hj
  rw[ha,hb]at this
  simp only[Bool.and_eq_true]at this
  have h5:=this.2
  rw[hx,hy]at h5
  simp at h5
end Ax
