/- Part of a proof. -/
import Derived.Test.YtpnadocbfbbboaaGreatA3
import Derived.Orders

namespace Ax
open Go
variable {P:Program}{w w':World}{G G':aQ}{β gw:List mS}{ρ:Operand->Value}{o:Oper}
variable {S:Nat->Option aD}{so:aY}{vals:List eO}{wl J:Nat}{st st':ai}{bx fH:aX}{cO:Nat->Nat}{r:eO}
theorem jo.le{cO cO':Nat->Nat}{v:Value}(h:jo w G β st bx cO w' G' gw st' fH r v)(hc:∀b,cO b<=cO' b):jo w G β st bx cO' w' G' gw st' fH r v:=
 { h with fG:=λb=>by have h1:=h.fG b;have h2:=hc b;omega,wj:=λb hb=>h.wj b (by have:=hc b;omega) }
theorem abC{t e:TypeId}{parts:Array (Nat×Operand)}(ho:o.op=.buildSlice t 0 parts)(hu:P.underlying t=some (.slice e)){sz:Nat}(eI:cy P e sz=true)(hp:parts = #[]) :
  (execOp ρ o).run P w=.ok (.value (.slice (some ⟨w.heap.size,0,none⟩) 0 0)) (w.alloc (.cells #[] e)):=by
 obtain⟨i,hi,Ft,_⟩:=lG eI;subst hp;have h0:(Array.range 0).map (λ_:Nat=>(default:Value)) = #[]:=by apply Array.ext';simp
 simp[execOp,ho,Instr.buildSlice,run_underlying hu,Go.sizeOf,typeInfo,hi,Instr.fill,newRow];rw[h0]
theorem aap{t:TypeId}{n n' sz:Nat}{parts:Array (Nat×Operand)}{zero:List AV}{qs:List Nat}{mu:Bool}(ho:o.op=.buildSlice t n parts)(hn':n=n')
  (hu:match P.underlying t with
   |some (.slice e)=>(cy P e sz&&decide (n*sz<=16777216)&&oG P e zero&&decide (0<sz)&&(zero.length==sz)&&parts.toList.map (·.1)==qs)=true|_=>False) (hI:jn w G st) (hB:j5 w G β bx)
  (hR:kX w G β vals ((parts.toList.map (·.2)).map ρ)) (hcO:∀b,mm b vals ((parts.toList.map (·.2)).map ρ)<=cO b) (ha:aP wl J (if mu then .Qc sz n' zero qs else .lit sz n' zero qs) vals st bx=some (r,st',fH)) :
  jq P ρ o w G β st bx cO none r st' fH:=by
 subst hn';split at hu;rename_i e Ih;simp only[Bool.and_eq_true,decide_eq_true_eq,beq_iff_eq]at hu;obtain⟨⟨⟨⟨⟨eI,Mz⟩,hz⟩,Xi⟩,Sx⟩,hq⟩:=hu;have HU:(parts.toList.map (·.2)).map ρ=parts.toList.map λp=>ρ p.2:=by simp
 rw[HU]at hR hcO;cases mu with
 |true=>
  simp only[if_true]at ha;unfold aP at ha;simp only at ha;split at ha;rename_i vs Fs;split at ha;rename_i rows tZ;split at ha;rename_i hc;simp only[Bool.and_eq_true,decide_eq_true_eq]at hc;cases ha;obtain⟨hv,Fu⟩:=hR.Qw Fs;obtain⟨cells,e1,e2,e3,e4,e5,e6⟩:=aah (w:=w) ho Ih eI Mz hz Xi Sx hq tZ hc.2 hv;obtain⟨G',hA,_⟩:=wm (sz:=sz) (cap:=n) (rows:=rows) (c:=cells) (e:=e) (xs:=cells.toList) (w':=w.alloc (.cells cells e)) (cO:=cO) hI hB rfl rfl rfl e4 (zC hc.1) e2 hc.2 (by omega) (by omega) (by simp)
   (λb=>by have h1:=e3 b;have h2:=hcO b;rw[Fu]at h2;omega)
  exact⟨_,_,_,G',β,e1,.inl rfl,hA,eU.refl _ _⟩;cases ha;cases ha;cases ha
 |false=>
  simp only[Bool.false_eq_true,if_false]at ha;unfold aP at ha;simp only at ha;split at ha;rename_i vs Fs;split at ha;rename_i rows tZ;split at ha;rename_i hc;simp only[Bool.and_eq_true]at hc;cases ha;obtain⟨hv,Fu⟩:=hR.Qw Fs;by_cases hn:n=0;subst hn;rw[if_pos rfl];have abD:parts = #[]:=by
   cases Mh:parts.toList with
   |nil=>exact Array.toList_eq_nil_iff.1 Mh|cons p l=>
    rw[Mh]at hq;subst hq;simp only[List.map_cons,List.replicate_zero]at tZ;cases RR:AV.cJ vs with
    |nil=>rw[RR]at tZ;simp[fW]at tZ|cons v l'=>rw[RR]at tZ;simp[fW]at tZ
  exact⟨_,_,_,_,β,abC ho Ih eI abD,.inl rfl,CQ (w':=w.alloc (.cells #[] e)) rfl rfl rfl none hI hB (.lU _) λb=>by simp[fG],eU.refl _ _⟩;rw[if_neg hn];have FC:0<n:=by omega
  obtain⟨cells,e1,e2,e3,e4,e5,e6⟩:=aah (w:=w) ho Ih eI Mz hz Xi Sx hq tZ FC hv.aa;have iz:∀r∈rows,AV.dN r=true:=by
   obtain⟨_,_,_,_,_,J1,_⟩:=lV hz w G;have:=zD (sz:=sz) (p:=λc=>c.b9=true) qs (AV.cJ vs) _ rows (λr hr c hc=>by
    rw[List.eq_of_mem_replicate hr]at hc;exact(J1 c hc).1) (λv hv=>Kn (Ko vs v hv)) tZ
   exact λr hr=>(cA r).2 (this r hr)
  have hrv:=HX (G:=G.new w.heap.size (some (rows.length*sz)) []) (w:=w.alloc (.cells cells e)) (cap:=n) (off:=0) e4 (zC hc.2) iz (Km hc.1) (e2.push (w':=w.alloc (.cells cells e)) rfl _ _) (ry rfl) (by omega) (by omega) (by simp[aQ.new]) (λk x hk=>by rw[Nat.zero_add];simpa using hk);exact⟨_,_,_,_,β,e1,.inl rfl,CQ (w':=w.alloc (.cells cells e)) rfl rfl rfl (some (rows.length*sz)) hI hB hrv.aa λb=>by simp[fG],eU.refl _ _⟩;cases ha;cases ha;cases ha
 exact hu.elim
theorem DR{α:Type}{l:List α}(h:l.length=2):∃x y,l=[x,y]:=by
 match l,h with
 |[x,y],_=>exact⟨x,y,rfl⟩
theorem Cv{sz:Nat}{vals:List eO}(wl J:Nat):aP wl J (.indexAddr sz) vals st bx=aP 0 0 (.indexAddr sz) vals st bx:=rfl
theorem agb{w:World}{G:aQ}{b:Bool}{v:Value}(h:aS w G (.bool b) v):v=.bool b:=h.jL
theorem abE(hm:mOp S P o so=true)(hI:jn w G st)(hB:j5 w G β bx)(hX:∀b,cO b+fR b β bx+cj b G.ls st<=1)
  (hA:∀xs,fJ xs so.args=true->kX w G β vals (xs.map ρ)/\∀b,mm b vals (xs.map ρ)<=cO b)(ha:aP wl J so.op vals st bx=some (r,st',fH)) :
  jq P ρ o w G β st bx cO so.op.b8 r st' fH:=by
 unfold mOp at hm;rw[Bool.and_eq_true]at hm;replace hm:=hm.2;generalize hso:so.op=sop at hm ha;split at hm;rename_i x ho;obtain⟨hR,hc⟩:=hA _ hm;unfold aP at ha;simp only at ha;split at ha;cases ha;exact jq.ni hI hB (u:=ρ x) (by simp[execOp,ho]) hR.1 λb=>by have:=hc b;simp only[List.map_cons,mm]at this;omega
 cases ha;rename_i x ho;obtain⟨hR,hc⟩:=hA _ hm;unfold aP at ha;simp only at ha;split at ha;cases ha;exact jq.ni hI hB (u:=ρ x) (by simp[execOp,ho]) hR.1 λb=>by have:=hc b;simp only[List.map_cons,mm]at this;omega
 cases ha;rename_i c x y ho;obtain⟨hR,hc⟩:=hA _ hm;unfold aP at ha;simp only at ha;split at ha;rename_i b x' y';cases ha;obtain⟨h1,h2,h3,_⟩:=hR;have hb:=agb h1;refine jq.ni hI hB (u:=if b then ρ x else ρ y) (by simp[execOp,ho,hb,asBool]) ?_ λd=>?_;cases b;exact h3;exact h2;have:=hc d;simp only[List.map_cons,mm]at this;cases b;simp;omega;simp;omega;cases ha;rename_i op t x y yt op' ho;simp only[Bool.and_eq_true,beq_iff_eq]at hm;obtain⟨rfl,hm⟩:=hm;obtain⟨hR,hc⟩:=hA _ hm;unfold aP at ha;simp only at ha;split at ha;split at ha;rename_i v hv;cases ha;obtain⟨u,e1,e2,e3⟩:=afM ho hv hR.1 hR.2.1;exact jq.b9 hI hB e1 e2 e3;cases ha;cases ha;rename_i op t x y yt k neg ho;simp only[Bool.and_eq_true,beq_iff_eq]at hm;obtain⟨⟨rfl,hm⟩,ht⟩:=hm;obtain⟨hR,hc⟩:=hA _ hm;unfold aP at ha;simp only at ha;split at ha;split at ha;rename_i b hb;cases ha;obtain⟨u,e1,e2⟩:=afN ho ht hb hR.1 hR.2.1;exact jq.b9 hI hB e1 e2 rfl;cases ha;cases ha;rename_i op t x y yt neg ho;simp only[Bool.and_eq_true,beq_iff_eq]at hm;obtain⟨⟨rfl,hm⟩,ht⟩:=hm;obtain⟨hR,hc⟩:=hA _ hm;unfold aP at ha;simp only at ha;split at ha;rename_i id b6;split at ha;rename_i v sz rows gi;split at ha;rename_i j7;cases ha;exact jq.b9 hI hB (W8 ho ht hI gi j7 hR.1 hR.2.1) (.bool _) rfl;cases ha;cases ha;cases ha;rename_i op t x op' ho;simp only[Bool.and_eq_true,beq_iff_eq]at hm;obtain⟨rfl,hm⟩:=hm;obtain⟨hR,hc⟩:=hA _ hm;unfold aP at ha;simp only at ha;split at ha;split at ha;rename_i v hv;cases ha;obtain⟨u,e1,e2,e3⟩:=aks ho hv hR.1;exact jq.b9 hI hB e1 e2 e3;cases ha;cases ha;rename_i s d x k ho;simp only[Bool.and_eq_true]at hm;obtain⟨hm,ht⟩:=hm;obtain⟨hR,hc⟩:=hA _ hm;unfold aP at ha;simp only at ha;split at ha;cases ha;split at ht;rename_i k1 k2 h1 h2;simp only[beq_iff_eq]at ht;subst ht;exact jq.b9 hI hB (abq ho h1 h2 hR.1) (.int _ _) rfl;cases ht;cases ha;rename_i x ho;obtain⟨hR,hc⟩:=hA _ hm;unfold aP at ha;simp only at ha;split at ha;cases ha;obtain⟨g,b,h1,h2,h3⟩:=hR.1;exact jq.ni hI hB (yJ ho h3) ⟨g,b,h1,h2,h3⟩ λd=>by simp[cx]
 split at ha;cases ha;have hp:∃a,ρ x=.pointer (some a):=by
  have h:=hR.1;simp only[kF]at h;cases h with|ptr _ _ _ _ _ _ hp=>exact hp
 obtain⟨a,hp⟩:=hp;exact jq.ni hI hB (yJ ho hp) hR.1 λd=>by simp[cx,fG]
 cases ha;have hp:∃a,ρ x=.pointer (some a):=by
  have h:=hR.1;simp only[kF]at h;generalize ρ x=v at h;cases h;exact⟨_,rfl⟩
 obtain⟨a,hp⟩:=hp;exact jq.ni hI hB (yJ ho hp) hR.1 λd=>by simp[cx,fG]
 cases ha;cases ha;rename_i x i j ho;simp only[Bool.and_eq_true,beq_iff_eq]at hm;obtain⟨rfl,hm⟩:=hm;obtain⟨hR,hc⟩:=hA _ hm;unfold aP at ha;simp only at ha;split at ha;split at ha;rename_i v hv;cases ha;obtain⟨u,e1,e2,e3⟩:=Qi ho hv hR.1;exact jq.ni hI hB e1 e2 λb=>by have h1:=hc b;have h2:=e3 b;simp only[List.map_cons,mm,cx]at h1 ⊢;omega
 cases ha;cases ha;rename_i t x f off n agg ho;simp only[Bool.and_eq_true]at hm;obtain⟨hm,ht⟩:=hm;obtain⟨hR,hc⟩:=hA _ hm;split at ht;rename_i fs hu;split at ht;rename_i fd hf;simp only[Bool.and_eq_true,beq_iff_eq]at ht;obtain⟨⟨h1,h2⟩,h3⟩:=ht;unfold aP at ha;simp only at ha;split at ha;split at ha;rename_i cs SL;split at ha;rename_i v hv;cases ha;obtain⟨u,e1,e2,e3⟩:=Xb ho hu hf h1 h2 h3 SL hv hR.1;exact jq.ni hI hB e1 e2 λb=>by have h1:=hc b;have h2:=e3 b;simp only[List.map_cons,mm,cx]at h1 ⊢;omega
 cases ha;cases ha;cases ha;cases ht;cases ht;rename_i t parts zero qs ho;simp only[Bool.and_eq_true]at hm;obtain⟨⟨hm,hz⟩,ht⟩:=hm;obtain⟨hR,hc⟩:=hA _ hm;have HU:(parts.toList.map (·.2)).map ρ=parts.toList.map λp=>ρ p.2:=by simp
 rw[HU]at hR hc;split at ht;rename_i fs hu;split at ht;rename_i is Ft;unfold aP at ha;simp only at ha;split at ha;rename_i vs Fs;split at ha;rename_i cs tZ;cases ha;obtain⟨hv,Fu⟩:=hR.Qw Fs;obtain⟨u,e1,e2,e3⟩:=Xc ho hu Ft hz ht tZ hv;exact jq.ni hI hB e1 e2 λb=>by have h1:=hc b;have h2:=e3 b;have h3:=Fu b;simp only[cx];omega
 cases ha;cases ha;cases ht;cases ht;rename_i t n parts sz n' zero qs ho;simp only[Bool.and_eq_true,beq_iff_eq]at hm;obtain⟨⟨hn,hm⟩,ht⟩:=hm;obtain⟨hR,hc⟩:=hA _ hm;refine aap (mu:=false) ho hn ?_ hI hB hR hc ha;split at ht;rename_i he;rw[he];simpa using ht;cases ht;rename_i t n parts sz n' zero qs ho;simp only[Bool.and_eq_true,beq_iff_eq]at hm;obtain⟨⟨hn,hm⟩,ht⟩:=hm;obtain⟨hR,hc⟩:=hA _ hm;refine aap (mu:=true) ho hn ?_ hI hB hR hc ha;split at ht;rename_i he;rw[he];simpa using ht;cases ht;rename_i t x f off ho;simp only[Bool.and_eq_true]at hm;obtain⟨hm,ht⟩:=hm;obtain⟨hR,hc⟩:=hA _ hm;split at ht;rename_i fs hu;split at ht;rename_i fd hf;simp only[Bool.and_eq_true,beq_iff_eq]at ht;obtain⟨h1,h2⟩:=ht;subst h1;split at h2;rename_i i hi;have hs:i.size≠0:=by simpa using h2
 unfold aP at ha;simp only at ha;split at ha;rename_i j k;cases ha;obtain⟨g,b,g1,g2,g3⟩:=hR.1;refine jq.ni hI hB (wg ho hu hf hi hs g3) ⟨g,b,g1,g2,?_⟩ λd=>by simp[cx]
 rw[lI];rename_i id b6 i' k;cases ha;obtain⟨a,e1,e2⟩:=yg hR.1 (.inl ⟨id,b6,i',k,rfl,rfl⟩);exact jq.b9 hI hB (wg ho hu hf hi hs e1) e2 rfl;rename_i sz rows i' k;cases ha;obtain⟨a,e1,e2⟩:=yg hR.1 (.inr ⟨sz,rows,i',k,rfl,rfl⟩);exact jq.b9 hI hB (wg ho hu hf hi hs e1) e2 rfl;cases ha;cases h2;cases ht;cases ht;rename_i t x y sz ho;simp only[Bool.and_eq_true]at hm;obtain⟨hm,ht⟩:=hm;obtain⟨hR,hc⟩:=hA _ hm;split at ht;rename_i e hu;rw[Cv]at ha;have CU:=ha;unfold aP at ha;simp only at ha;split at ha;obtain⟨rfl,rfl,p,u,rfl,e1,e2,e3⟩:=J3 ho hu ht hI CU hR.1 (aS.fO hR.2.1);exact jq.b9 hI hB e1 e2 e3;cases ha;cases ht;rename_i t x y ho;simp only[Bool.and_eq_true]at hm;obtain⟨hm,ht⟩:=hm;obtain⟨hR,hc⟩:=hA _ hm;split at ht;rename_i hu;unfold aP at ha;simp only at ha;split at ha;split at ha;rename_i h0;split at ha;rename_i b hb;cases ha;exact jq.b9 hI hB (Xe ho hu h0 hb hR.1 (aS.fO hR.2.1)) (.int _ _) rfl;cases ha;cases ha;cases ha;cases ht;rename_i t x lo hi mx vZ l h m sz ho;simp only[Bool.and_eq_true,beq_iff_eq]at hm;obtain⟨⟨⟨⟨⟨hm,rfl⟩,rfl⟩,rfl⟩,hmh⟩,ht⟩:=hm;obtain⟨hR,hc⟩:=hA _ hm;refine Xw ho (λh=>by rw[h]at hmh;simpa using hmh) ?_ hI hB hR hc ha;split at ht;rename_i he;rw[he];exact ht;rename_i he;rw[he];exact ht;cases ht;rename_i t x hi sz ho;simp only[Bool.and_eq_true]at hm;obtain⟨hm,ht⟩:=hm;obtain⟨hR,hc⟩:=hA _ hm;split at ht;rename_i e hu;have CU:=ha;unfold aP at ha;simp only at ha;split at ha;obtain⟨v,G',e1,e2⟩:=SM ho hu ht hI hB hX hR.1 hR.2.1 CU;exact⟨_,_,_,_,_,e1,.inl rfl,e2,eU.refl _ _⟩;cases ha;cases ht;rename_i t x agg n take ho;simp only[Bool.and_eq_true]at hm;obtain⟨⟨⟨hm,hn⟩,tF⟩,mz⟩:=hm;obtain⟨hR,hc⟩:=hA _ hm;have Og:nG P t=some agg:=by simpa using tF
 have Oh:agg=false->n=1:=λh=>by subst h;simpa using mz
 have CU:=ha;unfold aP at ha;simp only at ha;split at ha;rename_i p;cases take with
 |true=>
  obtain⟨v,e1,e2⟩:=MJ ho hn Og Oh hI hB hX hR.1 CU;exact⟨_,_,_,_,_,e1,.inl rfl,e2,eU.refl _ _⟩
 |false=>
  split at ha;rename_i cs DK;simp only[Bool.false_eq_true,if_false]at ha;split at ha;rename_i v hv;cases ha;obtain⟨b,off,xs,h1,h2,h3,h4⟩:=J4 hI DK hR.1;obtain⟨u,e1,e2,e3⟩:=HW ho hn Og Oh h1 h2 h3.aa h4 hv;exact jq.ni hI hB e1 e2 λd=>by
   simp only[cx,e3 d];rw[dy d _ _ (gf cs)];omega
  cases ha;cases ha
 cases ha;rename_i t x j agg n take ho;simp only[Bool.and_eq_true]at hm;obtain⟨⟨⟨hm,hn⟩,tF⟩,mz⟩:=hm;obtain⟨hR,hc⟩:=hA _ hm;have Og:nG P t=some agg:=by simpa using tF
 have Oh:agg=false->n=1:=λh=>by subst h;simpa using mz
 have CU:=ha;unfold aP at ha;simp only at ha;split at ha;obtain⟨v,e1,e2⟩:=Xr ho hn Og Oh hI hB hX hR.1 CU;exact⟨_,_,_,_,_,e1,.inl rfl,e2,eU.refl _ _⟩;cases ha;rename_i t x y n ho;simp only[Bool.and_eq_true]at hm;obtain⟨hm,hn⟩:=hm;obtain⟨hR,hc⟩:=hA _ hm;have CU:=ha;unfold aP at ha;simp only at ha;split at ha;obtain⟨w',G',e1,e2⟩:=Xp ho hn hI hB hX hR.1 hR.2.1 (λb=>by have:=hc b;simp only[List.map_cons,mm,cx]at this;omega) CU;exact⟨_,_,_,_,_,e1,.inr ⟨rfl,rfl⟩,e2,eU.refl _ _⟩;cases ha;rename_i t x y j n ho;simp only[Bool.and_eq_true]at hm;obtain⟨hm,hn⟩:=hm;obtain⟨hR,hc⟩:=hA _ hm;have CU:=ha;unfold aP at ha;simp only at ha;split at ha;obtain⟨w',G',gw,e1,e2,e3⟩:=SJ ho hn hI hB hX hR.1 hR.2.1 (λb=>by have:=hc b;simp only[List.map_cons,mm]at this;simp only[cx]at this ⊢;omega) CU;exact⟨_,_,_,_,_,e1,.inr ⟨rfl,rfl⟩,e2,e3⟩;cases ha;rename_i t zero ho;simp only[Bool.and_eq_true]at hm;obtain⟨_,hz⟩:=hm;obtain⟨i,z,hi,Sr,oo,J1,N5⟩:=lV hz w G;unfold aP at ha;simp only at ha;split at ha;cases ha;obtain⟨G',Kp⟩:=Qo (t:=t) (cO:=cO) hI hB oo J1 N5;exact⟨_,_,_,_,_,N9 ho hi Sr,.inl rfl,Kp,eU.refl _ _⟩;cases ha;rename_i t j zero ho;simp only[Bool.and_eq_true]at hm;obtain⟨_,hz⟩:=hm;obtain⟨i,z,hi,Sr,oo,J1,N5⟩:=lV hz w G;unfold aP at ha;simp only at ha;split at ha;split at ha;rename_i hj;cases ha;have hb:j<β.length:=by rw[hB.len];exact hj
 refine⟨_,_,_,_,_,N9 ho hi Sr,.inl rfl,N8 (c:=z.cells) (e:=t) (w':=w.alloc (.cells z.cells t)) hI hB rfl rfl rfl hj oo N5 (λb=>by rw[Gi J1];omega),?_⟩;exact eU.set (List.getElem?_eq_getElem hb) λh=>absurd rfl h;cases ha;cases ha;rename_i t x n ho;obtain⟨hR,hc⟩:=hA _ hm;unfold aP at ha;simp only at ha;split at ha;split at ha;rename_i j7;simp only[Bool.and_eq_true,decide_eq_true_eq]at j7;cases ha;obtain⟨G',Kp⟩:=Sw (t:=t) (cO:=cO) hI hB hR.1 j7.1 j7.2 (λb=>by have:=hc b;simp only[List.map_cons,mm,cx]at this;omega);exact⟨_,_,_,_,_,aag ho,.inl rfl,Kp,eU.refl _ _⟩;cases ha;cases ha;rename_i t x j n ho;obtain⟨hR,hc⟩:=hA _ hm;unfold aP at ha;simp only at ha;split at ha;split at ha;rename_i j7;simp only[Bool.and_eq_true,decide_eq_true_eq]at j7;cases ha;have hb:j<β.length:=by rw[hB.len];exact j7.1.1
 obtain⟨Fu,N3⟩:=aS.cells hR.1;refine⟨_,_,_,_,_,aag ho,.inl rfl,N8 (c:=(ρ x).cells) (e:=t) (w':=w.alloc (.cells (ρ x).cells t)) hI hB rfl rfl rfl j7.1.1 Fu j7.2 (λb=>by have:=hc b;simp only[List.map_cons,mm,cx]at this;rw[N3];omega),?_⟩;exact eU.set (List.getElem?_eq_getElem hb) λh=>absurd rfl h;cases ha;cases ha;rename_i t x y sz bytes zero mt ho;simp only[Bool.and_eq_true]at hm;obtain⟨hm,ht⟩:=hm;obtain⟨hR,hc⟩:=hA _ hm;split at ht;rename_i e hu;simp only[Bool.and_eq_true,decide_eq_true_eq]at ht;obtain⟨⟨⟨⟨h1,h2⟩,h3⟩,h4⟩,h5⟩:=ht;unfold aP at ha;simp only at ha;split at ha;rename_i n c;split at ha;rename_i j7;obtain⟨c1,c2,c3,c4⟩:=j7;have hcm:c<=9223372036854775807:=by
  have:c*1<=c*bytes:=Int.mul_le_mul_of_nonneg_left (by omega) (by omega);simp only[dx]at c3;omega
 obtain⟨cells,e1,e2,e3,e4⟩:=J8 (w:=w) (G:=G) ho hu h1 h2 h3 h4 c4 (aS.fO hR.1) (aS.fO hR.2.1) c1 c2 c3 hcm;obtain⟨_,_,_,_,_,J1,N5⟩:=lV h3 w G;have hle:n.toNat*sz<=c.toNat*sz:=Nat.mul_le_mul_right _ (by omega);have cI:bV sz (List.replicate n.toNat zero)=true:=cq.2 λr hr=>by rw[List.eq_of_mem_replicate hr,c4]
 have iV:∀r∈List.replicate n.toNat zero,AV.aO r=true:=λr hr=>by rw[List.eq_of_mem_replicate hr];exact N5
 have hx:∀(k:Nat) x,(cells.toList.take (n.toNat*sz))[k]?=some x->cells[k]?=some x:=λk x hk=>by
  rw[List.getElem?_take]at hk;split at hk;simpa using hk;cases hk
 split at ha;cases ha;by_cases Wv:c.toNat=0;have FC:n.toNat=0:=by omega
 rw[FC,Wv]at e1;rw[FC];have hA0:jo w G β st bx cO (w.alloc (.cells cells e)) (G.new w.heap.size (some 0) [⟨some ⟨w.heap.size,0,none⟩,0,0,sz,0,false,[]⟩]) β (st++[.rows 0 sz []]) bx (.val (.mu st.length 0)) (.slice (some ⟨w.heap.size,0,none⟩) 0 0):=by
  have hl:(G.new w.heap.size (some 0) [⟨some ⟨w.heap.size,0,none⟩,0,0,sz,0,false,[]⟩]).ls[st.length]?=some ⟨some ⟨w.heap.size,0,none⟩,0,0,sz,0,false,[]⟩:=by
   simp only[aQ.new];rw[List.getElem?_append_right (by rw[hI.len];exact Nat.le_refl _),hI.len];simp
  exact sN (w':=w.alloc (.cells cells e)) (ao:=.rows 0 sz []) (ob:=.cells cells e) rfl rfl rfl hI hB ⟨rfl,rfl,by simp[bV],by simp,rfl,rfl,rfl,λi r xs h=>by simp at h,.inl ⟨rfl,rfl,rfl⟩⟩ (.mu _ _ _ _ ⟨_,_,_,rfl⟩ hl (Nat.le_refl _) λ_=>rfl) rfl λb=>by simp[iJ,lB.jK,fL]
 exact⟨_,_,_,_,_,e1,.inl rfl,hA0,eU.refl _ _⟩;obtain⟨G',Kp,_⟩:=wm (sz:=sz) (cap:=c.toNat) (rows:=List.replicate n.toNat zero) (c:=cells) (e:=e) (xs:=cells.toList.take (n.toNat*sz)) (w':=w.alloc (.cells cells e)) (cO:=cO) hI hB rfl rfl rfl cI iV e3 (by omega) (by omega) (by simp;omega) hx (λb=>by rw[e4];omega);rw[List.length_replicate]at Kp;exact⟨_,_,_,_,_,e1,.inl rfl,Kp,eU.refl _ _⟩;split at ha;rename_i hpz;cases ha;obtain⟨G',Kp⟩:=HY (sz:=sz) (cap:=c.toNat) (rows:=List.replicate n.toNat zero) (c:=cells) (e:=e) (xs:=cells.toList.take (n.toNat*sz)) (w':=w.alloc (.cells cells e)) (cO:=cO) hI hB rfl rfl rfl cI iV
  (λr hr=>by rw[List.eq_of_mem_replicate hr];exact(cA zero).2 λc hc=>(J1 c hc).1) (λr hr=>by rw[List.eq_of_mem_replicate hr];exact hpz) e3 (by omega) (by simp;omega) hx
 rw[List.length_replicate]at Kp;exact⟨_,_,_,_,_,e1,.inl rfl,Kp,eU.refl _ _⟩;cases ha;cases ha;cases ha;cases ht;rename_i t ho;unfold aP at ha;simp only at ha;split at ha;cases ha;obtain⟨G',Kp⟩:=Xk (cO:=cO) hI hB;exact⟨_,_,_,_,_,by simp only[execOp,ho,Option.map_none,Sem.run_bind,show (Instr.makeMap t none).run P w=.ok (.map (some w.heap.size)) (w.alloc (.map #[] 0)) from rfl,Result.andThen_ok,Sem.run_pure],.inl rfl,Kp,eU.refl _ _⟩;cases ha;rename_i t m k x kk ho;simp only[Bool.and_eq_true]at hm;obtain⟨hm,ht⟩:=hm;obtain⟨hR,hc⟩:=hA _ hm;split at ht;rename_i kt et hu;have CU:=ha;unfold aP at ha;simp only at ha;split at ha;obtain⟨w',G',e1,e2⟩:=BX (.inl ho) hu ht hI hB hX hR.1 hR.2.1 hR.2.2.1 CU;exact⟨_,_,_,_,_,e1,.inr ⟨rfl,rfl⟩,e2,eU.refl _ _⟩;cases ha;cases ht;rename_i t m k x kk ho;simp only[Bool.and_eq_true]at hm;obtain⟨hm,ht⟩:=hm;obtain⟨hR,hc⟩:=hA _ hm;split at ht;rename_i kt et hu;have CU:=ha;unfold aP at ha;simp only at ha;split at ha;obtain⟨w',G',e1,e2⟩:=BX (.inr ho) hu ht hI hB hX hR.1 hR.2.1 hR.2.2.1 CU;exact⟨_,_,_,_,_,e1,.inr ⟨rfl,rfl⟩,e2,eU.refl _ _⟩;cases ha;cases ht;rename_i t m k ok kk zero ok' ho;simp only[Bool.and_eq_true,beq_iff_eq]at hm;obtain⟨⟨rfl,hm⟩,ht⟩:=hm;obtain⟨hR,hc⟩:=hA _ hm;split at ht;rename_i kt et hu;simp only[Bool.and_eq_true]at ht;obtain⟨ht,hz⟩:=ht;split at hz;rename_i ie hie;split at hz;rename_i z hzz;unfold aP at ha;simp only at ha;split at ha;rename_i am ak;split at ha;cases ha;rename_i es mO;split at ha;split at ha;cases ha;rename_i res hf;cases ha;have Qx:(am=.fU/\es=[])\/∃id,am=.map id/\st[id]?=some (.map es):=by
  split at mO;cases mO;exact .inl ⟨rfl,rfl⟩;rename_i id;split at mO;rename_i gi;cases mO;exact .inr ⟨id,rfl,gi⟩;cases mO;cases mO
 obtain⟨u,e1,e2,e3⟩:=Ss ho hu ht hie hzz hz hI Qx hf hR.1 hR.2.1;refine jq.b9 hI hB e1 e2 ?_;cases ok;exact e3;simp[AV.b9,AV.dN,e3];cases ha;cases ha;cases hz;cases hz;cases ht;rename_i f first lC f' n ho
 simp only[Bool.and_eq_true,beq_iff_eq,decide_eq_true_eq]at hm;obtain⟨⟨⟨rfl,hm⟩,rfl⟩,hf⟩:=hm;obtain⟨hR,hc⟩:=hA _ hm;unfold aP at ha;simp only at ha;split at ha;rename_i vs Fs;cases ha;obtain⟨hv,Fu⟩:=hR.Qw Fs;obtain⟨e1,e2⟩:=Mw (P:=P) hf ho hv;exact jq.b9 hI hB e1 e2 rfl;cases ha;rename_i c k ho;simp only[Bool.and_eq_true,beq_iff_eq]at hm;obtain⟨⟨hm,eI⟩,ht⟩:=hm;obtain⟨hR,hc⟩:=hA _ hm;obtain⟨x,hx⟩:∃x,c.args.toList=[x]:=List.length_eq_one_iff.1 (by simpa using eI);rw[hx]at hR hc;split at ht;rename_i t uQ hty;unfold aP at ha;simp only at ha;split at ha;split at ha;rename_i n hn;cases ha;refine jq.b9 hI hB (afO ho uQ hx hty (k:=k) ?_ hI hn hR.1) (.int _ _) rfl;split at ht
 assumption
 exact⟨_,by assumption⟩;exact⟨_,_,by assumption⟩;cases ht;cases ha;cases ha;cases ht;rename_i c mx ho;simp only[Bool.and_eq_true,beq_iff_eq]at hm;obtain⟨⟨hm,eI⟩,ht⟩:=hm;obtain⟨hR,hc⟩:=hA _ hm;obtain⟨x,y,hx⟩:∃x y,c.args.toList=[x,y]:=DR (by simpa using eI);rw[hx]at hR hc;unfold aP at ha;simp only at ha;split at ha;split at ha;rename_i hk;subst hk;cases ha;split at ht;rename_i uQ;rw[if_pos ht];exact jq.b9 hI hB (afP ho uQ hx hR.1 hR.2.1) (.int _ _) rfl;rename_i uQ;rw[if_neg (by simpa using ht)];exact jq.b9 hI hB (afQ ho uQ hx hR.1 hR.2.1) (.int _ _) rfl;cases ht;cases ha;cases ha;rename_i c sz bytes ho;simp only[Bool.and_eq_true,beq_iff_eq]at hm;obtain⟨⟨⟨hm,eI⟩,MN⟩,ht⟩:=hm;obtain⟨hR,hc⟩:=hA _ hm;obtain⟨x,y,hx⟩:∃x y,c.args.toList=[x,y]:=DR (by simpa using eI);rw[hx]at hR hc;split at ht;rename_i t u uQ ht0 Oi;simp only[Bool.and_eq_true]at ht;obtain⟨xy,AY⟩:=ht;split at xy;rename_i e hu;simp only[Bool.and_eq_true,decide_eq_true_eq]at xy;obtain⟨⟨⟨⟨h1,h2⟩,h3⟩,h4⟩,h5⟩:=xy;split at h5;rename_i i hi;split at h5;rename_i z hz;simp only[beq_iff_eq]at h5;have hT:MB P t u e sz bytes i z:=by
  refine⟨hu,hi,hz,?_,?_,h5,h3,h4,?_⟩;obtain⟨i',qK,Ft,_⟩:=lG h1;rw[hi]at qK;cases qK;exact Ft;simpa [o4,hi] using h2;split at AY;exact .inl ⟨_,by assumption⟩;exact .inr (by assumption);cases AY
 have CU:=ha;unfold aP at ha;simp only at ha;split at ha;obtain⟨v,w',G',e1,e2⟩:=SB (ty:=o.type) hT hI hB hX hR.1 hR.2.1 (λb=>by have:=hc b;simp only[List.map_cons,mm,cx]at this;omega) CU;refine⟨_,_,_,_,_,?_,.inl rfl,e2,eU.refl _ _⟩;simp only[execOp,ho,resolve,uQ,Sem.run_bind,Sem.run_pure,Result.andThen_ok,invoke,builtin,oH hx,xx MN ht0 Oi];simp[e1];cases ha;cases h5;cases h5;cases xy;cases ht;rename_i c sz bytes ho;simp only[Bool.and_eq_true,beq_iff_eq]at hm;obtain⟨⟨⟨hm,eI⟩,MN⟩,ht⟩:=hm;obtain⟨hR,hc⟩:=hA _ hm;obtain⟨x,y,hx⟩:∃x y,c.args.toList=[x,y]:=DR (by simpa using eI);rw[hx]at hR hc;split at ht;rename_i t u uQ ht0 Oi;simp only[Bool.and_eq_true]at ht;obtain⟨xy,AY⟩:=ht;split at xy;rename_i e hu;simp only[Bool.and_eq_true,decide_eq_true_eq]at xy;obtain⟨⟨⟨⟨h1,h2⟩,h3⟩,h4⟩,h5⟩:=xy;split at h5;rename_i i hi;split at h5;rename_i z hz;simp only[beq_iff_eq]at h5;have hT:MB P t u e sz bytes i z:=by
  refine⟨hu,hi,hz,?_,?_,h5,h3,h4,?_⟩;obtain⟨i',qK,Ft,_⟩:=lG h1;rw[hi]at qK;cases qK;exact Ft;simpa [o4,hi] using h2;split at AY;exact .inl ⟨_,by assumption⟩;exact .inr (by assumption);cases AY
 have CU:=ha;unfold aP at ha;simp only at ha;split at ha;obtain⟨v,w',G',e1,e2⟩:=Qs (ty:=o.type) hT hI hB hX hR.1 hR.2.1 CU;refine⟨_,_,_,_,_,?_,.inl rfl,e2,eU.refl _ _⟩;simp only[execOp,ho,resolve,uQ,Sem.run_bind,Sem.run_pure,Result.andThen_ok,invoke,builtin,oH hx,xx MN ht0 Oi];simp[e1];cases ha;cases h5;cases h5;cases xy;cases ht;rename_i c sz ho;simp only[Bool.and_eq_true,beq_iff_eq]at hm;obtain⟨⟨⟨hm,eI⟩,MN⟩,ht⟩:=hm;obtain⟨hR,hc⟩:=hA _ hm;obtain⟨x,y,hx⟩:∃x y,c.args.toList=[x,y]:=DR (by simpa using eI);rw[hx]at hR hc;split at ht;rename_i t u uQ ht0 Oi;simp only[Bool.and_eq_true]at ht;obtain⟨xy,AY⟩:=ht;split at xy;rename_i e hu;have hk:(∃e',P.underlying u=some (.slice e'))\/P.underlying u=some .string:=by
  split at AY;exact .inl ⟨_,by assumption⟩;exact .inr (by assumption);cases AY
 have CU:=ha;unfold aP at ha;simp only at ha;split at ha;obtain⟨v,w',G',e1,e2⟩:=aby (ty:=o.type) hu xy hk hI hB hX hR.1 hR.2.1 CU;refine⟨_,_,_,_,_,?_,.inl rfl,e2,eU.refl _ _⟩;simp only[execOp,ho,resolve,uQ,Sem.run_bind,Sem.run_pure,Result.andThen_ok,invoke,builtin,oH hx,xx MN ht0 Oi];simp[e1];cases ha;cases xy;cases ht;rename_i s d x ho;simp only[Bool.and_eq_true]at hm;obtain⟨hm,ht⟩:=hm;obtain⟨hR,hc⟩:=hA _ hm;split at ht;rename_i e h1 h2;split at ht;rename_i h3;unfold aP at ha;simp only at ha;split at ha;split at ha;rename_i rows zB;split at ha;rename_i l hl;cases ha;obtain⟨u,e1,e2⟩:=Xs ho h1 h3 h2 hI hR.1 zB hl;exact jq.b9 hI hB e1 e2 rfl;cases ha;cases ha;cases ha;cases ht;cases ht;unfold aP at ha;cases ha;unfold aP at ha;cases ha;rename_i t x y sz bytes zero ho;simp only[Bool.and_eq_true]at hm;obtain⟨hm,ht⟩:=hm;obtain⟨hR,hc⟩:=hA _ hm;split at ht;rename_i e hu;simp only[Bool.and_eq_true,decide_eq_true_eq]at ht;obtain⟨⟨⟨⟨h1,h2⟩,h3⟩,h4⟩,h5⟩:=ht;unfold aP at ha;simp only at ha;split at ha;rename_i n c;split at ha;rename_i j7;obtain⟨c1,c2,c3,c4,hpz⟩:=j7;have hcm:c<=9223372036854775807:=by
  have:c*1<=c*bytes:=Int.mul_le_mul_of_nonneg_left (by omega) (by omega);simp only[dx]at c3;omega
 obtain⟨cells,e1,e2,e3,e4⟩:=J8 (w:=w) (G:=G) ho hu h1 h2 h3 h4 c4 (aS.fO hR.1) (aS.fO hR.2.1) c1 c2 c3 hcm;obtain⟨_,_,_,_,_,J1,N5⟩:=lV h3 w G;have hle:n.toNat*sz<=c.toNat*sz:=Nat.mul_le_mul_right _ (by omega);have cI:bV sz (List.replicate n.toNat zero)=true:=cq.2 λr hr=>by rw[List.eq_of_mem_replicate hr,c4]
 have iV:∀r∈List.replicate n.toNat zero,AV.aO r=true:=λr hr=>by rw[List.eq_of_mem_replicate hr];exact N5
 have hx:∀(k:Nat) x,(cells.toList.take (n.toNat*sz))[k]?=some x->cells[k]?=some x:=λk x hk=>by
  rw[List.getElem?_take]at hk;split at hk;simpa using hk;cases hk
 cases ha;obtain⟨G',Kp⟩:=Xh (sz:=sz) (cap:=c.toNat) (rows:=List.replicate n.toNat zero) (c:=cells) (e:=e) (xs:=cells.toList.take (n.toNat*sz)) (w':=w.alloc (.cells cells e)) (cO:=cO) hI hB rfl rfl rfl cI iV
  (λr hr=>by rw[List.eq_of_mem_replicate hr];exact(cA zero).2 λc hc=>(J1 c hc).1) (λr hr=>by rw[List.eq_of_mem_replicate hr];exact hpz) e3 (by omega) (by simp;omega) hx
 rw[List.length_replicate]at Kp;exact⟨_,_,_,_,_,e1,.inl rfl,Kp,eU.refl _ _⟩;cases ha;cases ha;cases ht;rename_i c sz bytes zero ho;simp only[Bool.and_eq_true,beq_iff_eq]at hm;obtain⟨⟨⟨hm,eI⟩,MN⟩,ht⟩:=hm;obtain⟨hR,hc⟩:=hA _ hm;obtain⟨x,y,hx⟩:∃x y,c.args.toList=[x,y]:=DR (by simpa using eI);rw[hx]at hR hc;split at ht;rename_i t u uQ ht0 Oi;simp only[Bool.and_eq_true]at ht;obtain⟨xy,AY⟩:=ht;split at xy;rename_i e hu;simp only[Bool.and_eq_true,decide_eq_true_eq]at xy;obtain⟨⟨⟨⟨h1,h2⟩,h3⟩,h4⟩,h5⟩:=xy;have hk:∃k,P.underlying u=some (.int k):=by
  split at AY;exact⟨_,by assumption⟩;cases AY
 have CU:=ha;unfold aP at ha;simp only at ha;split at ha;obtain⟨v,w',G',e1,e2⟩:=Qt (ty:=o.type) hu hk h1 h2 h3 h4 h5 hI hB hX hR.1 hR.2.1 CU;refine⟨_,_,_,_,_,?_,.inl rfl,e2,eU.refl _ _⟩;simp only[execOp,ho,resolve,uQ,Sem.run_bind,Sem.run_pure,Result.andThen_ok,invoke,builtin,oH hx,xx MN ht0 Oi];simp[e1];cases ha;cases xy;cases ht;rename_i c ho;simp only[Bool.and_eq_true,beq_iff_eq]at hm;obtain⟨⟨hm,eI⟩,ht⟩:=hm;obtain⟨hR,hc⟩:=hA _ hm;obtain⟨x,hx⟩:∃x,c.args.toList=[x]:=List.length_eq_one_iff.1 (by simpa using eI);rw[hx]at hR hc;split at ht;rename_i t uQ hty;split at ht;rename_i e hu;unfold aP at ha;simp only at ha;split at ha;cases ha;refine jq.b9 hI hB ?_ (.int _ _) rfl;have e1:∃n,ρ x=.slice none n 0:=by
  have h1:aS w G .U (ρ x):=hR.1;generalize ρ x=v at h1;cases h1;exact⟨_,rfl⟩
 obtain⟨n,e1⟩:=e1;simp[execOp,ho,resolve,uQ,invoke,builtin,Mt hx,Builtin.cap_,hty,run_underlying hu,e1,goInt];cases ha;cases ht;cases ht;have h0:so.args=[]:=by simpa using hm
 have hv:=(hA [] (by rw[h0];rfl)).1;cases vals with
 |nil=>unfold aP at ha;simp at ha|cons a l=>simp[kX]at hv
 cases hm
end Ax
namespace Ax
open Go
variable {P:Program}{w w':World}{G G':aQ}{β gw:List mS}
theorem wA(d:Nat)(e:eO)(t:Nat):∀env:pU,cK (vN env d e) t=if t=d then e else cK env t
 |[]=>by
  simp only[vN,cK];by_cases h:d=t;rw[if_pos h,if_pos h.symm];rw[if_neg h,if_neg (show ¬t=d from λe=>h e.symm)]
 |(k,x)::r=>by
  have ih:=wA d e t r;unfold vN;split;simp only[cK];by_cases h:d=t;rw[if_pos h,if_pos h.symm];rw[if_neg h,if_neg (show ¬t=d from λe=>h e.symm)];split;rename_i hk;subst hk;simp only[cK];by_cases h:d=t;rw[if_pos h,if_pos h.symm];rw[if_neg h,if_neg (show ¬t=d from λe=>h e.symm),if_neg h];simp only[cK,ih];by_cases h:k=t;rw[if_pos h,if_pos h,if_neg (by omega)];rw[if_neg h,if_neg h]
theorem DS(d t:Nat):∀env:pU,cK (Co env d) t=if t=d then .none else cK env t
 |[]=>by simp[Co,cK]|(k,x)::r=>by
  have ih:=DS d t r;unfold Co;split;rename_i h;rw[ih];simp only[cK];by_cases h2:t=d;rw[if_pos h2,if_pos h2];rw[if_neg h2,if_neg h2,if_neg (by omega)];simp only[cK,ih];by_cases h2:t=d;rw[if_pos h2,if_pos h2];rw[if_neg (by omega)];rw[if_neg h2,if_neg h2]
def qw:List Src->List Nat
 |[]=>[]
 |.tmp t true::r=>t::qw r|_::r=>qw r
theorem uc(t:Nat):∀(ss:List Src)(env:pU),cK (ss.foldl mE env) t=if t∈qw ss then .none else cK env t
 |[],env=>by simp[qw]|.tmp u true::r,env=>by
  simp only[List.foldl_cons,mE,qw,uc t r,DS,List.mem_cons];by_cases h1:t∈qw r;simp[h1];by_cases h2:t=u;simp[h2];simp[h1,h2]
 |.tmp u false::r,env=>by rw[List.foldl_cons,uc t r];rfl|.const a::r,env=>by rw[List.foldl_cons,uc t r];rfl
theorem uR(t:Nat):∀(l:List Nat)(env:pU),cK (iU l env) t=if t∈l then .none else cK env t
 |[],env=>by simp[iU]|u::l,env=>by
  simp only[iU,uR t l,DS,List.mem_cons];by_cases h1:t∈l;simp[h1];by_cases h2:t=u;simp[h2];simp[h1,h2]
theorem Gq(t:Nat):∀(k:Nat)(l:List AV),cK (Gc k l) t=if k<=t then (match l[t-k]? with|some v=>.val v|none=>.none) else .none
 |k,[]=>by simp[Gc,cK]|k,v::r=>by
  simp only[Gc,cK,Gq t (k+1) r];by_cases h:k=t;subst h;simp;rw[if_neg h];by_cases h2:k<=t;rw[if_pos h2,if_pos (by omega),show t-k=(t-(k+1))+1 by omega];simp;rw[if_neg h2,if_neg (by omega)]
theorem DT{j:Nat}:∀{env:pU},pX j env=true->∀t,(cK env t).pB j=true
 |[],_,_=>rfl|(k,x)::r,h,t=>by
  simp only[pX,List.all_cons,Bool.and_eq_true]at h;simp only[cK];split;exact h.1;exact DT (env:=r) (by simpa [pX] using h.2) t
def gq(f:Nat->Nat):Nat->Nat
 |0=>0|n+1=>gq f n+f n
theorem oI{f g:Nat->Nat}:∀{n:Nat},(∀t,t<n->f t=g t)->gq f n=gq g n
 |0,_=>rfl|n+1,h=>by simp only[gq];rw[oI λt ht=>h t (by omega),h n (by omega)]
theorem CW{f g:Nat->Nat}:∀{n:Nat},(∀t,t<n->f t<=g t)->gq f n<=gq g n
 |0,_=>Nat.le_refl _|n+1,h=>by
  simp only[gq];have h1:=CW (f:=f) (g:=g) (n:=n) λt ht=>h t (by omega);have h2:=h n (by omega);omega
theorem ud{f g:Nat->Nat}{d:Nat}:∀{n:Nat},d<n->(∀t,t≠d->f t=g t)->gq f n+g d=gq g n+f d
 |0,h,_=>by omega|n+1,h,he=>by
  simp only[gq];by_cases hd:d=n;subst hd;rw[oI (f:=f) (g:=g) λt ht=>he t (by omega)];omega;have:=ud (f:=f) (g:=g) (n:=n) (d:=d) (by omega) he;rw[he n λe=>hd e.symm];omega
theorem wB{f:Nat->Nat}{t n:Nat}(h:t<n):f t<=gq f n:=by
 have:=ud (f:=λu=>if u=t then 0 else f u) (g:=f) (d:=t) h λu hu=>if_neg hu;simp only[if_true]at this;omega
theorem Gr{n:Nat}:gq (λ_=>0) n=0:=by
 induction n with
 |zero=>rfl|succ n ih=>simp[gq,ih]
def p7(f:Nat->Nat):List Nat->Nat
 |[]=>0|t::l=>f t+p7 f l
theorem zE{f:Nat->Nat}{n:Nat}(hf:∀t,n<=t->f t=0):∀(l:List Nat),l.Nodup->p7 f l+gq (λt=>if t∈l then 0 else f t) n<=gq f n
 |[],_=>by simp[p7]|t::l,h=>by
  have ih:=zE hf l (List.nodup_cons.1 h).2;have hn:=(List.nodup_cons.1 h).1;simp only[p7];by_cases ht:t<n;have:=ud (f:=λu=>if u∈t::l then 0 else f u) (g:=λu=>if u∈l then 0 else f u) (d:=t) ht λu hu=>by simp[hu]
  simp only[List.mem_cons,true_or,if_true,if_neg hn]at this;simp only[List.mem_cons];omega;rw[hf t (by omega)];rw[oI (f:=λu=>if u∈t::l then 0 else f u) (g:=λu=>if u∈l then 0 else f u) λu hu=>by simp[show u≠t by omega]];omega
mutual
def AV.under(n:Nat):AV->Bool
 |.mu i _|.ptr i _ _ _|.map i=>decide (i<n)|.agg cs|.fF cs=>AV.oJ n cs|.fn _ a b=>AV.oJ n a&&AV.oJ n b|_=>true
def AV.oJ(n:Nat):List AV->Bool
 |[]=>true|v::r=>v.under n&&AV.oJ n r
end
theorem gx(n:Nat):∀cs:List AV,AV.oJ n cs=true↔∀c∈cs,c.under n=true
 |[]=>by simp[AV.oJ]|c::cs=>by simp[AV.oJ,gx n cs]
mutual
theorem iW(n:Nat):∀a:AV,a.au=true->a.under n=true
 |.mu _ _,h=>by simp[AV.au]at h|.ptr _ _ _ _,h=>by simp[AV.au]at h|.map _,h=>by simp[AV.au]at h|.agg cs,h=>by simp only[AV.au,AV.under]at *;exact pG n cs h|.fF cs,h=>by simp only[AV.au,AV.under]at *;exact pG n cs h|.fn _ a b,h=>by simp only[AV.au,AV.under,Bool.and_eq_true]at *;exact⟨pG n a h.1,pG n b h.2⟩|.undef,_|.gone,_|.bool _,_|.int _ _,_|.str _,_|.cY,_|.U,_|.fU,_|.jb,_|.kC,_|.dc _ _,_|.lA _ _,_|.raw _ _,_|.lU,_|.qm _ _ _ _,_=>by simp[AV.under]
theorem pG(n:Nat):∀cs:List AV,AV.af cs=true->AV.oJ n cs=true
 |[],_=>rfl|c::cs,h=>by
  simp only[AV.af,Bool.and_eq_true]at h;simp only[AV.oJ,iW n c h.1,pG n cs h.2,Bool.and_self]
end
mutual
theorem MO{m n:Nat}(hmn:m<=n):∀a:AV,a.under m=true->a.under n=true
 |.mu _ _,h|.ptr _ _ _ _,h|.map _,h=>by simp only[AV.under,decide_eq_true_eq]at *;omega|.agg cs,h=>by simp only[AV.under]at *;exact pH hmn cs h|.fF cs,h=>by simp only[AV.under]at *;exact pH hmn cs h|.fn _ a b,h=>by simp only[AV.under,Bool.and_eq_true]at *;exact⟨pH hmn a h.1,pH hmn b h.2⟩|.undef,_|.gone,_|.bool _,_|.int _ _,_|.str _,_|.cY,_|.U,_|.fU,_|.jb,_|.kC,_|.dc _ _,_|.lA _ _,_|.raw _ _,_|.lU,_|.qm _ _ _ _,_=>by simp[AV.under]
theorem pH{m n:Nat}(hmn:m<=n):∀cs:List AV,AV.oJ m cs=true->AV.oJ n cs=true
 |[],_=>rfl|c::cs,h=>by
  simp only[AV.oJ,Bool.and_eq_true]at *;exact⟨MO hmn c h.1,pH hmn cs h.2⟩
end
theorem aS.zF{a:AV}{v:Value}(h:aS w G a v):a.under G.ls.length=true:=by
 induction h with
 |agg cs vs hl h ih=>
  simp only[AV.under];refine(gx _ cs).2 λc hc=>?_;obtain⟨i,hi,rfl⟩:=List.mem_iff_getElem.1 hc;have qK:i<vs.size:=by omega
  exact ih i cs[i] vs[i] (List.getElem?_eq_getElem hi) (by simp[qK])
 |fF cs vs hl h ih=>
  simp only[AV.under];refine(gx _ cs).2 λc hc=>?_;obtain⟨i,hi,rfl⟩:=List.mem_iff_getElem.1 hc;have qK:i<vs.size:=by omega
  exact ih i cs[i] vs[i] (List.getElem?_eq_getElem hi) (by simp[qK])
 |mu id b6 v loc hp hl hv he=>simpa [AV.under] using (List.getElem?_eq_some_iff.1 hl).1|ptr id b6 i k v loc hp hl hv he=>simpa [AV.under] using (List.getElem?_eq_some_iff.1 hl).1|map id loc b hl hm hb=>simpa [AV.under] using (List.getElem?_eq_some_iff.1 hl).1|fn f first lC vf vc hl hm hn h k ih ik=>
  simp only[AV.under,Bool.and_eq_true];refine⟨(gx _ first).2 λc hc=>?_,(gx _ lC).2 λc hc=>?_⟩;obtain⟨i,hi,rfl⟩:=List.mem_iff_getElem.1 hc;have qK:i<vf.size:=by omega
  exact ih i first[i] vf[i] (List.getElem?_eq_getElem hi) (by simp[qK])
  obtain⟨i,hi,rfl⟩:=List.mem_iff_getElem.1 hc;have qK:i<vc.size:=by omega
  exact ik i lC[i] vc[i] (List.getElem?_eq_getElem hi) (by simp[qK])
 |_=>simp[AV.under]
def aQ.cut(G:aQ)(n:Nat):aQ:=⟨G.ls.take n,G.mj⟩
theorem CX{n i:Nat}{loc:lB}(h:G.ls[i]?=some loc)(hi:i<n):(G.cut n).ls[i]?=some loc:=by
 simp only[aQ.cut];rw[List.getElem?_take,if_pos hi];exact h
theorem aS.DU{n:Nat}{a:AV}{v:Value}(h:aS w G a v):a.under n=true->aS w (G.cut n) a v:=by
 induction h with
 |undef=>exact λ_=>.undef|gone v h=>exact λ_=>.gone v h|bool b=>exact λ_=>.bool b|int k n=>exact λ_=>.int k n|str l s h=>exact λ_=>.str l s h|cY=>exact λ_=>.cY|U=>exact λ_=>.U|fU=>exact λ_=>.fU|jb=>exact λ_=>.jb|kC=>exact λ_=>.kC|agg cs vs hl h ih=>exact λhb=>.agg cs vs hl λi c v h1 h2=>ih i c v h1 h2 ((gx n cs).1 (by simpa [AV.under] using hb) c (cQ h1))|fF cs vs hl h ih=>exact λhb=>.fF cs vs hl λi c v h1 h2=>ih i c v h1 h2 ((gx n cs).1 (by simpa [AV.under] using hb) c (cQ h1))|dc sz rows a cap oF fI cI iz pC w9 hc hr ih=>
  exact λ_=>.dc sz rows a cap oF fI cI iz pC w9 hc λi r j c v h1 h2 h3=>ih i r j c v h1 h2 h3 (iW n c ((gh r).1 (pC r (cQ h1)) c (cQ h2)))
 |lA sz rows a cap oF fI cI iz pC w9 hc hr iC fD ih=>
  exact λ_=>.lA sz rows a cap oF fI cI iz pC w9 hc (λi r j c v h1 h2 h3=>ih i r j c v h1 h2 h3 (iW n c ((gh r).1 (pC r (cQ h1)) c (cQ h2)))) iC fD
 |raw sz rows a cap oF fI cI iz pC w9 hc hr iC fD ih=>
  exact λ_=>.raw sz rows a cap oF fI cI iz pC w9 hc (λi r j c v h1 h2 h3=>ih i r j c v h1 h2 h3 (iW n c ((gh r).1 (pC r (cQ h1)) c (cQ h2)))) iC fD
 |lU a=>exact λ_=>.lU a|mu id b6 v loc hp hl hv he=>exact λhb=>.mu id b6 v loc hp (CX hl (by simpa [AV.under] using hb)) hv he|ptr id b6 i k v loc hp hl hv he=>exact λhb=>.ptr id b6 i k v loc hp (CX hl (by simpa [AV.under] using hb)) hv he|qm sz rows i k a cap hs ih=>exact λ_=>.qm sz rows i k a cap (ih (by simp[AV.under]))|map id loc b hl hm hb=>exact λnD=>.map id loc b (CX hl (by simpa [AV.under] using nD)) hm hb|fn f first lC vf vc hl hm hn h k ih ik=>
  intro hb;simp only[AV.under,Bool.and_eq_true]at hb;exact .fn f first lC vf vc hl hm hn (λi c v h1 h2=>ih i c v h1 h2 ((gx n first).1 hb.1 c (cQ h1))) λi c v h1 h2=>ik i c v h1 h2 ((gx n lC).1 hb.2 c (cQ h1))
def fq.under(n:Nat):fq->Bool
 |.rows _ _ rs=>rs.all (AV.oJ n)|.map es=>es.all λe=>e.1.under n&&e.2.under n
theorem p6.DU{n:Nat}{ob:fq}{loc:lB}(h:p6 w G ob loc)(hb:ob.under n=true):p6 w (G.cut n) ob loc:=by
 cases ob with
 |rows b6 sz rows=>
  obtain⟨h1,h2,h3⟩:=h;simp only[fq.under,List.all_eq_true]at hb;refine⟨h1,h2,h3.Gg,h3.CO,h3.len,h3.size,h3.tE,λi r xs e1 e2=>?_,h3.p0⟩;obtain⟨a1,a2⟩:=h3.tX i r xs e1 e2;exact⟨a1,λj c v g1 g2=>(a2 j c v g1 g2).DU ((gx n r).1 (hb r (cQ e1)) c (cQ g1))⟩
 |map es=>
  obtain⟨h1,h2,b,r7,clock,h3,h4,h5,h6,h7⟩:=h;simp only[fq.under,List.all_eq_true,Bool.and_eq_true]at hb;refine⟨h1,h2,b,r7,clock,h3,h4,h5,h6,λi k v e e1 e2=>?_⟩;obtain⟨g1,g2,g3,g4⟩:=h7 i k v e e1 e2;have:=hb (k,v) (cQ e1);exact⟨g1.DU this.1,g2.DU this.2,g3,g4⟩
theorem p6.zF{ob:fq}{loc:lB}(h:p6 w G ob loc):ob.under G.ls.length=true:=by
 cases ob with
 |rows b6 sz rows=>
  obtain⟨h1,h2,h3⟩:=h;simp only[fq.under,List.all_eq_true];intro r hr;obtain⟨i,hi,rfl⟩:=List.mem_iff_getElem.1 hr;have qK:i<loc.vals.length:=by rw[h3.tE];exact hi
  obtain⟨a1,a2⟩:=h3.tX i rows[i] loc.vals[i] (List.getElem?_eq_getElem hi) (List.getElem?_eq_getElem qK);refine(gx _ _).2 λc hc=>?_;obtain⟨j,hj,rfl⟩:=List.mem_iff_getElem.1 hc;have hj':j<loc.vals[i].length:=by omega
  exact(a2 j _ _ (List.getElem?_eq_getElem hj) (List.getElem?_eq_getElem hj')).zF
 |map es=>
  obtain⟨h1,h2,b,r7,clock,h3,h4,h5,h6,h7⟩:=h;simp only[fq.under,List.all_eq_true,Bool.and_eq_true];intro x hx;obtain⟨i,hi,rfl⟩:=List.mem_iff_getElem.1 hx;have qK:i<r7.size:=by omega
  obtain⟨g1,g2,_,_⟩:=h7 i es[i].1 es[i].2 r7[i] (List.getElem?_eq_getElem hi) (by simp[qK]);exact⟨g1.zF,g2.zF⟩
def Gs(l:Nat)(st:ai):Prop:=∀(id:Nat) ob,id<l->st[id]?=some ob->ob.under l=true
theorem jn.agc{st:ai}(h:jn w G st):Gs st.length st:=by
 intro id ob _ hob;obtain⟨loc,hl,hr⟩:=h.loc hob;rw[<-h.len];exact hr.zF
theorem jn.DU{st:ai}{n:Nat}(h:jn w G st)(hl:Gs n st):jn w (G.cut n) (st.take n) where
 len:=by simp[aQ.cut,h.len]
 bC:=λid ob loc h1 h2=>by
  simp only[aQ.cut]at h2;rw[List.getElem?_take]at h1 h2;split at h1;rename_i JP;rw[if_pos JP]at h2;exact(h.bC id ob loc h1 h2).DU (hl id ob JP h1);cases h1
 mT:=h.mT
theorem Xx{n:Nat}(h:sK w G w' G')(hn:G.ls.length<=n):sK w G w' (G'.cut n) where
 Sj:=h.Sj
 gX:=λid loc hl=>by
  obtain⟨loc',a1,a2,a3⟩:=h.gX id loc hl;exact⟨loc',CX a1 (by have:=(List.getElem?_eq_some_iff.1 hl).1;omega),a2,a3⟩
theorem Gt(b:Nat):∀(n:Nat)(ls:List lB)(st:ai),cj b (ls.take n) (st.take n)<=cj b ls st
 |0,ls,st=>by simp[cj]|n+1,[],st=>by simp[cj]|n+1,l::ls,[]=>by simp[cj]|n+1,l::ls,o::st=>by
  have:=Gt b n ls st;simp only[List.take_succ_cons,cj];omega
end Ax
namespace Ax
open Go
structure de (wl J:Nat)(st st':ai):Prop where
 len:st.length<=st'.length
 low:∀id,id<wl->id<st.length->st'[id]?=st[id]?
 J:∀l,l<=J->l<=st.length->Gs l st->Gs l st'
variable {wl J:Nat}{st st' JW:ai}
theorem de.refl(wl J:Nat)(st:ai):de wl J st st:=⟨Nat.le_refl _,λ_ _ _=>rfl,λ_ _ _ h=>h⟩
theorem de.trans(h:de wl J st st')(k:de wl J st' JW):de wl J st JW:=
 ⟨Nat.le_trans h.len k.len,λid h1 h2=>(k.low id h1 (Nat.lt_of_lt_of_le h2 h.len)).trans (h.low id h1 h2),λl h1 h2 h3=>k.J l h1 (Nat.le_trans h2 h.len) (h.J l h1 h2 h3)⟩
theorem de.push(wl J:Nat)(st:ai)(ob:fq):de wl J st (st++[ob]) where
 len:=by simp
 low:=λid _ h=>by rw[List.getElem?_append_left h]
 J:=λl _ h1 h2 id JO h3 h4=>h2 id JO h3 (by rwa [List.getElem?_append_left (by omega)]at h4)
theorem de.set{id:Nat}{ob JO:fq}(gi:st[id]?=some ob)(hw:wl<=id)(h:∀l,l<=J->id<l->ob.under l=true->JO.under l=true):de wl J st (st.set id JO) where
 len:=by simp
 low:=λi h1 _=>by rw[List.getElem?_set,if_neg (by omega)]
 J:=λl h1 h2 h3 i ob2 h4 h5=>by
  rw[List.getElem?_set]at h5;split at h5;rename_i e;subst e;split at h5;cases h5;exact h l h1 h4 (h3 _ ob h4 gi);cases h5;exact h3 i ob2 h4 h5
theorem uU{l b6 sz:Nat}{rs:List (List AV)}:(fq.rows b6 sz rs).under l=true↔∀r∈rs,∀c∈r,c.under l=true:=by
 simp only[fq.under,List.all_eq_true];exact⟨λh r hr=>(gx l r).1 (h r hr),λh r hr=>(gx l r).2 (h r hr)⟩
theorem Qy{α:Type}{as vs:List α}{k:Nat}{x:α}(h:k+vs.length<=as.length)(hx:x∈ah as k vs):x∈as\/x∈vs:=by
 rw[jM _ _ _ h]at hx;rcases List.mem_append.1 hx with hx|hx;rcases List.mem_append.1 hx with hx|hx;exact .inl (List.mem_of_mem_take hx);exact .inr hx;exact .inl (List.mem_of_mem_drop hx)
theorem uV{p:AV}{cells:List AV}(h:fV wl J st p cells=some st')(hc:∀id b6 i k,p=.ptr id b6 i k->True:=λ_ _ _ _ _=>trivial):de wl J st st':=by
 unfold fV at h;split at h;split at h;rename_i v sz rows gi;split at h;rename_i j7;simp only[Bool.and_eq_true,decide_eq_true_eq,bq,Bool.or_eq_true]at j7;obtain⟨_,hw,hl⟩:=j7;split at h;rename_i r hr;split at h;rename_i cI;cases h;refine de.set gi hw λl h1 h2 h3=>?_;rw[uU]at h3 ⊢;intro r' x6 c Wu;rcases List.mem_or_eq_of_mem_set x6 with h4|h4;exact h3 r' h4 c Wu;subst h4;rcases Qy cI Wu with h5|h5;exact h3 r (cQ hr) c h5;rcases hl with hl|hl;omega;exact iW l c ((gh cells).1 hl c h5);cases h;cases h;cases h;cases h;cases h
theorem DV{sz bytes:Nat}{s:AV}{new:List (List AV)}{bx fH:aX}{r:eO}(h:xY wl J sz bytes s new st bx=some (r,st',fH)):de wl J st st':=by
 unfold xY at h;split at h;split at h;split at h;cases h;exact de.refl _ _ _;split at h;cases h;exact de.push _ _ _ _;cases h;split at h;cases h;exact de.push _ _ _ _;cases h;split at h;rename_i gi;split at h;rename_i hc;simp only[Bool.and_eq_true,decide_eq_true_eq,Bool.or_eq_true,List.all_eq_true]at hc;cases h;refine de.set gi hc.1.2 λl h1 h2 h3=>?_;rw[uU]at h3 ⊢;intro r hr c Wy;rcases List.mem_append.1 hr with h4|h4;exact h3 r h4 c Wy;rcases hc.2 with h5|h5;omega;exact iW l c ((gh r).1 (h5 r h4) c Wy);cases h;cases h;cases h;cases h
theorem MP{op:ir}{vals:List eO}{bx fH:aX}{r:eO}(h:aP wl J op vals st bx=some (r,st',fH)):de wl J st st':=by
 cases op
 case load agg n take=>
  unfold aP at h;simp only at h;split at h;split at h;split at h;split at h;rename_i hw _;cases h;exact uV hw;cases h;split at h;cases h;exact de.refl _ _ _;cases h;cases h;cases h
 case store n=>
  unfold aP at h;simp only at h;split at h;split at h;split at h;rename_i hw;cases h;exact uV hw;cases h;cases h;cases h
 case pW sz=>
  unfold aP at h;simp only at h;split at h;split at h;rename_i gi;split at h;rename_i hc;simp only[Bool.and_eq_true,decide_eq_true_eq]at hc;cases h;refine de.set gi hc.2 λl _ _ h3=>?_;rw[uU]at h3 ⊢;exact λr hr=>h3 r (List.mem_of_mem_take hr);cases h;cases h;cases h
 case kh sz bytes=>
  unfold aP at h;simp only at h;split at h;split at h;cases h;exact DV h;cases h
 case sC sz bytes zero=>
  unfold aP at h;simp only at h;split at h;split at h;exact DV h;cases h;cases h
 case copy sz=>
  unfold aP at h;simp only at h;split at h;split at h;rename_i gi ua;split at h;rename_i hc;simp only[Bool.and_eq_true,decide_eq_true_eq,Bool.or_eq_true,List.all_eq_true]at hc;cases h;refine de.set gi hc.1.2 λl h1 h2 h3=>?_;rw[uU]at h3 ⊢;intro r hr c Wy;rcases List.mem_append.1 hr with h4|h4;rcases hc.2 with h5|h5;omega;exact iW l c ((gh r).1 (h5 r h4) c Wy);exact h3 r (List.mem_of_mem_drop h4) c Wy;cases h;cases h;cases h
 case mapUpdate kk=>
  unfold aP at h;simp only at h;split at h;rename_i id k v;split at h;rename_i es gi;split at h;rename_i hc;simp only[Bool.and_eq_true,bq,decide_eq_true_eq,Bool.or_eq_true]at hc;split at h;rename_i r7 Qu;cases h;refine de.set gi hc.2.1 λl h1 h2 h3=>?_;have hk:k.under l=true:=by
   have:=hc.1;unfold Gb at this;split at this<;>first|rfl|cases this
  have hv:v.aa.under l=true:=by
   rcases hc.2.2 with h5|h5;omega;simp only[AV.af,Bool.and_true]at h5;exact iW l _ (wv v h5)
  clear gi;simp only[fq.under,List.all_eq_true,Bool.and_eq_true]at h3 ⊢;have key:∀(es r7:List (AV×AV)),(∀x∈es,x.1.under l=true/\x.2.under l=true)->Fx kk k v.aa es=some r7->∀x∈r7,x.1.under l=true/\x.2.under l=true:=by
   intro es;induction es with
   |nil=>intro r7 _ h x hx;simp[Fx]at h;subst h;simp at hx;subst hx;exact⟨hk,hv⟩|cons c es ih=>
    intro r7 mO h;obtain⟨a,u⟩:=c;simp only[Fx]at h;split at h;cases h;intro x hx;rcases List.mem_cons.1 hx with rfl|hx;exact⟨hk,hv⟩;exact mO x (by simp[hx]);split at h;rename_i r' x6;cases h;intro x hx;rcases List.mem_cons.1 hx with rfl|hx;exact mO _ (by simp);exact ih r' (λx hx=>mO x (by simp[hx])) x6 x hx;cases h;cases h
  exact key es r7 h3 Qu;cases h;cases h;cases h;cases h
 all_goals
  unfold aP at h;simp only at h;repeat' split at h
 all_goals first
  |(cases h;exact de.refl _ _ _)
  |(cases h;exact de.push _ _ _ _)
  |cases h
structure rC (O:j4):Prop where
 call:∀wl J f args st v st',O.call wl J f args st=some (v,st')->de wl J st st'
 loop:∀wl J rs c s x s',O.loop wl J rs c s=some (x,s')->de wl J s.st s'.st
variable {O:j4}
theorem Qz(hO:rC O){op:ir}{vals:List eO}{bx fH:aX}{r:eO}(h:tC O wl J op vals st bx=some (r,st',fH)):de wl J st st':=by
 have call:∀x,fN O wl J x st bx=some (r,st',fH)->de wl J st st':=by
  intro x h;unfold fN at h;split at h;split at h;rename_i hc;cases h;exact hO.call _ _ _ _ _ _ _ hc;cases h;cases h
 unfold tC at h;split at h;exact call _ h;exact call _ h;exact MP h
theorem zG(hO:rC O){o:aY}{s s':St}(h:gO O wl J o s=some s'):de wl J s.st s'.st:=by
 unfold gO at h;split at h;cases h;cases h;exact de.refl _ _ _;split at h;cases h;rename_i ha;have hk:=Qz hO ha;split at h;cases h;exact hk;split at h;cases h;exact hk;cases h
theorem ym(hO:rC O):∀{l:List aY}{s s':St},fB O wl J l s=some s'->de wl J s.st s'.st
 |[],s,s',h=>by simp only[fB,Option.some.injEq]at h;subst h;exact de.refl _ _ _|o::l,s,s',h=>by
  simp only[fB]at h;split at h;rename_i s1 h1;exact(zG hO h1).trans (ym hO h);cases h
theorem yp(hO:rC O):∀{l:List aY}{s s':St}{iB:List St},eH O wl J l s=some (s',iB)->de wl J s.st s'.st
 |[],s,s',iB,h=>by simp only[eH,Option.some.injEq,Prod.mk.injEq]at h;obtain⟨rfl,_⟩:=h;exact de.refl _ _ _|o::l,s,s',iB,h=>by
  simp only[eH]at h;split at h;rename_i s1 h1;split at h;rename_i h2;cases h;exact(zG hO h1).trans (yp hO h2);cases h;cases h
theorem DW(hO:rC O){l:List aY}{bG:List (Nat×Nat)}{s s':St}(h:fY O wl J l bG s=some s'):de wl J s.st s'.st:=by
 unfold fY at h;split at h;cases h;rename_i hr;split at h;cases h;exact yp hO hr;cases h
theorem FI{a a':AV}(h:qo wl a st=some (a',st')):de wl J st st':=by
 unfold qo at h;split at h;split at h;rename_i gi;split at h;rename_i hc;simp only[Bool.and_eq_true,decide_eq_true_eq]at hc;cases h;exact de.set gi hc.2 λl _ _ _=>by simp[fq.under]
 cases h;cases h;split at h;cases h;exact de.refl _ _ _;cases h
theorem yq:∀{l l':List AV}{st st':ai},ki wl l st=some (l',st')->de wl J st st'
 |[],l',st,st',h=>by simp only[ki,Option.some.injEq,Prod.mk.injEq]at h;obtain⟨_,rfl⟩:=h;exact de.refl _ _ _|a::l,l',st,st',h=>by
  simp only[ki]at h;split at h;rename_i h1;split at h;rename_i h2;cases h;exact(FI h1).trans (yq h2);cases h;cases h
theorem wC:∀{l l':List (List AV)}{st st':ai},kE wl l st=some (l',st')->de wl J st st'
 |[],l',st,st',h=>by simp only[kE,Option.some.injEq,Prod.mk.injEq]at h;obtain⟨_,rfl⟩:=h;exact de.refl _ _ _|a::l,l',st,st',h=>by
  simp only[kE]at h;split at h;rename_i h1;split at h;rename_i h2;cases h;exact(yq h1).trans (wC h2);cases h;cases h
theorem tH{a a':AV}(h:iI wl a st=some (a',st')):de wl J st st':=by
 unfold iI at h;split at h;split at h;rename_i gi;split at h;rename_i hc;simp only[Bool.and_eq_true,decide_eq_true_eq]at hc;split at h;rename_i hl;cases h;exact(de.set (J:=J) gi hc.2 λl _ _ _=>by simp[fq.under]).trans (wC hl);cases h;cases h;cases h;cases h;exact de.refl _ _ _;cases h
theorem FJ{a a':AV}(h:qp wl a st=some (a',st')):de wl J st st':=by
 unfold qp at h;split at h;cases h;exact de.push _ _ _ _;exact tH h
theorem jO(hO:rC O){rs:List kD}:∀{c:bE}{s:St}{x:Ex}{s':St},iu O wl J rs c s=some (x,s')->de wl J s.st s'.st
 |.skip,s,x,s',h=>by simp only[iu,Option.some.injEq,Prod.mk.injEq]at h;obtain⟨_,rfl⟩:=h;exact de.refl _ _ _|.region cN draw di,s,x,s',h=>by
  simp only[iu]at h;split at h;rename_i s1 h1;cases h;show de wl J s.st s1.st;cases draw with
  |none=>exact ym hO (by simpa only using h1)|some bG=>exact DW hO (by simpa only using h1)
  cases h
 |.seq a b,s,x,s',h=>by
  simp only[iu]at h;split at h;rename_i s1 h1;exact(jO hO h1).trans (jO hO h);exact jO hO h
 |.cond c ca a cb b,s,x,s',h=>by
  simp only[iu]at h;split at h;have:=jO (c:=a) hO h;exact this;have:=jO (c:=b) hO h;exact this;cases h
 |.block id c,s,x,s',h=>by
  simp only[iu]at h;split at h;rename_i h1;split at h<;>(cases h;exact jO hO h1);exact jO hO h
 |.loop c,s,x,s',h=>by simp only[iu]at h;exact hO.loop _ _ _ _ _ _ _ h|.exit id,s,x,s',h=>by simp only[iu,Option.some.injEq,Prod.mk.injEq]at h;obtain⟨_,rfl⟩:=h;exact de.refl _ _ _|.ret,s,x,s',h=>by
  simp only[iu]at h;split at h;cases h;exact de.refl _ _ _;cases h
 |.Qe t,s,x,s',h=>by
  simp only[iu]at h;split at h;split at h;rename_i hf;cases h;exact tH hf;cases h;cases h
 |.Dl j k,s,x,s',h=>by
  simp only[iu]at h;split at h;split at h;split at h;rename_i hf;cases h;exact tH hf;cases h;cases h;cases h
 |.xX t off,s,x,s',h=>by
  obtain⟨_,id,b6,i,k,v,v',rf,qg,_,_,g3,g4,rfl⟩:=Dr h;exact(FJ g3).trans (uV g4)
theorem MQ:∀m:Mode,m=.pure\/m=.mR\/m=.CN:=by
 intro m;cases m<;>simp
theorem Cw(hO:rC O){sf:aD}{args:List AV}{v:AV}(h:dh O wl J sf args st=some (v,st')):de wl J st st':=by
 unfold dh at h;split at h;split at h;rename_i x s hs;split at h;rename_i u hu;have hk:=jO hO hs;simp only[qZ]at hk;rcases MQ sf.mode with hm|hm|hm;rw[hm]at h;simp only[Mode.mM]at h;split at h;cases h;exact de.refl _ _ _;cases h;rw[hm]at h hk;simp only[Mode.mM]at h;simp only[Mode.yH,Mode.qY]at hk;split at h;cases h;refine⟨by rw[List.length_take];have:=hk.len;omega,λid h1 h2=>?_,λl h1 h2 h3 id ob h4 h5=>?_⟩;rw[List.getElem?_take,if_pos h2];exact hk.low id h1 h2;rw[List.getElem?_take]at h5;split at h5;exact hk.J l h2 h2 h3 id ob h4 h5;cases h5;cases h;rw[hm]at h hk;simp only[Mode.mM]at h;cases h;exact hk;cases h;cases h;cases h
theorem DX(hO:rC O){sf:aD}{args:List AV}{v:AV}(h:eA O wl J sf args st=some (v,st')):de wl J st st':=by
 unfold eA at h;split at h;simp only[Option.map_eq_some_iff]at h;obtain⟨x,_,hx⟩:=h;cases hx;exact de.refl _ _ _;exact Cw hO h
theorem Gu(S:Nat->Option aD):∀n,rC (pY S n)
 |0=>⟨λ_ _ _ _ _ _ _ h=>by simp[pY]at h,λ_ _ _ _ _ _ _ h=>by simp[pY]at h⟩
 |n+1=>by
  have ih:=Gu S n;refine⟨λwl J f args st v st' h=>?_,λwl J rs c s x s' h=>?_⟩;simp only[pY]at h;split at h;exact DX ih h;cases h;simp only[pY]at h;split at h;rename_i s1 h1;exact(jO ih h1).trans (ih.loop _ _ _ _ _ _ _ h);exact jO ih h
end Ax
namespace Ax
open Go
variable {P:Program}{w w':World}{G G':aQ}{β gw:List mS}
abbrev lJ(a:Act)(t:Nat):Value:=a.tmps.getD t undef
structure FS (w:World)(G:aQ)(β:List mS)(a:Act)(η:Nat->eO)(bx:aX)(st:ai)(n:Nat):Prop where
 Kq:a.defers=[]
 size:n<=a.tmps.size
 uD:∀t,kF w G β (η t) (lJ a t)
 lt:∀t,n<=t->η t=.none
 inv:jn w G st
 box:j5 w G β bx
def vG(β:List mS)(a:Act)(η:Nat->eO)(bx:aX)(st:ai)(G:aQ)(n:Nat)(b:Nat):Nat:=
 gq (λt=>cx b (η t) (lJ a t)) n+fR b β bx+cj b G.ls st
structure Mv (w:World)(G:aQ)(A:Nat->Nat)(w':World)(G':aQ)(A':Nat->Nat):Prop where
 jj:sK w G w' G'
 fG:∀b,b<w.heap.size->A' b<=A b
 one:∀b,A' b<=1
 wj:∀b,b<w.heap.size->A b=0->dZ w G w' G' b
 size:w.heap.size<=w'.heap.size
 os:w'.os=w.os
 out:w'.output=w.output
theorem Mv.refl{A:Nat->Nat}(h:∀b,A b<=1):Mv w G A w G A:=⟨sK.refl w G,λ_ _=>Nat.le_refl _,h,λ_ _ _=>⟨rfl,rfl⟩,Nat.le_refl _,rfl,rfl⟩
theorem dZ.trans{w1 w2 w3:World}{G1 G2 G3:aQ}{b:Nat}(h:dZ w1 G1 w2 G2 b)(k:dZ w2 G2 w3 G3 b):dZ w1 G1 w3 G3 b:=⟨k.1.trans h.1,k.2.trans h.2⟩
theorem Mv.trans{A A' A'':Nat->Nat}{w'':World}{G'':aQ}(h:Mv w G A w' G' A')(k:Mv w' G' A' w'' G'' A''):Mv w G A w'' G'' A'' where
 jj:=h.jj.trans k.jj
 fG:=λb hb=>Nat.le_trans (k.fG b (Nat.lt_of_lt_of_le hb h.size)) (h.fG b hb)
 one:=k.one
 wj:=λb hb h0=>(h.wj b hb h0).trans (k.wj b (Nat.lt_of_lt_of_le hb h.size) (by have:=h.fG b hb;omega))
 size:=Nat.le_trans h.size k.size
 os:=k.os.trans h.os
 out:=k.out.trans h.out
theorem Mv.SU{A A' B B':Nat->Nat}(h:Mv w G A w' G' A')(hB:∀b,A b<=B b)(hc:∀b,b<w.heap.size->B' b<=B b)(ho:∀b,B' b<=1):Mv w G B w' G' B':=
 ⟨h.jj,hc,ho,λb hb h0=>h.wj b hb (by have:=hB b;omega),h.size,h.os,h.out⟩
theorem Gv{e:eO}{v:Value}{b:Nat}(h:kF w G β e v)(hb:0<cx b e v):b<w.heap.size:=by
 cases e with
 |none=>simp[cx]at hb|fp j k=>simp[cx]at hb|val a=>exact aS.held h hb
section
variable {a:Act}{η:Nat->eO}{bx:aX}{st:ai}{n:Nat}
theorem FS.held(h:FS w G β a η bx st n){b:Nat}(hb:0<vG β a η bx st G n b):b<w.heap.size:=by
 unfold vG at hb;by_cases h1:0<fR b β bx;exact h.box.held h1;by_cases h2:0<cj b G.ls st;exact h.inv.held h2;have h3:0<gq (λt=>cx b (η t) (lJ a t)) n:=by omega
 have key:∀n,0<gq (λt=>cx b (η t) (lJ a t)) n->∃t,0<cx b (η t) (lJ a t):=by
  intro n;induction n with
  |zero=>intro h;simp[gq]at h|succ n ih=>
   intro h;simp only[gq]at h;by_cases h0:0<cx b (η n) (lJ a n);exact⟨n,h0⟩;exact ih (by omega)
 obtain⟨t,ht⟩:=key n h3;exact Gv (h.uD t) ht
end
theorem kF.bx{e:eO}{v:Value}{nb:Option Nat}(h:kF w G β e v)(hb:eU nb β gw)(hn:∀j,nb=some j->e.pB j=true):kF w G gw e v:=by
 cases e with
 |none=>trivial|val a=>exact h|fp j k=>
  obtain⟨g,b,h1,h2,h3⟩:=h;obtain⟨g',a1,a2⟩:=hb j g h1;refine⟨g',b,a1,(a2 λe=>?_).trans h2,h3⟩;have:=hn j e;simp[eO.pB]at this
theorem kF.jj{e:eO}{v:Value}(h:kF w G β e v)(hs:sK w G w' G')(hu:∀b,0<cx b e v->dZ w G w' G' b):kF w' G' β e v:=by
 cases e with
 |none=>trivial|val a=>exact aS.jj h hs hu|fp j k=>exact h
def AJ(η:Nat->eO):Src->eO
 |.tmp t true=>η t|.tmp t false=>(η t).aa|.const a=>.val a
theorem CY(env:pU)(s:Src):JN env s=AJ (cK env) s:=by
 cases s with
 |tmp t mv=>cases mv<;>rfl|const a=>rfl
def uY(η:Nat->eO):Option (Nat×Bool)->Option Bool
 |none=>some true|some (t,b)=>match η t with
  |.val (.bool c)=>some (c==b)|.val .undef=>some false|_=>none
theorem Gw(env:pU)(g:Option (Nat×Bool)):mL env g=uY (cK env) g:=by
 cases g with
 |none=>rfl|some x=>rfl
def ko(η:Nat->eO)(dst:Option Nat)(e:eO):Nat->eO:=λt=>if dst=some t then e else η t
def jE(η:Nat->eO)(l:List Nat):Nat->eO:=λt=>if t∈l then .none else η t
theorem Oj{a:Act}{η:Nat->eO}(hr:∀t,kF w G β (η t) (lJ a t)):∀{x:Operand}{s:Src},Mr x s=true->kF w G β (AJ η s) (a.eval x)/\∀b,cx b (AJ η s) (a.eval x)<=p7 (λt=>cx b (η t) (lJ a t)) (qw [s])
 |.tmp t,.tmp u true,h=>by
  simp only[Mr,beq_iff_eq]at h;subst h;exact⟨hr t,λb=>by simp only[qw,p7,AJ];exact Nat.le_refl _⟩
 |.tmp t,.tmp u false,h=>by
  simp only[Mr,beq_iff_eq]at h;subst h;exact⟨(hr t).aa,λb=>by simp only[AJ,Gf];omega⟩
 |.const v,.const c,h=>by
  simp only[Mr]at h;obtain⟨h1,h2,_⟩:=yI h w G;exact⟨h1,λb=>by simp only[AJ,cx,eS b c _ h2];omega⟩
 |.func f,.const (.fn g [] []),h=>by
  simp only[Mr,Bool.and_eq_true,beq_iff_eq,decide_eq_true_eq]at h;obtain⟨rfl,hf⟩:=h;exact⟨aS.fn f [] [] #[] #[] rfl rfl ⟨rfl,rfl,hf⟩ (λi c v h=>by simp at h) (λi c v h=>by simp at h),λb=>by simp[AJ,cx,fG]⟩
theorem SV(s:Src)(r:List Src):qw (s::r)=qw [s]++qw r:=by
 cases s with
 |tmp t mv=>cases mv<;>rfl|const a=>rfl
theorem BZ(f:Nat->Nat):∀(l m:List Nat),p7 f (l++m)=p7 f l+p7 f m
 |[],m=>by simp[p7]|t::l,m=>by simp only[List.cons_append,p7,BZ f l m];omega
theorem Kr{a:Act}{η:Nat->eO}(hr:∀t,kF w G β (η t) (lJ a t)):∀{xs:List Operand}{ss:List Src},fJ xs ss=true->kX w G β (ss.map (AJ η)) (xs.map a.eval)/\
  ∀b,mm b (ss.map (AJ η)) (xs.map a.eval)<=p7 (λt=>cx b (η t) (lJ a t)) (qw ss)
 |[],[],_=>⟨trivial,λb=>by simp[mm]⟩
 |x::xs,s::ss,h=>by
  simp only[fJ,Bool.and_eq_true]at h;obtain⟨h1,h2⟩:=Oj hr h.1;obtain⟨h3,h4⟩:=Kr hr h.2;refine⟨⟨h1,h3⟩,λb=>?_⟩;have e1:=h2 b;have e2:=h4 b;rw[SV,BZ];simp only[List.map_cons,mm];omega
 |[],_::_,h=>by simp[fJ]at h|_::_,[],h=>by simp[fJ]at h
def MR(cN:Array Oper)(o:Oper)(so:aY):Bool:=
 match o.guard,so.guard with
 |none,none=>true|some (j,b),some (t,c)=>b==c&&(match cN[j]? with|some q=>q.dst==some t|none=>false)|_,_=>false
def wD:List Nat->Bool
 |[]=>true|t::l=>!(l.contains t)&&wD l
theorem xz:∀{l:List Nat},wD l=true->l.Nodup
 |[],_=>List.nodup_nil|t::l,h=>by
  simp only[wD,Bool.and_eq_true,Bool.not_eq_true',List.contains_eq_mem,decide_eq_false_iff_not]at h;exact List.nodup_cons.2 ⟨h.1,xz h.2⟩
def Gy(S:Nat->Option aD)(P:Program)(cN:Array Oper)(n:Nat)(o:Oper)(so:aY):Bool:=
 mOp S P o so&&MR cN o so&&(match so.dst with|some d=>decide (d<n)|none=>true)&&wD (qw so.args)
theorem QA{cN:Array Oper}{o:Oper}{so:aY}{a:Act}{η:Nat->eO}{n:Nat}(hg:MR cN o so=true)(hr:∀t,kF w G β (η t) (lJ a t))(bw:∀t,n<=t->η t=.none)(eI:n<=a.tmps.size){b:Bool}
  (hw:uY η so.guard=some b):Region.wanted o (yielded cN a.tmps)=b:=by
 unfold MR at hg;split at hg;rename_i h1 h2;rw[h2]at hw;simp only[uY]at hw;cases hw;simp[Region.wanted,h1];rename_i j b1 t c h1 h2;simp only[Bool.and_eq_true,beq_iff_eq]at hg;obtain⟨rfl,hg⟩:=hg;split at hg;rename_i q hq;simp only[beq_iff_eq]at hg;rw[h2]at hw;simp only[uY]at hw;have hy:yielded cN a.tmps j=match a.tmps[t]? with|some (.bool b)=>some b|_=>none:=by
  simp only[yielded,hq,Option.bind_some,hg]
  rfl
 have FK:=hr t;split at hw;rename_i c hc;cases hw;have ht:t<n:=by
  rcases Nat.lt_or_ge t n with h|h;exact h;rw[bw t h]at hc;cases hc
 rw[hc]at FK;have hv:=aS.jL FK;have ht':a.tmps[t]?=some (.bool c):=by
  have hs:t<a.tmps.size:=by omega
  have:a.tmps.getD t undef=a.tmps[t]:=by simp[Array.getD,hs]
  rw[<-hv,lJ,this];simp[hs]
 simp only[Region.wanted,h1,hy,ht']
 rfl
 rename_i hc;cases hw;have ht:t<n:=by
  rcases Nat.lt_or_ge t n with h|h;exact h;rw[bw t h]at hc;cases hc
 rw[hc]at FK;have hv:lJ a t=undef:=by
  generalize lJ a t=v at FK;cases FK;rfl
 have ht':a.tmps[t]?=some undef:=by
  have hs:t<a.tmps.size:=by omega
  have:a.tmps.getD t undef=a.tmps[t]:=by simp[Array.getD,hs]
  rw[<-hv,lJ,this];simp[hs]
 simp only[Region.wanted,h1,hy,ht']
 rfl
 cases hw;cases hg;cases hg
end Ax
namespace Ax
open Go
variable {P:Program}{w w':World}{G G':aQ}{β gw:List mS}
def QB (P : Program) (f : FuncId) : Prop := ∃ fn, P.funcs[f]? = some fn ∧ (fn.name == "runtime.NumGoroutine") = false ∧ fn.body.isNone = false
def jP(S:Nat->Option aD)(P:Program)(O:j4):Prop:=
 ∀wl J f args st v st',O.call wl J f args st=some (v,st')->∃sf,S f=some sf/\QB P sf.eZ/\(f<100000->sf.eZ=f)/\
  ∀(w:World) (G:aQ) (vs:List Value),cn w G args vs->jn w G st->(∀b,bU b args vs+cj b G.ls st<=1)->
   Calls P sf.eZ vs.toArray w λe w'=>∃u G',e=.returned u/\aS w' G' v u/\jn w' G' st'/\
    Mv w G (λb=>bU b args vs+cj b G.ls st) w' G' (λb=>fG b v u+cj b G'.ls st')
theorem DY{f:FuncId}(h:QB P f)(args:Array Value)(w:World):(callFunc f args).run P w=.ok (.enter f args) w:=by
 obtain⟨fn,h1,h2,h3⟩:=h;have h4 : ¬ fn.name = "runtime.NumGoroutine" := by simpa using h2
 have h5:¬fn.body=none:=by intro h;rw[h]at h3;simp at h3
 simp[callFunc,h1,h4,h5]
theorem Gz{ρ:Operand->Value}{o:Oper}{c:Call}{f:FuncId}{vf vc:Array Value}{x:Operand}(ho:o.op=.call c)(hc:c.callee=.value x)(hx:ρ x=.func (.func f) vf vc)(hf:QB P f)(w:World) :
  (execOp ρ o).run P w=.ok (.enter f (vf++c.args.map ρ++vc)) w:=by
 simp only[execOp,ho,resolve,hc,hx,Deferred.ofValue,Sem.run_bind,Sem.run_pure,Result.andThen_ok,invoke,DY hf]
theorem QC{l:List eO}{x:Nat×List AV}(h:mF .qW l=some x):∃f first lC l' vs,l=.val (.fn f first lC)::l'/\je l'=some vs/\x=(f,first++vs++lC):=by
 unfold mF at h;split at h;rename_i heq;cases heq;rename_i f first lC l' _
 split at h;rename_i vs Fs;cases h;exact⟨f,first,lC,l',vs,rfl,Fs,rfl⟩;cases h;cases h
section
variable {S:Nat->Option aD}{O:j4}{cN:Array Oper}{n:Nat}{o:Oper}{so:aY}{a:Act}{η:Nat->eO}{bx fH:aX}{st st':ai}{wl J:Nat}{e:eO}
theorem FS.after(hs:FS w G β a η bx st n)(h1:∀b,vG β a η bx st G n b<=1){cO:Nat->Nat}(hcO:∀b,cO b=p7 (λt=>cx b (η t) (lJ a t)) (qw so.args))(SW:(qw so.args).Nodup)(hd:∀d,so.dst=some d->d<n){v:Value}
  (hA:jo w G β st bx cO w' G' gw st' fH e v)(hB:eU so.op.b8 β gw)(Qj:∀j,so.op.b8=some j->∀t,so.dst≠some t->t ∉ qw so.args->(η t).pB j=true) :
  FS w' G' gw (a.put so.dst v) (ko (jE η (qw so.args)) so.dst e) fH st' n/\Mv w G (vG β a η bx st G n) w' G' (vG gw (a.put so.dst v) (ko (jE η (qw so.args)) so.dst e) fH st' G' n):=by
 have Qu:∀t,lJ (a.put so.dst v) t=if so.dst=some t then (if t<n then v else lJ (a.put so.dst v) t) else lJ a t:=by
  intro t;cases AZ:so.dst with
  |none=>simp[Act.put]|some d=>
   have hdn:=hd d AZ;have hdt:d<a.tmps.size:=Nat.lt_of_lt_of_le hdn hs.size;by_cases ht:d=t;subst ht;simp[Act.put,lJ,hdn,hdt];simp[ht,Act.put,lJ]
 have SX:∀t,t<n->so.dst=some t->lJ (a.put so.dst v) t=v:=λt h1 h2=>by rw[Qu t,if_pos h2,if_pos h1]
 have Ks:∀t,so.dst≠some t->lJ (a.put so.dst v) t=lJ a t:=λt h=>by rw[Qu t,if_neg h]
 have Ku:∀b,cO b+gq (λt=>if t∈qw so.args then 0 else cx b (η t) (lJ a t)) n<=gq (λt=>cx b (η t) (lJ a t)) n:=λb=>by
  rw[hcO];exact zE (λt ht=>by rw[hs.lt t ht];rfl) _ SW
 have mz:∀b t,so.dst≠some t->t ∉ qw so.args->0<cx b (η t) (lJ a t)->cO b+fR b β bx+cj b G.ls st=0:=by
  intro b t h2 h3 h4;have htn:t<n:=by
   rcases Nat.lt_or_ge t n with h|h;exact h;rw[hs.lt t h]at h4;simp[cx]at h4
  have h5:=wB (f:=λt=>if t∈qw so.args then 0 else cx b (η t) (lJ a t)) htn;simp only[if_neg h3]at h5;have h6:=Ku b;have h7:=h1 b;unfold vG at h7;omega
 have dG:∀t,so.dst≠some t->t ∉ qw so.args->kF w' G' gw (η t) (lJ a t):=λt h2 h3=>
  ((hs.uD t).jj hA.jj λb hb=>hA.wj b (mz b t h2 h3 hb) (Gv (hs.uD t) hb)).bx hB λj hj=>Qj j hj t h2 h3
 have hFS:FS w' G' gw (a.put so.dst v) (ko (jE η (qw so.args)) so.dst e) fH st' n:=by
  refine⟨?_,?_,λt=>?_,λt ht=>?_,hA.inv,hA.box⟩;cases AZ:so.dst<;>simp[Act.put,hs.Kq];cases AZ:so.dst<;>simp[Act.put,hs.size];simp only[ko,jE];by_cases h2:so.dst=some t;rw[if_pos h2,SX t (hd t h2) h2];exact hA.uD;rw[if_neg h2,Ks t h2];by_cases h3:t∈qw so.args;rw[if_pos h3];trivial;rw[if_neg h3];exact dG t h2 h3;simp only[ko,jE];rw[if_neg (λh=>by have:=hd t h;omega)];rw[hs.lt t ht];simp
 have My:∀b,vG gw (a.put so.dst v) (ko (jE η (qw so.args)) so.dst e) fH st' G' n b<=vG β a η bx st G n b+(if w.heap.size<=b then 1 else 0):=by
  intro b;have h2:=hA.fG b;have h3:=Ku b;have h4:gq (λt=>cx b (ko (jE η (qw so.args)) so.dst e t) (lJ (a.put so.dst v) t)) n<=gq (λt=>if t∈qw so.args then 0 else cx b (η t) (lJ a t)) n+cx b e v:=by
   cases AZ:so.dst with
   |none=>
    rw[AZ]at Ks;have:gq (λt=>cx b (ko (jE η (qw so.args)) none e t) (lJ (a.put none v) t)) n=gq (λt=>if t∈qw so.args then 0 else cx b (η t) (lJ a t)) n:=oI λt _=>by
     rw[Ks t (by simp)];simp only[ko,jE];rw[if_neg (by simp)];split<;>rfl
    rw[this];omega
   |some d=>
    rw[AZ]at Ks SX;have h5:=ud (f:=λt=>cx b (ko (jE η (qw so.args)) (some d) e t) (lJ (a.put (some d) v) t)) (g:=λt=>if t∈qw so.args then 0 else cx b (η t) (lJ a t)) (d:=d) (hd d AZ) λt ht=>by
     rw[Ks t (by simpa using λh=>ht h.symm)];simp only[ko,jE];rw[if_neg (by simpa using λh=>ht h.symm)];split<;>rfl
    have h6:cx b (ko (jE η (qw so.args)) (some d) e d) (lJ (a.put (some d) v) d)=cx b e v:=by
     rw[SX d (hd d AZ) rfl];simp[ko]
    rw[h6]at h5;omega
  unfold vG;omega
 refine⟨hFS,hA.jj,λb hb=>?_,λb=>?_,λb hb h0=>hA.wj b ?_ hb,hA.size,hA.os,hA.out⟩;have:=My b;rw[if_neg (by omega)]at this;exact this;have h2:=My b;by_cases hb:w.heap.size<=b;rw[if_pos hb]at h2;have h3:vG β a η bx st G n b=0:=by
  rcases Nat.eq_zero_or_pos (vG β a η bx st G n b) with h|h;exact h;have:=hs.held h;omega
 omega;rw[if_neg hb]at h2;have:=h1 b;omega;have h2:=Ku b;unfold vG at h0;omega
theorem SY{v:AV}{u:Value}{args:List AV}{vs:List Value}{cO:Nat->Nat}(hB:j5 w G β bx)(hX:∀b,cO b+fR b β bx+cj b G.ls st<=1)(hc:∀b,bU b args vs<=cO b)(hr:aS w' G' v u)(hI':jn w' G' st')
  (hM:Mv w G (λb=>bU b args vs+cj b G.ls st) w' G' (λb=>fG b v u+cj b G'.ls st')):jo w G β st bx cO w' G' β st' bx (.val v) u where
 jj:=hM.jj
 inv:=hI'
 box:=nj hB hM.jj λb hb=>hM.wj b (hB.held hb) (by have h1:=hX b;have h2:=hc b;omega)
 uD:=hr
 fG:=λb=>by
  simp only[cx];by_cases hb:w.heap.size<=b;rw[if_pos hb];have h1:=hM.one b;have h2:fR b β bx=0:=by
   rcases Nat.eq_zero_or_pos (fR b β bx) with h|h;exact h;have:=hB.held h;omega
  omega;rw[if_neg hb];have h1:=hM.fG b (by omega);have h2:=hc b;omega
 wj:=λb h0 hb=>hM.wj b hb (by have:=hc b;omega)
 size:=hM.size
 os:=hM.os
 out:=hM.out
theorem Ol{Q:Exit->Act->World->Prop}{i:Nat}(hi:cN[i]?=some o)(hm:Gy S P cN n o so=true)(hO:jP S P O)(hs:FS w G β a η bx st n)(h1:∀b,vG β a η bx st G n b<=1){K:Act->World->Prop}{b:Bool}
  (hw:uY η so.guard=some b)
  (iz:b=false->∀(a':Act),FS w G β a' (ko η so.dst (.val .undef)) bx st n->Mv w G (vG β a η bx st G n) w G (vG β a' (ko η so.dst (.val .undef)) bx st G n)->K a' w)
  (abH:b=true->∃e st' fH,tC O wl J so.op (so.args.map (AJ η)) st bx=some (e,st',fH)/\(∀j,so.op.b8=some j->∀t,so.dst≠some t->t ∉ qw so.args->(η t).pB j=true)/\
   ∀(w':World) (G':aQ) (gw:List mS) (a':Act),FS w' G' gw a' (ko (jE η (qw so.args)) so.dst e) fH st' n->Mv w G (vG β a η bx st G n) w' G' (vG gw a' (ko (jE η (qw so.args)) so.dst e) fH st' G' n)->K a' w') :
  wpOp P cN Q i K a w:=by
 unfold Gy at hm;simp only[Bool.and_eq_true]at hm;obtain⟨⟨⟨hm,hg⟩,hd0⟩,SW⟩:=hm;have hd:∀d,so.dst=some d->d<n:=λd hd=>by rw[hd]at hd0;simpa using hd0
 have SW:=xz SW;have AZ:o.dst=so.dst:=by
  unfold mOp at hm;rw[Bool.and_eq_true]at hm;have:=hm.1;split at this;rename_i h1 h2;simp only[beq_iff_eq]at this;rw[h1,h2,this];rename_i h1 h2;rw[h1,h2];cases this
 have agf:=QA hg hs.uD hs.lt hs.size hw;unfold wpOp;rw[hi];simp only[agf];cases b with
 |false=>
  simp only[Bool.false_eq_true,if_false];rw[AZ];have hA:jo w G β st bx (λb=>p7 (λt=>cx b (η t) (lJ a t)) (qw ([]:List Src))) w G β st bx (.val .undef) undef:=jo.ni hs.inv hs.box .undef λb=>by simp[cx,fG]
  obtain⟨f1,f2⟩:=FS.after (so:=⟨so.dst,.move,[],none⟩) hs h1 (λb=>rfl) List.nodup_nil hd hA (eU.refl _ _) (λj hj=>by simp[ir.b8]at hj);have hk:jE η (qw ([]:List Src))=η:=by funext t;simp[jE,qw]
  simp only[hk]at f1 f2;exact iz rfl _ f1 f2
 |true=>
  obtain⟨e,st',fH,ha,Qj,hK⟩:=abH rfl;simp only[if_true];refine .inl ?_;have hX:∀b,p7 (λt=>cx b (η t) (lJ a t)) (qw so.args)+fR b β bx+cj b G.ls st<=1:=λb=>by
   have h2:=zE (f:=λt=>cx b (η t) (lJ a t)) (n:=n) (λt ht=>by rw[hs.lt t ht];rfl) _ SW;have h3:=h1 b;unfold vG at h3;omega
  have hA:∀xs,fJ xs so.args=true->kX w G β (so.args.map (AJ η)) (xs.map a.eval)/\∀b,mm b (so.args.map (AJ η)) (xs.map a.eval)<=p7 (λt=>cx b (η t) (lJ a t)) (qw so.args):=λxs hxs=>Kr hs.uD hxs;have plain:aP wl J so.op (so.args.map (AJ η)) st bx=some (e,st',fH)->o.wp P a w K Q:=by
   intro ha;obtain⟨nx,v,w',G',gw,e1,e2,e3,e4⟩:=abE hm hs.inv hs.box hX hA ha;obtain⟨f1,f2⟩:=FS.after hs h1 (λb=>rfl) SW hd e3 e4 Qj;have hk:=hK w' G' gw _ f1 f2;unfold Oper.wp;rw[e1];rcases e2 with rfl|⟨rfl,rfl⟩;rw[Oper.upon_value,AZ];exact hk;rw[Oper.upon_skip,AZ];exact hk
  have call:∀(f i:Nat) (vs:List AV) (us:List Value) (G0:Prop),fN O wl J (some (i,vs)) st bx=some (e,st',fH)->cn w G vs us->(∀b,bU b vs us<=p7 (λt=>cx b (η t) (lJ a t)) (qw so.args))->so.op.b8=none->
    (∀sf,S i=some sf->(i<100000->sf.eZ=i)->sf.eZ=f)->(QB P f->(execOp a.eval o).run P w=.ok (.enter f us.toArray) w)->o.wp P a w K Q:=by
   intro f i vs us _ hc dG N3 Wz hsf hex;unfold fN at hc;simp only at hc;split at hc;rename_i v rf eF;cases hc;obtain⟨sf,s1,s2,s3,s4⟩:=hO _ _ _ _ _ _ _ eF;have hf:=hsf sf s1 s3;rw[hf]at s2 s4;have abJ:=s4 w G us dG hs.inv λb=>by have h2:=hX b;have h3:=N3 b;omega
   unfold Oper.wp;rw[hex s2,Oper.upon_enter];refine abJ.mono λen w' hen=>?_;obtain⟨u,G',rfl,r1,r2,r3⟩:=hen;have hA1:=SY hs.box hX N3 r1 r2 r3;obtain⟨f1,f2⟩:=FS.after hs h1 (λb=>rfl) SW hd hA1 (eU.refl _ _) Qj;have hk:=hK w' G' β _ f1 f2;simp only;rw[AZ];exact hk;cases hc
  unfold tC at ha;split at ha;rename_i i hop;unfold mOp at hm;rw[Bool.and_eq_true]at hm;replace hm:=hm.2;rw[hop]at hm;simp only[mF]at ha;cases Fs:je (so.args.map (AJ η)) with
  |none=>rw[Fs]at ha;simp[fN]at ha|some vs=>
   rw[Fs]at ha;split at hm<;>first|(rename_i h1 h2;cases h2;done)|(rename_i h2;cases h2;done)|(rename_i h1 h2;cases h1;done)|skip
   rename_i c i' hco heq;cases heq;split at hm;rename_i f uQ;simp only[Bool.and_eq_true]at hm;obtain⟨hms,hmf⟩:=hm;obtain⟨hR,hC⟩:=hA _ hms;obtain⟨r1,r2⟩:=hR.Qw Fs;refine call f i vs _ True ha r1 (λb=>by rw[<-r2];exact hC b) (by rw[hop];rfl) (λsf h1 h2=>?_) λhF=>?_;rw[h1]at hmf;simpa using hmf;have:=Gz (ρ:=a.eval) hco uQ (show a.eval (.func f)=.func (.func f) #[] #[] from rfl) hF w;rw[this];congr 2;apply Array.ext';simp;cases hm;cases hm
  ·rename_i hop;unfold mOp at hm;rw[Bool.and_eq_true]at hm;replace hm:=hm.2;rw[hop]at hm;split at hm<;>first|(rename_i h1 h2;cases h2;done)|(rename_i h2;cases h2;done)|(rename_i h1 h2;cases h1;done)|skip
   ·rename_i c hco heq;split at hm
    ·rename_i x uQ;obtain⟨hR,hC⟩:=hA _ hm;cases Fu:mF .qW (so.args.map (AJ η)) with
     |none=>rw[Fu]at ha;simp[fN]at ha|some y=>
      rw[Fu]at ha;obtain⟨f,first,lC,l,vs,RR,Fs,rfl⟩:=QC Fu;rw[RR]at hR hC;simp only[List.map_cons]at hR hC;obtain⟨hR0,hRl⟩:=hR;obtain⟨r1,r2⟩:=kX.Qw hRl Fs;simp only[kF]at hR0;generalize J0:a.eval x=xv at hR0 hC;cases hR0 with
      |fn _ _ _ vf vc hl hm' hn hh Kc=>
      refine call f f (first++vs++lC) (vf.toList++c.args.toList.map a.eval++vc.toList) True ha ((cn.append ⟨by simpa using hl,λi c v e1 e2=>hh i c v e1 (by simpa using e2)⟩ r1).append ⟨by simpa using hm',λi c v e1 e2=>Kc i c v e1 (by simpa using e2)⟩) (λb=>?_) (by rw[hop];rfl) (λsf h1 h2=>h2 hn.2.2) λhF=>?_;rw[fK b _ _ _ _ (by simp only[List.length_append,hl,r1.1];simp),fK b _ _ _ _ (by simpa using hl),dy b _ _ hn.1,dy b _ _ hn.2.1];have h2:=hC b;have h3:=r2 b;simp only[mm]at h2;omega;have:=Gz (ρ:=a.eval) hco uQ J0 hF w;rw[this];congr 2;apply Array.ext';simp
    cases hm
   cases hm
  exact plain ha
end
end Ax
namespace Ax
open Go
variable {P:Program}{w w':World}{G G':aQ}{β gw:List mS}
variable {S:Nat->Option aD}{O:j4}{a:Act}{bx:aX}{st:ai}{n wl J:Nat}{s s':St}{η:Nat->eO}
abbrev FT(w:World)(G:aQ)(β:List mS)(a:Act)(s:St)(n:Nat):Prop:=FS w G β a (cK s.env) s.bx s.st n
abbrev gy(β:List mS)(a:Act)(s:St)(G:aQ)(n:Nat):Nat->Nat:=vG β a (cK s.env) s.bx s.st G n
theorem FS.congr{RT:Nat->eO}(h:FS w G β a η bx st n)(he:∀t,RT t=η t):FS w G β a RT bx st n:=by
 have:RT=η:=funext he;rw[this];exact h
theorem FS.SZ{RT:Nat->eO}(h:FS w G β a η bx st n)(he:∀t,RT t=η t\/RT t=.none):FS w G β a RT bx st n/\∀b,vG β a RT bx st G n b<=vG β a η bx st G n b:=by
 refine⟨⟨h.Kq,h.size,λt=>?_,λt ht=>?_,h.inv,h.box⟩,λb=>?_⟩;rcases he t with e|e;rw[e];exact h.uD t;rw[e];trivial;rcases he t with e|e;rw[e];exact h.lt t ht;exact e;unfold vG;have:=CW (f:=λt=>cx b (RT t) (lJ a t)) (g:=λt=>cx b (η t) (lJ a t)) (n:=n) λt _=>by
  rcases he t with e|e;rw[e];exact Nat.le_refl _;rw[e];simp[cx]
 omega
theorem j9(env:pU)(dst:Option Nat)(e:eO):cK (xZ env dst e)=ko (cK env) dst e:=by
 funext t;cases dst with
 |none=>simp[xZ,ko]|some d=>
  simp only[xZ,ko,wA,Option.some.injEq];by_cases h:t=d;rw[if_pos h,if_pos h.symm];rw[if_neg h,if_neg λe=>h e.symm]
theorem uZ(env:pU)(ss:List Src):cK (ss.foldl mE env)=jE (cK env) (qw ss):=by
 funext t;rw[uc]
 rfl
theorem QD{cN:Array Oper}{o:Oper}{so:aY}{Q:Exit->Act->World->Prop}{i:Nat}(hi:cN[i]?=some o)(hm:Gy S P cN n o so=true)(hO:jP S P O)(hs:FT w G β a s n)(h1:∀b,gy β a s G n b<=1){K:Act->World->Prop}
  (he:gO O wl J so s=some s')(hK:∀(w':World)(G':aQ)(gw:List mS)(a':Act),FT w' G' gw a' s' n->Mv w G (gy β a s G n) w' G' (gy gw a' s' G' n)->K a' w'):wpOp P cN Q i K a w:=by
 unfold gO at he;rw[Gw]at he;split at he;cases he;rename_i hw;cases he;refine Ol (wl:=wl) (J:=J) hi hm hO hs h1 hw (λ_ a' f1 f2=>?_) (λh=>by cases h);refine hK w G β a' ?_ ?_;rw[FT,j9];exact f1;rw[show gy β a' { s with env:=xZ s.env so.dst (.val .undef) } G n=vG β a' (ko (cK s.env) so.dst (.val .undef)) s.bx s.st G n by rw[gy,j9]];exact f2;rename_i hw;have yf:so.args.map (JN s.env)=so.args.map (AJ (cK s.env)):=List.map_congr_left λx _=>CY s.env x;rw[yf]at he;split at he;cases he;rename_i e st' fH ha;have mM:∀(w':World) (G':aQ) (gw:List mS) (a':Act),s'=⟨xZ (so.args.foldl mE s.env) so.dst e,fH,st'⟩->FS w' G' gw a' (ko (jE (cK s.env) (qw so.args)) so.dst e) fH st' n->
   Mv w G (vG β a (cK s.env) s.bx s.st G n) w' G' (vG gw a' (ko (jE (cK s.env) (qw so.args)) so.dst e) fH st' G' n)->K a' w':=by
  intro w' G' gw a' ME f1 f2;subst ME;refine hK w' G' gw a' ?_ ?_;rw[FT,j9,uZ];exact f1;rw[show gy gw a' ⟨xZ (so.args.foldl mE s.env) so.dst e,fH,st'⟩ G' n=vG gw a' (ko (jE (cK s.env) (qw so.args)) so.dst e) fH st' G' n by rw[gy,j9,uZ]];exact f2
 split at he;rename_i Wz;cases he;exact Ol hi hm hO hs h1 hw (λh=>by cases h) λ_=>⟨e,st',fH,ha,(λj hj=>by rw[Wz]at hj;cases hj),λw' G' gw a' f1 f2=>mM w' G' gw a' rfl f1 f2⟩;rename_i j Wz;split at he;rename_i Qj;cases he;refine Ol hi hm hO hs h1 hw (λh=>by cases h) λ_=>⟨e,st',fH,ha,λj' hj t Oi ht2=>?_,λw' G' gw a' f1 f2=>mM w' G' gw a' rfl f1 f2⟩;rw[Wz]at hj;cases hj;have:=DT Qj t;rw[j9,uZ]at this;simp only[ko,jE]at this;rw[if_neg Oi,if_neg ht2]at this;exact this;cases he
def rD(S:Nat->Option aD)(P:Program)(cN:Array Oper)(n:Nat):List Oper->List aY->Bool
 |[],[]=>true|o::l,so::m=>Gy S P cN n o so&&rD S P cN n l m|_,_=>false
theorem DZ{cN:Array Oper}{Q:Exit->Act->World->Prop}(hO:jP S P O):∀(l:List Oper)(m:List aY)(k:Nat)(w:World)(G:aQ)(β:List mS)(a:Act)(s:St),cN.toList.drop k=l->rD S P cN n l m=true->
  FT w G β a s n->(∀b,gy β a s G n b<=1)->fB O wl J m s=some s'->(∀(w':World) (G':aQ) (gw:List mS) (a':Act),FT w' G' gw a' s' n->Mv w G (gy β a s G n) w' G' (gy gw a' s' G' n)->Q .normal a' w')->
  wpOps P cN Q (List.range' k l.length) a w
 |[],[],k,w,G,β,a,s,hl,hm,hs,h1,he,hQ=>by
  simp only[fB,Option.some.injEq]at he;subst he;simp only[List.length_nil,List.range'_zero,wpOps];exact hQ w G β a hs (Mv.refl h1)
 |o::l,so::m,k,w,G,β,a,s,hl,hm,hs,h1,he,hQ=>by
  simp only[rD,Bool.and_eq_true]at hm;simp only[fB]at he;split at he;rename_i s1 xy;simp only[List.length_cons,List.range'_succ];rw[wpOps_cons];have hi:cN[k]?=some o:=by
   have:(cN.toList.drop k)[0]?=some o:=by rw[hl];rfl
   rw[List.getElem?_drop]at this;simpa using this
  refine QD hi hm.1 hO hs h1 xy λw1 G1 β1 a1 f1 f2=>?_;refine DZ hO l m (k+1) w1 G1 β1 a1 s1 ?_ hm.2 f1 f2.one he λw2 G2 S1 a2 g1 g2=>hQ w2 G2 S1 a2 g1 (f2.trans g2);rw[show k+1=k+1 from rfl,<-List.drop_drop,hl]
  rfl
  cases he
 |[],_::_,_,_,_,_,_,_,_,hm,_,_,_,_=>by simp[rD]at hm|_::_,[],_,_,_,_,_,_,_,hm,_,_,_,_=>by simp[rD]at hm
def yP(P:Program):List ResultVar->List kD->Bool
 |[],[]=>true|.tmp t::l,.tmp u _::m=>t==u&&yP P l m|.cell t ty::l,.box u _ n agg::m=>t==u&&cy P ty n&&nG P ty==some agg&&(agg||n==1)&&yP P l m|.cell t ty::l,.cell u n agg::m=>t==u&&cy P ty n&&nG P ty==some agg&&(agg||n==1)&&yP P l m|_,_=>false
def p8:List kD->List Nat
 |[]=>[]
 |.tmp t true::l=>t::p8 l|_::l=>p8 l
def D0:List kD->List Nat
 |[]=>[]
 |.box _ j _ _::l=>j::D0 l|_::l=>D0 l
end Ax
namespace Ax
open Go
variable {P:Program}{w w':World}{G G':aQ}{β gw:List mS}
variable {a:Act}{bx:aX}{st:ai}{n:Nat}{s:St}
def D1(tmps:Array Value):ResultVar->Sem Value
 |.tmp t=>pure (tmps.getD t undef)|.cell c t=>do loadVar t (<-asAddr (tmps.getD c undef))
def QE(us:List Value):Value:=match us with | [u]=>u|_=>.tuple us.toArray
theorem Kv{fn:Func}{tmps:Array Value}{us:List Value}(h:(fn.results.toList.mapM (D1 tmps)).run P w=.ok us w):(results fn tmps).run P w=.ok (QE us) w:=by
 have h2:(fn.results.mapM (D1 tmps)).run P w=.ok us.toArray w:=by
  have e:fn.results.mapM (D1 tmps)=List.toArray <$> fn.results.toList.mapM (D1 tmps):=by
   rw[Array.mapM_eq_mapM_toList]
  rw[e,map_eq_pure_bind,Sem.run_bind,h]
  rfl
 have e3:results fn tmps=(fn.results.mapM (D1 tmps)).bind λvs=>Pure.pure (if h:vs.size=1 then vs[0] else .tuple vs):=rfl;rw[e3];show Sem.run P (fn.results.mapM (D1 tmps) >>= λvs=>Pure.pure (if h:vs.size=1 then vs[0] else .tuple vs)) w=_;rw[Sem.run_bind,h2];simp only[Result.andThen_ok,Sem.run_pure];congr 1;match us with
 |[]=>simp[QE]|[u]=>simp[QE]|_::_::_=>simp[QE]
def ue(b:Nat)(β:List mS)(bx:aX)(j:Nat):Nat:=match β[j]?,bx[j]? with|some g,some r=>bU b r g.vals|_,_=>0
theorem Kw(b:Nat):∀(β:List mS)(bx:aX),gq (ue b β bx) bx.length<=fR b β bx
 |β,[]=>by simp[gq]|[],r::bx=>by
  have:gq (ue b [] (r::bx)) (r::bx).length=gq (λ_=>0) (r::bx).length:=oI λt _=>by simp[ue]
  rw[this,Gr];omega
 |g::β,r::bx=>by
  have ih:=Kw b β bx;have shift:∀m,gq (ue b (g::β) (r::bx)) (m+1)=ue b (g::β) (r::bx) 0+gq (ue b β bx) m:=by
   intro m;induction m with
   |zero=>simp[gq]|succ m ih=>
    have:gq (ue b (g::β) (r::bx)) (m+1+1)=gq (ue b (g::β) (r::bx)) (m+1)+ue b (g::β) (r::bx) (m+1):=rfl;rw[this,ih];have e:ue b (g::β) (r::bx) (m+1)=ue b β bx m:=(by simp[ue]);rw[e];simp only[gq];omega
  simp only[List.length_cons];rw[shift];have e:ue b (g::β) (r::bx) 0=bU b r g.vals:=by simp[ue]
  rw[e];simp only[fR];omega
theorem cn.cons{a:AV}{as:List AV}{x:Value}{xs:List Value}(h:aS w G a x)(k:cn w G as xs):cn w G (a::as) (x::xs):=
 ⟨by simp[k.1],λi c v e1 e2=>by
  cases i with
  |zero=>simp at e1 e2;subst e1;subst e2;exact h|succ i=>exact k.2 i c v (by simpa using e1) (by simpa using e2)⟩
theorem B1{t:TypeId}{n:Nat}{agg:Bool}(hn:cy P t n=true)(tF:nG P t=some agg){b off:Nat}{xs:List Value}(hlen:xs.length=n)(mz:agg=false->n=1)
  (hc:∀(j:Nat) x,xs[j]?=some x->w.cell? ⟨b,off+j,none⟩=some x):(loadVar t ⟨b,off,none⟩).run P w=.ok (if agg then .agg xs.toArray else xs.headD undef) w:=by
 have:=Dz (P:=P) hn tF hlen mz hc;simpa [Instr.loadAt,Instr.sureAddr] using this
theorem GA(hs:FT w G β a s n):∀(l:List ResultVar)(rs:List kD)(vs:List AV),yP P l rs=true->yG s rs=some vs->
  ∃us,(l.mapM (D1 a.tmps)).run P w=.ok us w/\cn w G vs us/\∀b,bU b vs us<=p7 (λt=>cx b (cK s.env t) (lJ a t)) (p8 rs)+p7 (ue b β s.bx) (D0 rs)
 |[],[],vs,_,hr=>by
  simp only[yG,Option.some.injEq]at hr;subst hr;exact⟨[],rfl,⟨rfl,λi c v h=>by simp at h⟩,λb=>by simp[bU]⟩
 |x::l,r::rs,vs,hm,hr=>by
  simp only[yG]at hr;split at hr;rename_i v vs' FL hr2;cases hr;have one:∃u,(D1 a.tmps x).run P w=.ok u w/\aS w G v u/\yP P l rs=true/\∀b,fG b v u+(p7 (λt=>cx b (cK s.env t) (lJ a t)) (p8 rs)+p7 (ue b β s.bx) (D0 rs))<=
    p7 (λt=>cx b (cK s.env t) (lJ a t)) (p8 (r::rs))+p7 (ue b β s.bx) (D0 (r::rs)):=by
   cases x with
   |tmp t=>
    cases r with
    |tmp u mv=>
     simp only[yP,Bool.and_eq_true,beq_iff_eq]at hm;obtain⟨rfl,hm⟩:=hm;simp only[Dn]at FL;rw[CY]at FL;split at FL;rename_i v' hv;cases FL;have FK:=hs.uD t;refine⟨lJ a t,by simp[D1],?_,hm,λb=>?_⟩;cases mv with
     |true=>simp only[AJ]at hv;rw[hv]at FK;exact FK|false=>have:=FK.aa;simp only[AJ]at hv;rw[hv]at this;exact this
     cases mv with
     |true=>simp only[AJ]at hv;simp only[p8,D0,p7,hv,cx];omega|false=>
      simp only[AJ]at hv;have h0:=Gf b (cK s.env t) (lJ a t);rw[hv]at h0;simp only[cx]at h0;simp only[p8,D0];omega
     cases FL
    |box u j m agg=>simp[yP]at hm|cell u m agg=>simp[yP]at hm
   |cell t ty=>
    cases r with
    |tmp u mv=>simp[yP]at hm|box u j m agg=>
     simp only[yP,Bool.and_eq_true,beq_iff_eq]at hm;obtain⟨⟨⟨⟨rfl,hn⟩,tF⟩,mz⟩,hm⟩:=hm;simp only[Dn]at FL;split at FL;rename_i i aG Qj dj;split at FL;rename_i Cr;simp only[Bool.and_eq_true,decide_eq_true_eq]at Cr;obtain⟨rfl,hlen⟩:=Cr;have hp:=hs.uD t;rw[Qj]at hp;obtain⟨g,b0,c,e,hg,fD,MF,vO,fj,hle,iC,dF⟩:=Ia hs.box hp dj;obtain⟨u,hu,k1,k2,_⟩:=CP FL vO.uD;have hl:=B1 (P:=P) hn tF (by rw[<-vO.uD.1];exact hlen) (λh=>by subst h;simpa using mz) (b:=b0) (off:=0) (λj x hx=>by rw[Nat.zero_add];exact dF j x hx);refine⟨u,?_,k1,hm,λb=>?_⟩;simp only[D1,Sem.run_bind];rw[show a.tmps.getD t undef=.pointer (some ⟨b0,0,none⟩) from MF];simp only[asAddr,Sem.run_pure,Result.andThen_ok,hl,hu];rw[k2 b];simp only[p8,D0,p7,ue,hg,dj];omega;cases FL;cases FL
    |cell u m agg=>
     simp only[yP,Bool.and_eq_true,beq_iff_eq]at hm;obtain⟨⟨⟨⟨rfl,hn⟩,tF⟩,mz⟩,hm⟩:=hm;simp only[Dn]at FL;split at FL;rename_i p Xi;split at FL;rename_i cs DK;have hp:=hs.uD t;rw[Xi]at hp;obtain⟨b0,off,xs,g1,g2,g3,g4⟩:=J4 hs.inv DK hp;obtain⟨u,hu,k1,k2,_⟩:=CP FL g3.aa;have hl:=B1 (P:=P) hn tF g2 (λh=>by subst h;simpa using mz) g4;refine⟨u,?_,k1,hm,λb=>?_⟩;simp only[D1,Sem.run_bind];rw[show a.tmps.getD t undef=.pointer (some ⟨b0,off,none⟩) from g1];simp only[asAddr,Sem.run_pure,Result.andThen_ok,hl,hu];rw[k2 b,dy b _ _ (gf cs)];simp only[p8,D0];omega;cases FL;cases FL
  obtain⟨u,h1,h2,h3,h4⟩:=one;obtain⟨us,k1,k2,k3⟩:=GA hs l rs vs' h3 hr2;refine⟨u::us,?_,cn.cons h2 k2,λb=>?_⟩;rw[List.mapM_cons];simp only[Sem.run_bind,h1,Result.andThen_ok,k1,Sem.run_pure];have e1:=h4 b;have e2:=k3 b;simp only[bU];omega;cases hr
 |[],_::_,_,hm,_=>by simp[yP]at hm|x::_,[],_,hm,_=>by cases x<;>simp[yP]at hm
end Ax
namespace Ax
open Go
section
variable {K V:Type}
def pI(init:K->V)(zg:Nat->K->Option V)(D:Nat->Bool):Nat->K->V
 |0,x=>init x|k+1,x=>if D k then (zg k x).getD (pI init zg D k x) else pI init zg D k x
variable {init:K->V}{zg:Nat->K->Option V}
theorem nk{D D':Nat->Bool}{x:K}:∀{N:Nat},(∀k,k<N->D k≠D' k->zg k x=none)->pI init zg D N x=pI init zg D' N x
 |0,_=>rfl|N+1,h=>by
  have ih:=nk (N:=N) λk hk=>h k (by omega);have hN:=h N (by omega);simp only[pI,ih];cases h1:D N<;>cases h2:D' N
  rfl
  rw[hN (by rw[h1,h2];simp)];simp;rw[hN (by rw[h1,h2];simp)];simp
  rfl
theorem A4{D:Nat->Bool}{x:K}{j:Nat}:∀{N:Nat},j<=N->(∀k,j<=k->k<N->D k=true->zg k x=none)->pI init zg D N x=pI init zg D j x
 |0,hj,_=>by
  have:j=0:=by omega
  subst this;rfl
 |N+1,hj,h=>by
  by_cases hjN:j=N+1;subst hjN;rfl;have ih:=A4 (N:=N) (j:=j) (by omega) λk h1 h2=>h k h1 (by omega);simp only[pI];cases hD:D N;simpa using ih;rw[h N (by omega) (by omega) hD];simpa using ih
theorem Kx{D D':Nat->Bool}{x:K}{j N:Nat}(hj:j<N)(hD:D j=false)(hD':∀k,D' k=if k=j then true else D k)(h:∀k,j<k->k<N->D k=true->zg j x≠none->zg k x=none) :
  pI init zg D' N x=(zg j x).getD (pI init zg D N x):=by
 cases he:zg j x with
 |none=>
  simp only[Option.getD_none];refine nk λk hk iR=>?_;have:=hD' k;by_cases hkj:k=j;subst hkj;exact he;rw[if_neg hkj]at this;exact absurd this iR
 |some v=>
  simp only[Option.getD_some];have h1:pI init zg D' N x=pI init zg D' (j+1) x:=A4 (by omega) λk h1 h2 h3=>by
   refine h k (by omega) h2 ?_ (by rw[he];simp);have:=hD' k;rw[if_neg (by omega)]at this;rw[<-this];exact h3
  rw[h1];have hjj:D' j=true:=by rw[hD' j,if_pos rfl]
  simp only[pI,hjj,if_true,he,Option.getD_some]
theorem A5{st:Nat->K->V}{N:Nat}(h0:∀x,st 0 x=init x)(hs:∀k,k<N->∀x,st (k+1) x=(zg k x).getD (st k x)):∀{j:Nat},j<=N->∀x,pI init zg (λk=>decide (k<j)) N x=st j x:=by
 have key:∀m,m<=N->∀x,pI init zg (λ_=>true) m x=st m x:=by
  intro m;induction m with
  |zero=>intro _ x;exact(h0 x).symm|succ m ih=>
   intro hm x;simp only[pI,if_true];rw[ih (by omega) x,hs m (by omega) x]
 intro j hj x;rw[A4 (j:=j) hj λk h1 h2 h3=>by simp at h3;omega];rw[nk (D':=λ_=>true) λk hk iR=>by simp[hk]at iR];exact key j hj x
end
end Ax
namespace Ax
open Go
def ir.pV(S:Nat->Option aD):ir->Bool
 |.Qc .. | .alloc _|.box _|.store _|.kh .. | .sC .. | .makeMap|.mapUpdate _|.pW _|.copy _|.qW=>true|.load _ _ take=>take|.qV _ _ _ mt=>mt|.call f=>match S f with|some sf=>(match sf.mode with|.pure=>false|_=>true)|none=>true
 |_=>false
def ir.MS:ir->Bool
 |.move|.pick|.aJ _|.BH .. | .un _|.conv _|.yF _|.nilCheck|.extract _|.field .. | .build .. | .lit .. | .fieldAddr _|.index|.aL .. | .aj .. | .aN .. | .iA .. | .append .. | .makeFunc .. | .zm .. | .Qd=>true|.qV _ _ _ mt=>!mt|_=>false
def ir.bA:ir->Option Nat
 |.aL j _ _ _|.aj j _|.aN j _|.iA j _=>some j|_=>none
def ir.bW:ir->Option Nat
 |.aL j _ _ take=>if take then some j else none
 |.aj j _|.aN j _|.iA j _=>some j|_=>none
variable {wl J:Nat}{st st':ai}{bx fH:aX}{vals:List eO}{e:eO}{S:Nat->Option aD}{O:j4}{op:ir}
theorem S2(hw:op.pV S=false)(h:aP wl J op vals st bx=some (e,st',fH)):st'=st:=by
 cases op
 case load agg n take=>
  simp only[ir.pV]at hw;subst hw;unfold aP at h;simp only[Bool.false_eq_true,if_false]at h;repeat' split at h
  all_goals first|(cases h;rfl)|cases h
 case qV sz bytes zero mt=>
  simp only[ir.pV]at hw;subst hw;unfold aP at h;simp only[Bool.false_eq_true,if_false]at h;repeat' split at h
  all_goals first|(cases h;rfl)|cases h
 all_goals first
  |(simp[ir.pV]at hw;done)
  |(unfold aP at h;simp only at h;repeat' split at h)
 all_goals first|(cases h;rfl)|cases h
theorem S3(hn:op.MS=true)(qg:ai):aP wl J op vals qg bx=(aP wl J op vals st bx).map λx=>(x.1,qg,x.2.2):=by
 cases op
 case qV sz bytes zero mt=>
  simp only[ir.MS,Bool.not_eq_true']at hn;subst hn;unfold aP;simp only[Bool.false_eq_true,if_false];repeat' split
  all_goals rfl
 all_goals first
  |(simp[ir.MS]at hn;done)
  |(unfold aP;(try unfold xY);simp only;repeat' split)
 all_goals first|rfl|simp_all
theorem Ky(hb:op.bA=none)(yQ:aX):aP wl J op vals st yQ=(aP wl J op vals st bx).map λx=>(x.1,x.2.1,yQ):=by
 cases op;all_goals first
  |(simp[ir.bA]at hb;done)
  |(unfold aP;(try unfold xY);simp only;repeat' split)
 all_goals first|rfl|simp_all
structure B2 (S:Nat->Option aD)(O:j4):Prop where
 call:∀wl J f args st v st' sf,O.call wl J f args st=some (v,st')->S f=some sf->sf.mode=.pure->st'=st
theorem Kz(S:Nat->Option aD)(n:Nat):B2 S (pY S n):=by
 refine⟨λwl J f args st v st' sf h hS hm=>?_⟩;cases n with
 |zero=>simp[pY]at h|succ n=>
  simp only[pY,hS]at h;unfold eA at h;split at h;simp only[Option.map_eq_some_iff]at h;obtain⟨x,_,hx⟩:=h;cases hx
  rfl
  unfold dh at h;split at h;split at h;split at h;rw[hm]at h;simp only[Mode.mM]at h;split at h;cases h;rfl;cases h;cases h;cases h;cases h
theorem Om(hO:B2 S O)(hw:op.pV S=false)(h:tC O wl J op vals st bx=some (e,st',fH)):st'=st:=by
 unfold tC at h;split at h;rename_i f;simp only[ir.pV]at hw;split at hw;rename_i sf hsf;split at hw;rename_i hm;unfold fN at h;split at h;rename_i f' vs hc;have hf:f'=f:=by
  simp only[mF]at hc;split at hc;cases hc;rfl;cases hc
 subst hf;split at h;rename_i eF;cases h;exact hO.call _ _ _ _ _ _ _ _ eF hsf hm;cases h;cases h;cases hw;cases hw;simp[ir.pV]at hw;exact S2 hw h
theorem Xy(hn:op.MS=true)(qg:ai)(h:tC O wl J op vals st bx=some (e,st',fH)):tC O wl J op vals qg bx=some (e,qg,fH):=by
 unfold tC at h ⊢;split at h;simp[ir.MS]at hn;simp[ir.MS]at hn;rename_i h1 h2;rw[S3 hn qg,h];rfl
theorem Ii(hb:op.bA=none)(yQ:aX)(h:tC O wl J op vals st bx=some (e,st',fH)):fH=bx/\tC O wl J op vals st yQ=some (e,st',yQ):=by
 have call:∀x,fN O wl J x st bx=some (e,st',fH)->fH=bx/\fN O wl J x st yQ=some (e,st',yQ):=by
  intro x h;unfold fN at h ⊢;split at h;rename_i f vs;cases hc:O.call wl J f vs st with
  |none=>rw[hc]at h;cases h|some y=>rw[hc]at h;cases h;exact⟨rfl,rfl⟩
  cases h
 unfold tC at h ⊢;split at h;exact call _ h;exact call _ h;rename_i h1 h2;have e1:=Ky (wl:=wl) (J:=J) (vals:=vals) (st:=st) (bx:=bx) hb bx;rw[h]at e1;simp only[Option.map_some,Option.some.injEq,Prod.mk.injEq,true_and]at e1;refine⟨e1,?_⟩;rw[Ky hb yQ,h];rfl
theorem KA{yQ:aX}(hl:yQ.length=bx.length)(ha:∀b,op.bA=some b->yQ[b]?=bx[b]?)(h:tC O wl J op vals st bx=some (e,st',fH)) :
  ∃Xz,tC O wl J op vals st yQ=some (e,st',Xz)/\fH.length=bx.length/\Xz.length=yQ.length/\(∀b,op.bW=some b->Xz[b]?=fH[b]?)/\(∀b,op.bW≠some b->Xz[b]?=yQ[b]?)/\(∀b,op.bW≠some b->fH[b]?=bx[b]?):=by
 cases hb:op.bA with
 |none=>
  obtain⟨rfl,e2⟩:=Ii hb yQ h;refine⟨yQ,e2,rfl,rfl,λb h=>?_,λ_ _=>rfl,λ_ _=>rfl⟩;cases op<;>simp_all [ir.bA,ir.bW]
 |some j=>
  have hj:=ha j hb;have Oo:∀(aG:List AV),j<bx.length->(bx.set j aG).length=bx.length/\(yQ.set j aG).length=yQ.length/\(yQ.set j aG)[j]?=(bx.set j aG)[j]?/\(∀b,j≠b->(yQ.set j aG)[b]?=yQ[b]?)/\(∀b,j≠b->(bx.set j aG)[b]?=bx[b]?):=by
   intro aG bw;refine⟨by simp,by simp,?_,λb hb=>?_,λb hb=>?_⟩;rw[List.getElem?_set,List.getElem?_set,if_pos rfl,if_pos rfl,if_pos bw,if_pos (by omega)];rw[List.getElem?_set,if_neg hb];rw[List.getElem?_set,if_neg hb]
  cases op<;>simp only[ir.bA]at hb<;>try cases hb
  case some.aL.refl agg n take=>
   simp only[tC]at h ⊢;unfold aP at h ⊢;simp only at h ⊢;split at h;rename_i j' k;split at h;rename_i hjj;subst hjj;split at h;rename_i aG dj;have bw:=(List.getElem?_eq_some_iff.1 dj).1;rw[if_pos rfl,hj,dj];simp only;split at h;rename_i cs SL;cases take with
   |true=>
    simp only[if_true]at h ⊢;split at h;rename_i v hv;cases h;obtain⟨a1,a2,a3,a4,a5⟩:=Oo (ah aG k (cs.map AV.kQ)) bw;exact⟨_,rfl,a1,a2,λb hb=>by simp[ir.bW]at hb;subst hb;exact a3,λb hb=>a4 b (by simpa [ir.bW] using hb),λb hb=>a5 b (by simpa [ir.bW] using hb)⟩;cases h
   |false=>
    simp only[Bool.false_eq_true,if_false]at h ⊢;split at h;rename_i v hv;cases h;exact⟨_,rfl,rfl,rfl,λb hb=>by simp[ir.bW]at hb,λ_ _=>rfl,λ_ _=>rfl⟩;cases h
   cases h;cases h;cases h;cases h
  case some.aj.refl n=>
   simp only[tC]at h ⊢;unfold aP at h ⊢;simp only at h ⊢;split at h;rename_i j' k v;split at h;rename_i hc;have hjj:j=j':=(by simp only[Bool.and_eq_true,decide_eq_true_eq]at hc;exact hc.1.1);split at h;rename_i aG dj;have bw:=(List.getElem?_eq_some_iff.1 dj).1;rw[if_pos hc,hj,dj];simp only;split at h;rename_i cI;cases h;rw[if_pos cI];obtain⟨a1,a2,a3,a4,a5⟩:=Oo (ah aG k v.cells) bw;exact⟨_,rfl,a1,a2,λb hb=>by simp[ir.bW]at hb;subst hb;exact a3,λb hb=>a4 b (by simpa [ir.bW] using hb),λb hb=>a5 b (by simpa [ir.bW] using hb)⟩;cases h;cases h;cases h;cases h
  case some.aN.refl zero=>
   simp only[tC]at h ⊢;unfold aP at h ⊢;simp only at h ⊢;split at h;split at h;rename_i bw;cases h;rw[if_pos (by omega)];obtain⟨a1,a2,a3,a4,a5⟩:=Oo zero bw;exact⟨_,rfl,a1,a2,λb hb=>by simp[ir.bW]at hb;subst hb;exact a3,λb hb=>a4 b (by simpa [ir.bW] using hb),λb hb=>a5 b (by simpa [ir.bW] using hb)⟩;cases h;cases h
  case some.iA.refl n=>
   simp only[tC]at h ⊢;unfold aP at h ⊢;simp only at h ⊢;split at h;rename_i v;split at h;rename_i hc;have Wu:=hc;simp only[Bool.and_eq_true,decide_eq_true_eq]at Wu;cases h;rw[if_pos (by simp only[Bool.and_eq_true,decide_eq_true_eq];exact⟨⟨by omega,Wu.1.2⟩,Wu.2⟩)];obtain⟨a1,a2,a3,a4,a5⟩:=Oo v.cells Wu.1.1;exact⟨_,rfl,a1,a2,λb hb=>by simp[ir.bW]at hb;subst hb;exact a3,λb hb=>a4 b (by simpa [ir.bW] using hb),λb hb=>a5 b (by simpa [ir.bW] using hb)⟩;cases h;cases h
theorem abK{b:Nat}(h:tC O wl J op vals st bx=some (e,st',fH))(hv:∀x∈vals,x.pB b=true)(hn:op.b8≠some b):e.pB b=true:=by
 have call:∀x,fN O wl J x st bx=some (e,st',fH)->e.pB b=true:=by
  intro x h;unfold fN at h;repeat' split at h
  all_goals first|(cases h;rfl)|cases h
 have val:∀a:AV,(eO.val a).pB b=true:=λ_=>rfl;unfold tC at h;split at h;exact call _ h;exact call _ h
 ·cases op
  case move=>
   unfold aP at h;simp only at h;split at h;cases h;exact hv _ (by simp);cases h
  case pick=>
   unfold aP at h;simp only at h;split at h;rename_i c x y;cases h;cases c;exact hv _ (by simp);exact hv _ (by simp);cases h
  case nilCheck=>
   unfold aP at h;simp only at h;split at h;cases h;exact hv _ (by simp);split at h<;>first|(cases h;rfl)|cases h
   cases h
  case fieldAddr off=>
   unfold aP at h;simp only at h;split at h;rename_i j k;cases h;have:=hv (.fp j k) (by simp);simpa [eO.pB] using this;cases h;rfl;cases h;rfl;cases h
  case aN j zero=>
   unfold aP at h;simp only at h;split at h;split at h;cases h;simp only[ir.b8,ne_eq,Option.some.injEq]at hn;simpa [eO.pB] using hn;cases h;cases h
  case iA j n=>
   unfold aP at h;simp only at h;split at h;split at h;cases h;simp only[ir.b8,ne_eq,Option.some.injEq]at hn;simpa [eO.pB] using hn;cases h;cases h
  all_goals
   unfold aP at h
   (try unfold xY at h)
   simp only at h;repeat' split at h
  all_goals first|(cases h;rfl)|cases h
end Ax
namespace Ax
open Go
def oK(o:Oper):List Nat:=(o.after.toList.filter (Region.binds .any)).map (·.on)
def bms:List Oper->List Nat->List Nat
 |[],acc=>acc|o::l,acc=>bms l (acc++[(oK o).foldl (λm p=>m ||| (1 <<< p) ||| acc.getD p 0) 0])
def bef(bm:List Nat)(i j:Nat):Bool:=(bm.getD j 0).testBit i
def rE(so:aY):List Nat:=so.dst.toList++qw so.args
def XA:List Src->List Nat
 |[]=>[]
 |.tmp t _::l=>t::XA l|_::l=>XA l
def yR(so:aY):List Nat:=XA so.args++(match so.guard with|some (t,_)=>[t]|none=>[])
def kZ(S:Nat->Option aD)(bG:List (Nat×Nat))(i j:Nat)(a b:aY):Bool:=
 (rE a).all (λt=>!(yR b).contains t && !(rE b).contains t)&&(rE b).all (λt=>!(yR a).contains t) &&
 (match a.op.bW with|some x=>b.op.bA != some x|none=>true)&&(match b.op.bW with|some x=>a.op.bA != some x|none=>true) &&
 (!(a.op.pV S&&b.op.pV S)||bG.contains (100000+i,j))&&(a.op.MS || !(b.op.pV S)||a.op.pV S||bG.contains (i,j))&&(b.op.MS || !(a.op.pV S)||b.op.pV S||bG.contains (j,i))
def D2(n:Nat)(f:Nat->Nat->Bool):Bool:=(List.range n).all λj=>(List.range j).all λi=>f i j
def CZ:ir->Bool
 |.store _=>true|_=>false
def aas(S:Nat->Option aD)(m:List aY)(bG:List (Nat×Nat)):Nat×Nat->Bool
 |(c,q)=>if 100000<=c&&decide (c<200000) then
   let p:=c-100000
   (match m[p]?,m[q]? with|some a,some b=>CZ a.op&&CZ b.op&&a.guard.isNone&&b.guard.isNone|_,_=>false) &&
   decide (p<q)&&(List.range (q-p-1)).all (λd=>match m[p+1+d]? with|some o=>!(o.op.pV S)|none=>false) &&
   bG.all (λx=>decide (100000<=x.1) || !(x.2==p||x.2==q)||bG.contains (100000*(x.1+2)+p,q)) &&
   bG.all (λx=>!(decide (100000<=x.1)&&decide (x.1<200000))||(x.1==c&&x.2==q))
  else true
def Oq(S:Nat->Option aD)(P:Program)(cN:Array Oper)(n:Nat)(m:List aY)(bG:List (Nat×Nat)):Bool:=
 let bm:=bms cN.toList []
 P.follows .mixedOrders&&rD S P cN n cN.toList m&&(decide (cN.size<100000)&&bG.all (aas S m bG)) &&
 (List.range cN.size).all (λj=>match cN[j]? with
  |some o=>(oK o).all (λp=>decide (p<j))&&(List.range cN.size).all λi=>!bef bm i j||(oK o).any λp=>i==p||bef bm i p
  |none=>true) &&
 D2 cN.size (λi j=>match m[i]?,m[j]? with
  |some a,some b=>(bef bm i j||kZ S bG i j a b)&&(match a.op.b8,b.op.b8 with|some x,some y=>x != y|_,_=>true)|_,_=>true)
theorem wE{n:Nat}{f:Nat->Nat->Bool}(h:D2 n f=true){i j:Nat}(h1:i<j)(h2:j<n):f i j=true:=by
 simp only[D2,List.all_eq_true,List.mem_range]at h;exact h j h2 i h1
end Ax
namespace Ax
open Go
variable {S:Nat->Option aD}{P:Program}{cN:Array Oper}{n:Nat}{m:List aY}{bG:List (Nat×Nat)}
theorem D3:∀{l:List Oper}{m:List aY},rD S P cN n l m=true->l.length=m.length/\∀(i:Nat) o so,l[i]?=some o->m[i]?=some so->Gy S P cN n o so=true
 |[],[],_=>⟨rfl,λi o so h=>by simp at h⟩
 |o::l,so::m,h=>by
  simp only[rD,Bool.and_eq_true]at h;obtain⟨e1,e2⟩:=D3 h.2;refine⟨by simp[e1],λi o' so' h1 h2=>?_⟩;cases i with
  |zero=>simp at h1 h2;subst h1;subst h2;exact h.1|succ i=>exact e2 i o' so' (by simpa using h1) (by simpa using h2)
 |[],_::_,h=>by simp[rD]at h|_::_,[],h=>by simp[rD]at h
def S4(cN:Array Oper)(D:Nat->Bool):Prop:=∀(j:Nat) o,cN[j]?=some o->D j=true->∀p∈oK o,D p=true
structure aat (S:Nat->Option aD)(P:Program)(cN:Array Oper)(n:Nat)(m:List aY)(bG:List (Nat×Nat)):Prop where
 fol:P.follows .mixedOrders=true
 len:m.length=cN.size
 get:∀(i:Nat) o so,cN[i]?=some o->m[i]?=some so->Gy S P cN n o so=true
 lt:∀(j:Nat) o,cN[j]?=some o->∀p∈oK o,p<j
 apA:∀(D:Nat->Bool),S4 cN D->∀(j:Nat) o,cN[j]?=some o->(∀p∈oK o,D p=true)->∀(k:Nat) a b,k<j->D k=false->m[k]?=some a->m[j]?=some b->kZ S bG k j a b=true
 apB:∀(D:Nat->Bool),S4 cN D->∀(j k:Nat) a b,j<k->D j=false->D k=true->m[j]?=some a->m[k]?=some b->kZ S bG j k a b=true
 GB:m.length<100000
 xt:∀p q,p<100000->(100000+p,q)∈bG->p<q/\(∃a b,m[p]?=some a/\m[q]?=some b/\CZ a.op=true/\CZ b.op=true/\a.guard=none/\b.guard=none)/\(∀(j:Nat) o,p<j->j<q->m[j]?=some o->o.op.pV S=false)/\
  (∀k w,(k,w)∈bG->k<100000->w=p\/w=q->(100000*(k+2)+p,q)∈bG)/\∀i j,i<100000->(100000+i,j)∈bG->i=p/\j=q
 aau:∀(i j:Nat) a b x,i<j->m[i]?=some a->m[j]?=some b->a.op.b8=some x->b.op.b8≠some x
theorem S5(h:Oq S P cN n m bG=true):aat S P cN n m bG:=by
 unfold Oq at h;simp only[Bool.and_eq_true,List.all_eq_true,List.mem_range]at h;obtain⟨⟨⟨⟨h1,h2⟩,h5,h6⟩,h3⟩,h4⟩:=h;obtain⟨e1,e2⟩:=D3 h2;have hlen:m.length=cN.size:=by rw[<-e1];simp
 have bw:∀(j:Nat) o,cN[j]?=some o->∀p∈oK o,p<j:=λj o ho p hp=>by
  have:=h3 j (Array.getElem?_eq_some_iff.1 ho).1;rw[ho]at this;simp only[Bool.and_eq_true,List.all_eq_true,decide_eq_true_eq]at this;exact this.1 p hp
 have hcl:∀(D:Nat->Bool),S4 cN D->∀(j:Nat) o,cN[j]?=some o->(∀p∈oK o,D p=true)->∀i,i<cN.size->bef (bms cN.toList []) i j=true->D i=true:=by
  intro D hD j;induction j using Nat.strongRecOn with
  |_ j ih=>
   intro o ho hp i hi hb;have:=h3 j (Array.getElem?_eq_some_iff.1 ho).1;rw[ho]at this;simp only[Bool.and_eq_true,List.all_eq_true,List.mem_range,Bool.or_eq_true,Bool.not_eq_true',List.any_eq_true,beq_iff_eq]at this;rcases this.2 i hi with h5|⟨p,XB,h6⟩;rw[hb]at h5;cases h5;rcases h6 with rfl|h6;exact hp i XB;have hpj:=bw j o ho p XB;have XC:p<cN.size:=(by have:=(Array.getElem?_eq_some_iff.1 ho).1;omega);have hop:cN[p]?=some cN[p]:=(by simp[XC]);exact ih p hpj cN[p] hop (λq hq=>hD p cN[p] hop (hp p XB) q hq) i hi h6
 refine⟨h1,hlen,λi o so ho hso=>e2 i o so (by simpa using ho) hso,bw,λD hD j o ho hp k a b hk hDk ha hb=>?_,λD hD j k a b zI hDj hDk ha hb=>?_,by rw[hlen];simpa using h5,λp q hp Ob=>?_,λi j a b x Cr ha hb hx hy=>?_⟩;have hj:=(Array.getElem?_eq_some_iff.1 ho).1;have:=wE h4 hk hj;rw[ha,hb]at this;simp only[Bool.and_eq_true,Bool.or_eq_true]at this;rcases this.1 with h5|h5;rw[hcl D hD j o ho hp k (by omega) h5]at hDk;cases hDk;exact h5;have hk:k<cN.size:=by rw[<-hlen];exact(List.getElem?_eq_some_iff.1 hb).1
 have:=wE h4 zI hk;rw[ha,hb]at this;simp only[Bool.and_eq_true,Bool.or_eq_true]at this;have XD:cN[k]?=some cN[k]:=by simp[hk]
 rcases this.1 with h5|h5;rw[hcl D hD k cN[k] XD (hD k cN[k] XD hDk) j (by omega) h5]at hDj;cases hDj;exact h5;have:=h6 _ Ob;simp only[aas]at this;rw[if_pos (by simp;omega)]at this;simp only[Nat.add_sub_cancel_left,Bool.and_eq_true,decide_eq_true_eq,List.all_eq_true,List.mem_range,Bool.or_eq_true,Bool.not_eq_true',Bool.or_eq_false_iff,List.contains_eq_mem,Prod.forall,Bool.and_eq_false_iff,beq_iff_eq,beq_eq_false_iff_ne,decide_eq_false_iff_not]at this;obtain⟨⟨⟨⟨t1,t2⟩,t3⟩,t4⟩,t5⟩:=this;refine⟨t2,?_,λj o Mm hj2 ho=>?_,λk w hk se hw=>?_,λi j hi Cr=>?_⟩;split at t1;rename_i a b ha hb;simp only[Bool.and_eq_true,Option.isNone_iff_eq_none]at t1;exact⟨a,b,ha,hb,t1.1.1.1,t1.1.1.2,t1.1.2,t1.2⟩;cases t1;have:=t3 (j-p-1) (by omega);rw[show p+1+(j-p-1)=j by omega,ho]at this;simpa using this;rcases t4 k w hk with (h|h)|h;omega;exfalso;rcases hw with e|e
 exact h.1 e;exact h.2 e;exact h;rcases t5 _ _ Cr with h|h;omega;exact⟨by omega,h.2⟩;have hj:j<cN.size:=by rw[<-hlen];exact(List.getElem?_eq_some_iff.1 hb).1
 have:=wE h4 Cr hj;rw[ha,hb]at this;simp only[Bool.and_eq_true]at this;have h5:=this.2;rw[hx,hy]at h5;simp at h5
end Ax
