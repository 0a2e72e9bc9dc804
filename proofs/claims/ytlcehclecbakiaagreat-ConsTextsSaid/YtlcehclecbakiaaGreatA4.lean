/- Part of a proof. -/
import Derived.Test.YtlcehclecbakiaaGreatA3
import Derived.Orders

open List renaming map_cons→abh,eq_of_mem_replicate→ab7,getElem?_eq_getElem→aao,replicate→aaO,getElem?_take→abZ,length_replicate→ahg,foldl_cons→agL,mem_cons→abY,nodup_cons→aiK,mem_iff_getElem→abe,getElem?_eq_some_iff→aab,all_eq_true→aaS,getElem?_append_left→aaE,getElem?_set→abK,mem_append→abI,mem_of_mem_take→adB,mem_of_mem_drop→aec,nodup_nil→akc,contains_eq_mem→afz,length_cons→abq,range→agK,mem_range→ahc
open Option renaming map_eq_some_iff→abQ,getD_some→aeR,mem_toList→agZ
open Nat renaming le_refl→aaH,le_trans→acF,lt_of_lt_of_le→agu,lt_or_ge→afu,eq_zero_or_pos→agh
open Bool renaming and_eq_true→Ar,false_eq_true→aaq,or_eq_true→abP,not_eq_true'→acg
open Array renaming ext'→ajp,getElem?_eq_some_iff→abN
namespace Ax
open Go
variable {P:Program}{w w':World}{G G':aR}{β gR:List nI}{ρ:Operand->Value}{o:Oper}
variable {S:Nat->Option aA}{so:aC}{vals:List eW}{wl aa:Nat}{st bG:ag}{bx gK:br}{cO:Nat->Nat}{r:eW}
theorem lQ.le{cO cO':Nat->Nat}{v:Value}(h:lQ w G β st bx cO w' G' gR bG gK r v)(hc:∀b,cO b<=cO' b):lQ w G β st bx cO' w' G' gR bG gK r v:=
 { h with gb:=λb=>by have h1:=h.gb b;have h2:=hc b;omega,wR:=λb hb=>h.wR b (by have:=hc b;omega) }
theorem acB{t e:TypeId}{parts:Array (Nat×Operand)}(ho:o.op=.buildSlice t 0 parts)(hu:P.underlying t=some (.slice e)){sz:Nat}(fM:dm P e sz=true)(hp:parts = #[]) :
  (execOp ρ o).run P w=.ok (.value (.slice (some ⟨w.heap.size,0,none⟩) 0 0)) (w.alloc (.cells #[] e)):=by
 obtain⟨i,hi,Gx,_⟩:=nJ fM;subst hp;have h0:(Array.range 0).map (λ_:Nat=>(default:Value)) = #[]:=by apply ajp;simp
 simp[execOp,ho,Instr.buildSlice,run_underlying hu,Go.sizeOf,typeInfo,hi,Instr.fill,newRow];rw[h0]
theorem abf{t:TypeId}{n n' sz:Nat}{parts:Array (Nat×Operand)}{zero:List AV}{qs:List Nat}{mu:Bool}(ho:o.op=.buildSlice t n parts)(hn':n=n')
  (hu:match P.underlying t with
   |some (.slice e)=>(dm P e sz&&decide (n*sz<=16777216)&&tN P e zero&&decide (0<sz)&&(zero.length==sz)&&parts.toList.map (·.1)==qs)=true|_=>False) (hI:kC w G st) (hB:mz w G β bx)
  (hR:lF w G β vals ((parts.toList.map (·.2)).map ρ)) (hcO:∀b,mM b vals ((parts.toList.map (·.2)).map ρ)<=cO b) (ha:aU wl aa (if mu then .Qu sz n' zero qs else .lit sz n' zero qs) vals st bx=some (r,bG,gK)) :
  lp P ρ o w G β st bx cO none r bG gK:=by
 subst hn';split at hu;rename_i e IA;simp only[Ar,decide_eq_true_eq,beq_iff_eq]at hu;obtain⟨⟨⟨⟨⟨fM,MW⟩,hz⟩,OL⟩,Tj⟩,hq⟩:=hu;have Ik:(parts.toList.map (·.2)).map ρ=parts.toList.map λp=>ρ p.2:=by simp
 rw[Ik]at hR hcO;cases mu with
 |true=>
  simp only[if_true]at ha;unfold aU at ha;simp only at ha;split at ha;rename_i vs DP;split at ha;rename_i rows ur;split at ha;rename_i hc;simp only[Ar,decide_eq_true_eq]at hc;cases ha;obtain⟨hv,zW⟩:=hR.TD DP;obtain⟨cells,e1,e2,e3,e4,e5,e6⟩:=aa8 (w:=w) ho IA fM MW hz OL Tj hq ur hc.2 hv;obtain⟨G',hA,_⟩:=wV (sz:=sz) (cap:=n) (rows:=rows) (c:=cells) (e:=e) (xs:=cells.toList) (w':=w.alloc (.cells cells e)) (cO:=cO) hI hB rfl rfl rfl e4 (Am hc.1) e2 hc.2 (by omega) (by omega) (by simp)
   (λb=>by have h1:=e3 b;have h2:=hcO b;rw[zW]at h2;omega)
  exact⟨_,_,_,G',β,e1,.inl rfl,hA,gX.refl _ _⟩;cases ha;cases ha;cases ha
 |false=>
  simp only[aaq,if_false]at ha;unfold aU at ha;simp only at ha;split at ha;rename_i vs DP;split at ha;rename_i rows ur;split at ha;rename_i hc;simp only[Ar]at hc;cases ha;obtain⟨hv,zW⟩:=hR.TD DP;by_cases hn:n=0;subst hn;rw[if_pos rfl];have acC:parts = #[]:=by
   cases Ij:parts.toList with
   |nil=>exact Array.toList_eq_nil_iff.1 Ij|cons p l=>
    rw[Ij]at hq;subst hq;simp only[abh,List.replicate_zero]at ur;cases YD:AV.cG vs with
    |nil=>rw[YD]at ur;simp[gj]at ur|cons v l'=>rw[YD]at ur;simp[gj]at ur
  exact⟨_,_,_,_,β,acB ho IA fM acC,.inl rfl,Io (w':=w.alloc (.cells #[] e)) rfl rfl rfl none hI hB (.mV _) λb=>by simp[gb],gX.refl _ _⟩;rw[if_neg hn];have OO:0<n:=by omega
  obtain⟨cells,e1,e2,e3,e4,e5,e6⟩:=aa8 (w:=w) ho IA fM MW hz OL Tj hq ur OO hv.view;have iu:∀r∈rows,AV.eM r=true:=by
   obtain⟨_,_,_,_,_,QC,_⟩:=oZ hz w G;have:=An (sz:=sz) (p:=λc=>c.cM=true) qs (AV.cG vs) _ rows (λr hr c hc=>by
    rw[ab7 hr]at hc;exact(QC c hc).1) (λv hv=>KC (KD vs v hv)) ur
   exact λr hr=>(cW r).2 (this r hr)
  have hrv:=Ip (G:=G.new w.heap.size (some (rows.length*sz)) []) (w:=w.alloc (.cells cells e)) (cap:=n) (off:=0) e4 (Am hc.2) iu (KB hc.1) (e2.push (w':=w.alloc (.cells cells e)) rfl _ _) (wU rfl) (by omega) (by omega) (by simp[aR.new]) (λk x hk=>by rw[Nat.zero_add];simpa using hk);exact⟨_,_,_,_,β,e1,.inl rfl,Io (w':=w.alloc (.cells cells e)) rfl rfl rfl (some (rows.length*sz)) hI hB hrv.view λb=>by simp[gb],gX.refl _ _⟩;cases ha;cases ha;cases ha
 exact hu.elim
theorem TE{α:Type}{l:List α}(h:l.length=2):∃x y,l=[x,y]:=by
 match l,h with
 |[x,y],_=>exact⟨x,y,rfl⟩
theorem CO{sz:Nat}{vals:List eW}(wl aa:Nat):aU wl aa (.indexAddr sz) vals st bx=aU 0 0 (.indexAddr sz) vals st bx:=rfl
theorem ahd{w:World}{G:aR}{b:Bool}{v:Value}(h:aY w G (.bool b) v):v=.bool b:=h.lX
theorem acD(hm:mOp S P o so=true)(hI:kC w G st)(hB:mz w G β bx)(hX:∀b,cO b+gO b β bx+cn b G.ls st<=1)
  (hA:∀xs,jo xs so.args=true->lF w G β vals (xs.map ρ)/\∀b,mM b vals (xs.map ρ)<=cO b)(ha:aU wl aa so.op vals st bx=some (r,bG,gK)) :
  lp P ρ o w G β st bx cO so.op.aI r bG gK:=by
 unfold mOp at hm;rw[Ar]at hm;replace hm:=hm.2;generalize hso:so.op=sop at hm ha;split at hm;rename_i x ho;obtain⟨hR,hc⟩:=hA _ hm;unfold aU at ha;simp only at ha;split at ha;cases ha;exact lp.ou hI hB (u:=ρ x) (by simp[execOp,ho]) hR.1 λb=>by have:=hc b;simp only[abh,mM]at this;omega
 cases ha;rename_i x ho;obtain⟨hR,hc⟩:=hA _ hm;unfold aU at ha;simp only at ha;split at ha;cases ha;exact lp.ou hI hB (u:=ρ x) (by simp[execOp,ho]) hR.1 λb=>by have:=hc b;simp only[abh,mM]at this;omega
 cases ha;rename_i c x y ho;obtain⟨hR,hc⟩:=hA _ hm;unfold aU at ha;simp only at ha;split at ha;rename_i b x' y';cases ha;obtain⟨h1,h2,h3,_⟩:=hR;have hb:=ahd h1;refine lp.ou hI hB (u:=if b then ρ x else ρ y) (by simp[execOp,ho,hb,asBool]) ?_ λd=>?_;cases b;exact h3;exact h2;have:=hc d;simp only[abh,mM]at this;cases b;simp;omega;simp;omega;cases ha;rename_i op t x y yt op' ho;simp only[Ar,beq_iff_eq]at hm;obtain⟨rfl,hm⟩:=hm;obtain⟨hR,hc⟩:=hA _ hm;unfold aU at ha;simp only at ha;split at ha;split at ha;rename_i v hv;cases ha;obtain⟨u,e1,e2,e3⟩:=agP ho hv hR.1 hR.2.1;exact lp.cM hI hB e1 e2 e3;cases ha;cases ha;rename_i op t x y yt k neg ho;simp only[Ar,beq_iff_eq]at hm;obtain⟨⟨rfl,hm⟩,ht⟩:=hm;obtain⟨hR,hc⟩:=hA _ hm;unfold aU at ha;simp only at ha;split at ha;split at ha;rename_i b hb;cases ha;obtain⟨u,e1,e2⟩:=agQ ho ht hb hR.1 hR.2.1;exact lp.cM hI hB e1 e2 rfl;cases ha;cases ha;rename_i op t x op' ho;simp only[Ar,beq_iff_eq]at hm;obtain⟨rfl,hm⟩:=hm;obtain⟨hR,hc⟩:=hA _ hm;unfold aU at ha;simp only at ha;split at ha;split at ha;rename_i v hv;cases ha;obtain⟨u,e1,e2,e3⟩:=alv ho hv hR.1;exact lp.cM hI hB e1 e2 e3;cases ha;cases ha;rename_i s d x k ho;simp only[Ar]at hm;obtain⟨hm,ht⟩:=hm;obtain⟨hR,hc⟩:=hA _ hm;unfold aU at ha;simp only at ha;split at ha;cases ha;split at ht;rename_i k1 k2 h1 h2;simp only[beq_iff_eq]at ht;subst ht;exact lp.cM hI hB (acr ho h1 h2 hR.1) (.int _ _) rfl;cases ht;cases ha;rename_i x ho;obtain⟨hR,hc⟩:=hA _ hm;unfold aU at ha;simp only at ha;split at ha;cases ha;obtain⟨g,b,h1,h2,h3⟩:=hR.1;exact lp.ou hI hB (zw ho h3) ⟨g,b,h1,h2,h3⟩ λd=>by simp[cF]
 split at ha;cases ha;have hp:∃a,ρ x=.pointer (some a):=by
  have h:=hR.1;simp only[kT]at h;cases h with|ptr _ _ _ _ _ _ hp=>exact hp
 obtain⟨a,hp⟩:=hp;exact lp.ou hI hB (zw ho hp) hR.1 λd=>by simp[cF,gb]
 cases ha;have hp:∃a,ρ x=.pointer (some a):=by
  have h:=hR.1;simp only[kT]at h;generalize ρ x=v at h;cases h;exact⟨_,rfl⟩
 obtain⟨a,hp⟩:=hp;exact lp.ou hI hB (zw ho hp) hR.1 λd=>by simp[cF,gb]
 cases ha;cases ha;rename_i x i j ho;simp only[Ar,beq_iff_eq]at hm;obtain⟨rfl,hm⟩:=hm;obtain⟨hR,hc⟩:=hA _ hm;unfold aU at ha;simp only at ha;split at ha;split at ha;rename_i v hv;cases ha;obtain⟨u,e1,e2,e3⟩:=QA ho hv hR.1;exact lp.ou hI hB e1 e2 λb=>by have h1:=hc b;have h2:=e3 b;simp only[abh,mM,cF]at h1 ⊢;omega
 cases ha;cases ha;rename_i t x f off n agg ho;simp only[Ar]at hm;obtain⟨hm,ht⟩:=hm;obtain⟨hR,hc⟩:=hA _ hm;split at ht;rename_i fs hu;split at ht;rename_i fd hf;simp only[Ar,beq_iff_eq]at ht;obtain⟨⟨h1,h2⟩,h3⟩:=ht;unfold aU at ha;simp only at ha;split at ha;split at ha;rename_i cs Tz;split at ha;rename_i v hv;cases ha;obtain⟨u,e1,e2,e3⟩:=Ym ho hu hf h1 h2 h3 Tz hv hR.1;exact lp.ou hI hB e1 e2 λb=>by have h1:=hc b;have h2:=e3 b;simp only[abh,mM,cF]at h1 ⊢;omega
 cases ha;cases ha;cases ha;cases ht;cases ht;rename_i t parts zero qs ho;simp only[Ar]at hm;obtain⟨⟨hm,hz⟩,ht⟩:=hm;obtain⟨hR,hc⟩:=hA _ hm;have Ik:(parts.toList.map (·.2)).map ρ=parts.toList.map λp=>ρ p.2:=by simp
 rw[Ik]at hR hc;split at ht;rename_i fs hu;split at ht;rename_i is Gx;unfold aU at ha;simp only at ha;split at ha;rename_i vs DP;split at ha;rename_i cs ur;cases ha;obtain⟨hv,zW⟩:=hR.TD DP;obtain⟨u,e1,e2,e3⟩:=Yn ho hu Gx hz ht ur hv;exact lp.ou hI hB e1 e2 λb=>by have h1:=hc b;have h2:=e3 b;have h3:=zW b;simp only[cF];omega
 cases ha;cases ha;cases ht;cases ht;rename_i t n parts sz n' zero qs ho;simp only[Ar,beq_iff_eq]at hm;obtain⟨⟨hn,hm⟩,ht⟩:=hm;obtain⟨hR,hc⟩:=hA _ hm;refine abf (mu:=false) ho hn ?_ hI hB hR hc ha;split at ht;rename_i he;rw[he];simpa using ht;cases ht;rename_i t n parts sz n' zero qs ho;simp only[Ar,beq_iff_eq]at hm;obtain⟨⟨hn,hm⟩,ht⟩:=hm;obtain⟨hR,hc⟩:=hA _ hm;refine abf (mu:=true) ho hn ?_ hI hB hR hc ha;split at ht;rename_i he;rw[he];simpa using ht;cases ht;rename_i t x f off ho;simp only[Ar]at hm;obtain⟨hm,ht⟩:=hm;obtain⟨hR,hc⟩:=hA _ hm;split at ht;rename_i fs hu;split at ht;rename_i fd hf;simp only[Ar,beq_iff_eq]at ht;obtain⟨h1,h2⟩:=ht;subst h1;split at h2;rename_i i hi;have hs:i.size≠0:=by simpa using h2
 unfold aU at ha;simp only at ha;split at ha;rename_i j k;cases ha;obtain⟨g,b,g1,g2,g3⟩:=hR.1;refine lp.ou hI hB (wP ho hu hf hi hs g3) ⟨g,b,g1,g2,?_⟩ λd=>by simp[cF]
 rw[mY];rename_i id cq i' k;cases ha;obtain⟨a,e1,e2⟩:=yZ hR.1 (.inl ⟨id,cq,i',k,rfl,rfl⟩);exact lp.cM hI hB (wP ho hu hf hi hs e1) e2 rfl;rename_i sz rows i' k;cases ha;obtain⟨a,e1,e2⟩:=yZ hR.1 (.inr ⟨sz,rows,i',k,rfl,rfl⟩);exact lp.cM hI hB (wP ho hu hf hi hs e1) e2 rfl;cases ha;cases h2;cases ht;cases ht;rename_i t x y sz ho;simp only[Ar]at hm;obtain⟨hm,ht⟩:=hm;obtain⟨hR,hc⟩:=hA _ hm;split at ht;rename_i e hu;rw[CO]at ha;have Bt:=ha;unfold aU at ha;simp only at ha;split at ha;obtain⟨rfl,rfl,p,u,rfl,e1,e2,e3⟩:=Km ho hu ht hI Bt hR.1 (aY.lG hR.2.1);exact lp.cM hI hB e1 e2 e3;cases ha;cases ht;rename_i t x y ho;simp only[Ar]at hm;obtain⟨hm,ht⟩:=hm;obtain⟨hR,hc⟩:=hA _ hm;split at ht;rename_i hu;unfold aU at ha;simp only at ha;split at ha;split at ha;rename_i h0;split at ha;rename_i b hb;cases ha;exact lp.cM hI hB (Yr ho hu h0 hb hR.1 (aY.lG hR.2.1)) (.int _ _) rfl;cases ha;cases ha;cases ha;cases ht;rename_i t x lo hi mx xU l h m sz ho;simp only[Ar,beq_iff_eq]at hm;obtain⟨⟨⟨⟨⟨hm,rfl⟩,rfl⟩,rfl⟩,hmh⟩,ht⟩:=hm;obtain⟨hR,hc⟩:=hA _ hm;refine YC ho (λh=>by rw[h]at hmh;simpa using hmh) ?_ hI hB hR hc ha;split at ht;rename_i he;rw[he];exact ht;rename_i he;rw[he];exact ht;cases ht;rename_i t x agg n take ho;simp only[Ar]at hm;obtain⟨⟨⟨hm,hn⟩,tO⟩,mw⟩:=hm;obtain⟨hR,hc⟩:=hA _ hm;have OR:oo P t=some agg:=by simpa using tO
 have OT:agg=false->n=1:=λh=>by subst h;simpa using mw
 have Bt:=ha;unfold aU at ha;simp only at ha;split at ha;rename_i p;cases take with
 |true=>
  obtain⟨v,e1,e2⟩:=M8 ho hn OR OT hI hB hX hR.1 Bt;exact⟨_,_,_,_,_,e1,.inl rfl,e2,gX.refl _ _⟩
 |false=>
  split at ha;rename_i cs Eb;simp only[aaq,if_false]at ha;split at ha;rename_i v hv;cases ha;obtain⟨b,off,xs,h1,h2,h3,h4⟩:=Kn hI Eb hR.1;obtain⟨u,e1,e2,e3⟩:=Im ho hn OR OT h1 h2 h3.view h4 hv;exact lp.ou hI hB e1 e2 λd=>by
   simp only[cF,e3 d];rw[ee d _ _ (ja cs)];omega
  cases ha;cases ha
 cases ha;rename_i t x j agg n take ho;simp only[Ar]at hm;obtain⟨⟨⟨hm,hn⟩,tO⟩,mw⟩:=hm;obtain⟨hR,hc⟩:=hA _ hm;have OR:oo P t=some agg:=by simpa using tO
 have OT:agg=false->n=1:=λh=>by subst h;simpa using mw
 have Bt:=ha;unfold aU at ha;simp only at ha;split at ha;obtain⟨v,e1,e2⟩:=Yx ho hn OR OT hI hB hX hR.1 Bt;exact⟨_,_,_,_,_,e1,.inl rfl,e2,gX.refl _ _⟩;cases ha;rename_i t x y n ho;simp only[Ar]at hm;obtain⟨hm,hn⟩:=hm;obtain⟨hR,hc⟩:=hA _ hm;have Bt:=ha;unfold aU at ha;simp only at ha;split at ha;obtain⟨w',G',e1,e2⟩:=Yw ho hn hI hB hX hR.1 hR.2.1 (λb=>by have:=hc b;simp only[abh,mM,cF]at this;omega) Bt;exact⟨_,_,_,_,_,e1,.inr ⟨rfl,rfl⟩,e2,gX.refl _ _⟩;cases ha;rename_i t x y j n ho;simp only[Ar]at hm;obtain⟨hm,hn⟩:=hm;obtain⟨hR,hc⟩:=hA _ hm;have Bt:=ha;unfold aU at ha;simp only at ha;split at ha;obtain⟨w',G',gR,e1,e2,e3⟩:=Tx ho hn hI hB hX hR.1 hR.2.1 (λb=>by have:=hc b;simp only[abh,mM]at this;simp only[cF]at this ⊢;omega) Bt;exact⟨_,_,_,_,_,e1,.inr ⟨rfl,rfl⟩,e2,e3⟩;cases ha;rename_i t zero ho;simp only[Ar]at hm;obtain⟨_,hz⟩:=hm;obtain⟨i,z,hi,Yo,Yp,QC,hzc⟩:=oZ hz w G;unfold aU at ha;simp only at ha;split at ha;cases ha;obtain⟨G',SI⟩:=QG (t:=t) (cO:=cO) hI hB Yp QC hzc;exact⟨_,_,_,_,_,OK ho hi Yo,.inl rfl,SI,gX.refl _ _⟩;cases ha;rename_i t j zero ho;simp only[Ar]at hm;obtain⟨_,hz⟩:=hm;obtain⟨i,z,hi,Yo,Yp,QC,hzc⟩:=oZ hz w G;unfold aU at ha;simp only at ha;split at ha;split at ha;rename_i hj;cases ha;have hb:j<β.length:=by rw[hB.len];exact hj
 refine⟨_,_,_,_,_,OK ho hi Yo,.inl rfl,OJ (c:=z.cells) (e:=t) (w':=w.alloc (.cells z.cells t)) hI hB rfl rfl rfl hj Yp hzc (λb=>by rw[GA QC];omega),?_⟩;exact gX.set (aao hb) λh=>absurd rfl h;cases ha;cases ha;rename_i t x n ho;obtain⟨hR,hc⟩:=hA _ hm;unfold aU at ha;simp only at ha;split at ha;split at ha;rename_i ov;simp only[Ar,decide_eq_true_eq]at ov;cases ha;obtain⟨G',SI⟩:=Ti (t:=t) (cO:=cO) hI hB hR.1 ov.1 ov.2 (λb=>by have:=hc b;simp only[abh,mM,cF]at this;omega);exact⟨_,_,_,_,_,aa7 ho,.inl rfl,SI,gX.refl _ _⟩;cases ha;cases ha;rename_i t x j n ho;obtain⟨hR,hc⟩:=hA _ hm;unfold aU at ha;simp only at ha;split at ha;split at ha;rename_i ov;simp only[Ar,decide_eq_true_eq]at ov;cases ha;have hb:j<β.length:=by rw[hB.len];exact ov.1.1
 obtain⟨zW,FR⟩:=aY.cells hR.1;refine⟨_,_,_,_,_,aa7 ho,.inl rfl,OJ (c:=(ρ x).cells) (e:=t) (w':=w.alloc (.cells (ρ x).cells t)) hI hB rfl rfl rfl ov.1.1 zW ov.2 (λb=>by have:=hc b;simp only[abh,mM,cF]at this;rw[FR];omega),?_⟩;exact gX.set (aao hb) λh=>absurd rfl h;cases ha;cases ha;rename_i t x y sz bytes zero mt ho;simp only[Ar]at hm;obtain⟨hm,ht⟩:=hm;obtain⟨hR,hc⟩:=hA _ hm;split at ht;rename_i e hu;simp only[Ar,decide_eq_true_eq]at ht;obtain⟨⟨⟨⟨h1,h2⟩,h3⟩,h4⟩,h5⟩:=ht;unfold aU at ha;simp only at ha;split at ha;rename_i n c;split at ha;rename_i ov;obtain⟨c1,c2,c3,c4⟩:=ov;have oU:c<=9223372036854775807:=by
  have:c*1<=c*bytes:=Int.mul_le_mul_of_nonneg_left (by omega) (by omega);simp only[dQ]at c3;omega
 obtain⟨cells,e1,e2,e3,e4⟩:=Tl (w:=w) (G:=G) ho hu h1 h2 h3 h4 c4 (aY.lG hR.1) (aY.lG hR.2.1) c1 c2 c3 oU;obtain⟨_,_,_,_,_,QC,hzc⟩:=oZ h3 w G;have hle:n.toNat*sz<=c.toNat*sz:=Nat.mul_le_mul_right _ (by omega);have bE:bw sz (aaO n.toNat zero)=true:=cY.2 λr hr=>by rw[ab7 hr,c4]
 have kG:∀r∈aaO n.toNat zero,AV.aS r=true:=λr hr=>by rw[ab7 hr];exact hzc
 have hx:∀(k:Nat) x,(cells.toList.take (n.toNat*sz))[k]?=some x->cells[k]?=some x:=λk x hk=>by
  rw[abZ]at hk;split at hk;simpa using hk;cases hk
 split at ha;cases ha;by_cases OM:c.toNat=0;have OO:n.toNat=0:=by omega
 rw[OO,OM]at e1;rw[OO];have hA0:lQ w G β st bx cO (w.alloc (.cells cells e)) (G.new w.heap.size (some 0) [⟨some ⟨w.heap.size,0,none⟩,0,0,sz,0,false,[]⟩]) β (st++[.rows 0 sz []]) bx (.val (.mu st.length 0)) (.slice (some ⟨w.heap.size,0,none⟩) 0 0):=by
  have hl:(G.new w.heap.size (some 0) [⟨some ⟨w.heap.size,0,none⟩,0,0,sz,0,false,[]⟩]).ls[st.length]?=some ⟨some ⟨w.heap.size,0,none⟩,0,0,sz,0,false,[]⟩:=by
   simp only[aR.new];rw[List.getElem?_append_right (by rw[hI.len];exact aaH _),hI.len];simp
  exact wS (w':=w.alloc (.cells cells e)) (ao:=.rows 0 sz []) (ob:=.cells cells e) rfl rfl rfl hI hB ⟨rfl,rfl,by simp[bw],by simp,rfl,rfl,rfl,λi r xs h=>by simp at h,.inl ⟨rfl,rfl,rfl⟩⟩ (.mu _ _ _ _ ⟨_,_,_,rfl⟩ hl (aaH _) λ_=>rfl) rfl λb=>by simp[jv,mT.j7,iV]
 exact⟨_,_,_,_,_,e1,.inl rfl,hA0,gX.refl _ _⟩;obtain⟨G',SI,_⟩:=wV (sz:=sz) (cap:=c.toNat) (rows:=aaO n.toNat zero) (c:=cells) (e:=e) (xs:=cells.toList.take (n.toNat*sz)) (w':=w.alloc (.cells cells e)) (cO:=cO) hI hB rfl rfl rfl bE kG e3 (by omega) (by omega) (by simp;omega) hx (λb=>by rw[e4];omega);rw[ahg]at SI;exact⟨_,_,_,_,_,e1,.inl rfl,SI,gX.refl _ _⟩;split at ha;rename_i hpz;cases ha;obtain⟨G',SI⟩:=Iq (sz:=sz) (cap:=c.toNat) (rows:=aaO n.toNat zero) (c:=cells) (e:=e) (xs:=cells.toList.take (n.toNat*sz)) (w':=w.alloc (.cells cells e)) (cO:=cO) hI hB rfl rfl rfl bE kG
  (λr hr=>by rw[ab7 hr];exact(cW zero).2 λc hc=>(QC c hc).1) (λr hr=>by rw[ab7 hr];exact hpz) e3 (by omega) (by simp;omega) hx
 rw[ahg]at SI;exact⟨_,_,_,_,_,e1,.inl rfl,SI,gX.refl _ _⟩;cases ha;cases ha;cases ha;cases ht;rename_i c k ho;simp only[Ar,beq_iff_eq]at hm;obtain⟨⟨hm,fM⟩,ht⟩:=hm;obtain⟨hR,hc⟩:=hA _ hm;obtain⟨x,hx⟩:∃x,c.args.toList=[x]:=List.length_eq_one_iff.1 (by simpa using fM);rw[hx]at hR hc;split at ht;rename_i t w6 CP;unfold aU at ha;simp only at ha;split at ha;split at ha;rename_i n hn;cases ha;refine lp.cM hI hB (agR ho w6 hx CP (k:=k) ?_ hI hn hR.1) (.int _ _) rfl;split at ht
 assumption
 exact⟨_,by assumption⟩;exact⟨_,_,by assumption⟩;cases ht;cases ha;cases ha;cases ht;rename_i c sz bytes ho;simp only[Ar,beq_iff_eq]at hm;obtain⟨⟨⟨hm,fM⟩,acE⟩,ht⟩:=hm;obtain⟨hR,hc⟩:=hA _ hm;obtain⟨x,y,hx⟩:∃x y,c.args.toList=[x,y]:=TE (by simpa using fM);rw[hx]at hR hc;split at ht;rename_i t u w6 SJ SL;simp only[Ar]at ht;obtain⟨KE,YE⟩:=ht;split at KE;rename_i e hu;simp only[Ar,decide_eq_true_eq]at KE;obtain⟨⟨⟨⟨h1,h2⟩,h3⟩,h4⟩,h5⟩:=KE;split at h5;rename_i i hi;split at h5;rename_i z hz;simp only[beq_iff_eq]at h5;have hT:MZ P t u e sz bytes i z:=by
  refine⟨hu,hi,hz,?_,?_,h5,h3,h4,?_⟩;obtain⟨i',om,Gx,_⟩:=nJ h1;rw[hi]at om;cases om;exact Gx;simpa [xX,hi] using h2;split at YE;exact .inl ⟨_,by assumption⟩;exact .inr (by assumption);cases YE
 have Bt:=ha;unfold aU at ha;simp only at ha;split at ha;obtain⟨v,w',G',e1,e2⟩:=To (ty:=o.type) hT hI hB hX hR.1 hR.2.1 (λb=>by have:=hc b;simp only[abh,mM,cF]at this;omega) Bt;refine⟨_,_,_,_,_,?_,.inl rfl,e2,gX.refl _ _⟩;simp only[execOp,ho,resolve,w6,Sem.run_bind,Sem.run_pure,Result.andThen_ok,invoke,builtin,DY hx,GK acE SJ SL];simp[e1];cases ha;cases h5;cases h5;cases KE;cases ht;rename_i c sz bytes ho;simp only[Ar,beq_iff_eq]at hm;obtain⟨⟨⟨hm,fM⟩,acE⟩,ht⟩:=hm;obtain⟨hR,hc⟩:=hA _ hm;obtain⟨x,y,hx⟩:∃x y,c.args.toList=[x,y]:=TE (by simpa using fM);rw[hx]at hR hc;split at ht;rename_i t u w6 SJ SL;simp only[Ar]at ht;obtain⟨KE,YE⟩:=ht;split at KE;rename_i e hu;simp only[Ar,decide_eq_true_eq]at KE;obtain⟨⟨⟨⟨h1,h2⟩,h3⟩,h4⟩,h5⟩:=KE;split at h5;rename_i i hi;split at h5;rename_i z hz;simp only[beq_iff_eq]at h5;have hT:MZ P t u e sz bytes i z:=by
  refine⟨hu,hi,hz,?_,?_,h5,h3,h4,?_⟩;obtain⟨i',om,Gx,_⟩:=nJ h1;rw[hi]at om;cases om;exact Gx;simpa [xX,hi] using h2;split at YE;exact .inl ⟨_,by assumption⟩;exact .inr (by assumption);cases YE
 have Bt:=ha;unfold aU at ha;simp only at ha;split at ha;obtain⟨v,w',G',e1,e2⟩:=QJ (ty:=o.type) hT hI hB hX hR.1 hR.2.1 Bt;refine⟨_,_,_,_,_,?_,.inl rfl,e2,gX.refl _ _⟩;simp only[execOp,ho,resolve,w6,Sem.run_bind,Sem.run_pure,Result.andThen_ok,invoke,builtin,DY hx,GK acE SJ SL];simp[e1];cases ha;cases h5;cases h5;cases KE;cases ht;unfold aU at ha;cases ha;unfold aU at ha;cases ha;have h0:so.args=[]:=by simpa using hm
 have hv:=(hA [] (by rw[h0];rfl)).1;cases vals with
 |nil=>unfold aU at ha;simp at ha|cons a l=>simp[lF]at hv
 cases hm
end Ax
namespace Ax
open Go
variable {P:Program}{w w':World}{G G':aR}{β gR:List nI}
theorem w7(d:Nat)(e:eW)(t:Nat):∀env:qo,cR (wB env d e) t=if t=d then e else cR env t
 |[]=>by
  simp only[wB,cR];by_cases h:d=t;rw[if_pos h,if_pos h.symm];rw[if_neg h,if_neg (show ¬t=d from λe=>h e.symm)]
 |(k,x)::r=>by
  have ih:=w7 d e t r;unfold wB;split;simp only[cR];by_cases h:d=t;rw[if_pos h,if_pos h.symm];rw[if_neg h,if_neg (show ¬t=d from λe=>h e.symm)];split;rename_i hk;subst hk;simp only[cR];by_cases h:d=t;rw[if_pos h,if_pos h.symm];rw[if_neg h,if_neg (show ¬t=d from λe=>h e.symm),if_neg h];simp only[cR,ih];by_cases h:k=t;rw[if_pos h,if_pos h,if_neg (by omega)];rw[if_neg h,if_neg h]
theorem Eg(d t:Nat):∀env:qo,cR (CH env d) t=if t=d then .none else cR env t
 |[]=>by simp[CH,cR]|(k,x)::r=>by
  have ih:=Eg d t r;unfold CH;split;rename_i h;rw[ih];simp only[cR];by_cases h2:t=d;rw[if_pos h2,if_pos h2];rw[if_neg h2,if_neg h2,if_neg (by omega)];simp only[cR,ih];by_cases h2:t=d;rw[if_pos h2,if_pos h2];rw[if_neg (by omega)];rw[if_neg h2,if_neg h2]
def qT:List Src->List Nat
 |[]=>[]
 |.tmp t true::r=>t::qT r|_::r=>qT r
theorem uv(t:Nat):∀(ss:List Src)(env:qo),cR (ss.foldl mW env) t=if t∈qT ss then .none else cR env t
 |[],env=>by simp[qT]|.tmp u true::r,env=>by
  simp only[agL,mW,qT,uv t r,Eg,abY];by_cases h1:t∈qT r;simp[h1];by_cases h2:t=u;simp[h2];simp[h1,h2]
 |.tmp u false::r,env=>by rw[agL,uv t r];rfl|.const a::r,env=>by rw[agL,uv t r];rfl
theorem u7(t:Nat):∀(l:List Nat)(env:qo),cR (je l env) t=if t∈l then .none else cR env t
 |[],env=>by simp[je]|u::l,env=>by
  simp only[je,u7 t l,Eg,abY];by_cases h1:t∈l;simp[h1];by_cases h2:t=u;simp[h2];simp[h1,h2]
theorem GM(t:Nat):∀(k:Nat)(l:List AV),cR (Gs k l) t=if k<=t then (match l[t-k]? with|some v=>.val v|none=>.none) else .none
 |k,[]=>by simp[Gs,cR]|k,v::r=>by
  simp only[Gs,cR,GM t (k+1) r];by_cases h:k=t;subst h;simp;rw[if_neg h];by_cases h2:k<=t;rw[if_pos h2,if_pos (by omega),show t-k=(t-(k+1))+1 by omega];simp;rw[if_neg h2,if_neg (by omega)]
theorem Eh{j:Nat}:∀{env:qo},dZ j env=true->∀t,(cR env t).qa j=true
 |[],_,_=>rfl|(k,x)::r,h,t=>by
  simp only[dZ,List.all_cons,Ar]at h;simp only[cR];split;exact h.1;exact Eh (env:=r) (by simpa [dZ] using h.2) t
def gP(f:Nat->Nat):Nat->Nat
 |0=>0|n+1=>gP f n+f n
theorem o6{f g:Nat->Nat}:∀{n:Nat},(∀t,t<n->f t=g t)->gP f n=gP g n
 |0,_=>rfl|n+1,h=>by simp only[gP];rw[o6 λt ht=>h t (by omega),h n (by omega)]
theorem Dh{f g:Nat->Nat}:∀{n:Nat},(∀t,t<n->f t<=g t)->gP f n<=gP g n
 |0,_=>aaH _|n+1,h=>by
  simp only[gP];have h1:=Dh (f:=f) (g:=g) (n:=n) λt ht=>h t (by omega);have h2:=h n (by omega);omega
theorem uw{f g:Nat->Nat}{d:Nat}:∀{n:Nat},d<n->(∀t,t≠d->f t=g t)->gP f n+g d=gP g n+f d
 |0,h,_=>by omega|n+1,h,he=>by
  simp only[gP];by_cases hd:d=n;subst hd;rw[o6 (f:=f) (g:=g) λt ht=>he t (by omega)];omega;have:=uw (f:=f) (g:=g) (n:=n) (d:=d) (by omega) he;rw[he n λe=>hd e.symm];omega
theorem w8{f:Nat->Nat}{t n:Nat}(h:t<n):f t<=gP f n:=by
 have:=uw (f:=λu=>if u=t then 0 else f u) (g:=f) (d:=t) h λu hu=>if_neg hu;simp only[if_true]at this;omega
theorem GN{n:Nat}:gP (λ_=>0) n=0:=by
 induction n with
 |zero=>rfl|succ n ih=>simp[gP,ih]
def qw(f:Nat->Nat):List Nat->Nat
 |[]=>0|t::l=>f t+qw f l
theorem Ao{f:Nat->Nat}{n:Nat}(hf:∀t,n<=t->f t=0):∀(l:List Nat),l.Nodup->qw f l+gP (λt=>if t∈l then 0 else f t) n<=gP f n
 |[],_=>by simp[qw]|t::l,h=>by
  have ih:=Ao hf l (aiK.1 h).2;have hn:=(aiK.1 h).1;simp only[qw];by_cases ht:t<n;have:=uw (f:=λu=>if u∈t::l then 0 else f u) (g:=λu=>if u∈l then 0 else f u) (d:=t) ht λu hu=>by simp[hu]
  simp only[abY,true_or,if_true,if_neg hn]at this;simp only[abY];omega;rw[hf t (by omega)];rw[o6 (f:=λu=>if u∈t::l then 0 else f u) (g:=λu=>if u∈l then 0 else f u) λu hu=>by simp[show u≠t by omega]];omega
mutual
def AV.under(n:Nat):AV->Bool
 |.mu i _|.ptr i _ _ _|.map i=>decide (i<n)|.agg cs|.ir cs=>AV.o8 n cs|.fn _ a b=>AV.o8 n a&&AV.o8 n b|_=>true
def AV.o8(n:Nat):List AV->Bool
 |[]=>true|v::r=>v.under n&&AV.o8 n r
end
theorem gY(n:Nat):∀cs:List AV,AV.o8 n cs=true↔∀c∈cs,c.under n=true
 |[]=>by simp[AV.o8]|c::cs=>by simp[AV.o8,gY n cs]
mutual
theorem jf(n:Nat):∀a:AV,a.ay=true->a.under n=true
 |.mu _ _,h=>by simp[AV.ay]at h|.ptr _ _ _ _,h=>by simp[AV.ay]at h|.map _,h=>by simp[AV.ay]at h|.agg cs,h=>by simp only[AV.ay,AV.under]at *;exact qf n cs h|.ir cs,h=>by simp only[AV.ay,AV.under]at *;exact qf n cs h|.fn _ a b,h=>by simp only[AV.ay,AV.under,Ar]at *;exact⟨qf n a h.1,qf n b h.2⟩|.undef,_|.gone,_|.bool _,_|.int _ _,_|.str _,_|.eR,_|.U,_|.gi,_|.iZ,_|.j8,_|.dh _ _,_|.jz _ _,_|.raw _ _,_|.mV,_|.qt _ _ _ _,_=>by simp[AV.under]
theorem qf(n:Nat):∀cs:List AV,AV.au cs=true->AV.o8 n cs=true
 |[],_=>rfl|c::cs,h=>by
  simp only[AV.au,Ar]at h;simp only[AV.o8,jf n c h.1,qf n cs h.2,Bool.and_self]
end
mutual
theorem Na{m n:Nat}(XT:m<=n):∀a:AV,a.under m=true->a.under n=true
 |.mu _ _,h|.ptr _ _ _ _,h|.map _,h=>by simp only[AV.under,decide_eq_true_eq]at *;omega|.agg cs,h=>by simp only[AV.under]at *;exact qg XT cs h|.ir cs,h=>by simp only[AV.under]at *;exact qg XT cs h|.fn _ a b,h=>by simp only[AV.under,Ar]at *;exact⟨qg XT a h.1,qg XT b h.2⟩|.undef,_|.gone,_|.bool _,_|.int _ _,_|.str _,_|.eR,_|.U,_|.gi,_|.iZ,_|.j8,_|.dh _ _,_|.jz _ _,_|.raw _ _,_|.mV,_|.qt _ _ _ _,_=>by simp[AV.under]
theorem qg{m n:Nat}(XT:m<=n):∀cs:List AV,AV.o8 m cs=true->AV.o8 n cs=true
 |[],_=>rfl|c::cs,h=>by
  simp only[AV.o8,Ar]at *;exact⟨Na XT c h.1,qg XT cs h.2⟩
end
theorem aY.Ap{a:AV}{v:Value}(h:aY w G a v):a.under G.ls.length=true:=by
 induction h with
 |agg cs vs hl h ih=>
  simp only[AV.under];refine(gY _ cs).2 λc hc=>?_;obtain⟨i,hi,rfl⟩:=abe.1 hc;have om:i<vs.size:=by omega
  exact ih i cs[i] vs[i] (aao hi) (by simp[om])
 |ir cs vs hl h ih=>
  simp only[AV.under];refine(gY _ cs).2 λc hc=>?_;obtain⟨i,hi,rfl⟩:=abe.1 hc;have om:i<vs.size:=by omega
  exact ih i cs[i] vs[i] (aao hi) (by simp[om])
 |mu id cq v bh hp hl hv he=>simpa [AV.under] using (aab.1 hl).1|ptr id cq i k v bh hp hl hv he=>simpa [AV.under] using (aab.1 hl).1|map id bh b hl hm hb=>simpa [AV.under] using (aab.1 hl).1|fn f first oY vf vc hl hm hn h k ih ik=>
  simp only[AV.under,Ar];refine⟨(gY _ first).2 λc hc=>?_,(gY _ oY).2 λc hc=>?_⟩;obtain⟨i,hi,rfl⟩:=abe.1 hc;have om:i<vf.size:=by omega
  exact ih i first[i] vf[i] (aao hi) (by simp[om])
  obtain⟨i,hi,rfl⟩:=abe.1 hc;have om:i<vc.size:=by omega
  exact ik i oY[i] vc[i] (aao hi) (by simp[om])
 |_=>simp[AV.under]
def aR.cut(G:aR)(n:Nat):aR:=⟨G.ls.take n,G.nH⟩
theorem Di{n i:Nat}{bh:mT}(h:G.ls[i]?=some bh)(hi:i<n):(G.cut n).ls[i]?=some bh:=by
 simp only[aR.cut];rw[abZ,if_pos hi];exact h
theorem aY.Ei{n:Nat}{a:AV}{v:Value}(h:aY w G a v):a.under n=true->aY w (G.cut n) a v:=by
 induction h with
 |undef=>exact λ_=>.undef|gone v h=>exact λ_=>.gone v h|bool b=>exact λ_=>.bool b|int k n=>exact λ_=>.int k n|str l s h=>exact λ_=>.str l s h|eR=>exact λ_=>.eR|U=>exact λ_=>.U|gi=>exact λ_=>.gi|iZ=>exact λ_=>.iZ|j8=>exact λ_=>.j8|agg cs vs hl h ih=>exact λhb=>.agg cs vs hl λi c v h1 h2=>ih i c v h1 h2 ((gY n cs).1 (by simpa [AV.under] using hb) c (de h1))|ir cs vs hl h ih=>exact λhb=>.ir cs vs hl λi c v h1 h2=>ih i c v h1 h2 ((gY n cs).1 (by simpa [AV.under] using hb) c (de h1))|dh sz rows a cap n6 gT bE iu rH yW hc hr ih=>
  exact λ_=>.dh sz rows a cap n6 gT bE iu rH yW hc λi r j c v h1 h2 h3=>ih i r j c v h1 h2 h3 (jf n c ((gz r).1 (rH r (de h1)) c (de h2)))
 |jz sz rows a cap n6 gT bE iu rH yW hc hr jI gW ih=>
  exact λ_=>.jz sz rows a cap n6 gT bE iu rH yW hc (λi r j c v h1 h2 h3=>ih i r j c v h1 h2 h3 (jf n c ((gz r).1 (rH r (de h1)) c (de h2)))) jI gW
 |raw sz rows a cap n6 gT bE iu rH yW hc hr jI gW ih=>
  exact λ_=>.raw sz rows a cap n6 gT bE iu rH yW hc (λi r j c v h1 h2 h3=>ih i r j c v h1 h2 h3 (jf n c ((gz r).1 (rH r (de h1)) c (de h2)))) jI gW
 |mV a=>exact λ_=>.mV a|mu id cq v bh hp hl hv he=>exact λhb=>.mu id cq v bh hp (Di hl (by simpa [AV.under] using hb)) hv he|ptr id cq i k v bh hp hl hv he=>exact λhb=>.ptr id cq i k v bh hp (Di hl (by simpa [AV.under] using hb)) hv he|qt sz rows i k a cap hs ih=>exact λ_=>.qt sz rows i k a cap (ih (by simp[AV.under]))|map id bh b hl hm hb=>exact λsU=>.map id bh b (Di hl (by simpa [AV.under] using sU)) hm hb|fn f first oY vf vc hl hm hn h k ih ik=>
  intro hb;simp only[AV.under,Ar]at hb;exact .fn f first oY vf vc hl hm hn (λi c v h1 h2=>ih i c v h1 h2 ((gY n first).1 hb.1 c (de h1))) λi c v h1 h2=>ik i c v h1 h2 ((gY n oY).1 hb.2 c (de h1))
def dK.under(n:Nat):dK->Bool
 |.rows _ _ rs=>rs.all (AV.o8 n)|.map es=>es.all λe=>e.1.under n&&e.2.under n
theorem rT.Ei{n:Nat}{ob:dK}{bh:mT}(h:rT w G ob bh)(hb:ob.under n=true):rT w (G.cut n) ob bh:=by
 cases ob with
 |rows cq sz rows=>
  obtain⟨h1,h2,h3⟩:=h;simp only[dK.under,aaS]at hb;refine⟨h1,h2,h3.FO,h3.FQ,h3.len,h3.size,h3.um,λi r xs e1 e2=>?_,h3.uo⟩;obtain⟨a1,a2⟩:=h3.uX i r xs e1 e2;exact⟨a1,λj c v g1 g2=>(a2 j c v g1 g2).Ei ((gY n r).1 (hb r (de e1)) c (de g1))⟩
 |map es=>
  obtain⟨h1,h2,b,Bo,clock,h3,h4,h5,h6,h7⟩:=h;simp only[dK.under,aaS,Ar]at hb;refine⟨h1,h2,b,Bo,clock,h3,h4,h5,h6,λi k v e e1 e2=>?_⟩;obtain⟨g1,g2,g3,g4⟩:=h7 i k v e e1 e2;have:=hb (k,v) (de e1);exact⟨g1.Ei this.1,g2.Ei this.2,g3,g4⟩
theorem rT.Ap{ob:dK}{bh:mT}(h:rT w G ob bh):ob.under G.ls.length=true:=by
 cases ob with
 |rows cq sz rows=>
  obtain⟨h1,h2,h3⟩:=h;simp only[dK.under,aaS];intro r hr;obtain⟨i,hi,rfl⟩:=abe.1 hr;have om:i<bh.vals.length:=by rw[h3.um];exact hi
  obtain⟨a1,a2⟩:=h3.uX i rows[i] bh.vals[i] (aao hi) (aao om);refine(gY _ _).2 λc hc=>?_;obtain⟨j,hj,rfl⟩:=abe.1 hc;have hj':j<bh.vals[i].length:=by omega
  exact(a2 j _ _ (aao hj) (aao hj')).Ap
 |map es=>
  obtain⟨h1,h2,b,Bo,clock,h3,h4,h5,h6,h7⟩:=h;simp only[dK.under,aaS,Ar];intro x hx;obtain⟨i,hi,rfl⟩:=abe.1 hx;have om:i<Bo.size:=by omega
  obtain⟨g1,g2,_,_⟩:=h7 i es[i].1 es[i].2 Bo[i] (aao hi) (by simp[om]);exact⟨g1.Ap,g2.Ap⟩
def GO(l:Nat)(st:ag):Prop:=∀(id:Nat) ob,id<l->st[id]?=some ob->ob.under l=true
theorem kC.ahf{st:ag}(h:kC w G st):GO st.length st:=by
 intro id ob _ hob;obtain⟨bh,hl,hr⟩:=h.bh hob;rw[<-h.len];exact hr.Ap
theorem kC.Ei{st:ag}{n:Nat}(h:kC w G st)(hl:GO n st):kC w (G.cut n) (st.take n) where
 len:=by simp[aR.cut,h.len]
 aZ:=λid ob bh h1 h2=>by
  simp only[aR.cut]at h2;rw[abZ]at h1 h2;split at h1;rename_i Mw;rw[if_pos Mw]at h2;exact(h.aZ id ob bh h1 h2).Ei (hl id ob Mw h1);cases h1
 oR:=h.oR
theorem YF{n:Nat}(h:tM w G w' G')(hn:G.ls.length<=n):tM w G w' (G'.cut n) where
 Tb:=h.Tb
 OE:=λid bh hl=>by
  obtain⟨loc',a1,a2,a3⟩:=h.OE id bh hl;exact⟨loc',Di a1 (by have:=(aab.1 hl).1;omega),a2,a3⟩
theorem GP(b:Nat):∀(n:Nat)(ls:List mT)(st:ag),cn b (ls.take n) (st.take n)<=cn b ls st
 |0,ls,st=>by simp[cn]|n+1,[],st=>by simp[cn]|n+1,l::ls,[]=>by simp[cn]|n+1,l::ls,o::st=>by
  have:=GP b n ls st;simp only[List.take_succ_cons,cn];omega
end Ax
namespace Ax
open Go
structure dx (wl aa:Nat)(st bG:ag):Prop where
 len:st.length<=bG.length
 low:∀id,id<wl->id<st.length->bG[id]?=st[id]?
 aa:∀l,l<=aa->l<=st.length->GO l st->GO l bG
variable {wl aa:Nat}{st bG Qw:ag}
theorem dx.refl(wl aa:Nat)(st:ag):dx wl aa st st:=⟨aaH _,λ_ _ _=>rfl,λ_ _ _ h=>h⟩
theorem dx.trans(h:dx wl aa st bG)(k:dx wl aa bG Qw):dx wl aa st Qw:=
 ⟨acF h.len k.len,λid h1 h2=>(k.low id h1 (agu h2 h.len)).trans (h.low id h1 h2),λl h1 h2 h3=>k.aa l h1 (acF h2 h.len) (h.aa l h1 h2 h3)⟩
theorem dx.push(wl aa:Nat)(st:ag)(ob:dK):dx wl aa st (st++[ob]) where
 len:=by simp
 low:=λid _ h=>by rw[aaE h]
 aa:=λl _ h1 h2 id J8 h3 h4=>h2 id J8 h3 (by rwa [aaE (by omega)]at h4)
theorem dx.set{id:Nat}{ob J8:dK}(iO:st[id]?=some ob)(hw:wl<=id)(h:∀l,l<=aa->id<l->ob.under l=true->J8.under l=true):dx wl aa st (st.set id J8) where
 len:=by simp
 low:=λi h1 _=>by rw[abK,if_neg (by omega)]
 aa:=λl h1 h2 h3 i ob2 h4 h5=>by
  rw[abK]at h5;split at h5;rename_i e;subst e;split at h5;cases h5;exact h l h1 h4 (h3 _ ob h4 iO);cases h5;exact h3 i ob2 h4 h5
theorem va{l cq sz:Nat}{rs:List (List AV)}:(dK.rows cq sz rs).under l=true↔∀r∈rs,∀c∈r,c.under l=true:=by
 simp only[dK.under,aaS];exact⟨λh r hr=>(gY l r).1 (h r hr),λh r hr=>(gY l r).2 (h r hr)⟩
theorem QN{α:Type}{as vs:List α}{k:Nat}{x:α}(h:k+vs.length<=as.length)(hx:x∈aj as k vs):x∈as\/x∈vs:=by
 rw[j9 _ _ _ h]at hx;rcases abI.1 hx with hx|hx;rcases abI.1 hx with hx|hx;exact .inl (adB hx);exact .inr hx;exact .inl (aec hx)
theorem vg{p:AV}{cells:List AV}(h:eK wl aa st p cells=some bG)(hc:∀id cq i k,p=.ptr id cq i k->True:=λ_ _ _ _ _=>trivial):dx wl aa st bG:=by
 unfold eK at h;split at h;split at h;rename_i v sz rows iO;split at h;rename_i ov;simp only[Ar,decide_eq_true_eq,bD,abP]at ov;obtain⟨_,hw,hl⟩:=ov;split at h;rename_i r hr;split at h;rename_i bE;cases h;refine dx.set iO hw λl h1 h2 h3=>?_;rw[va]at h3 ⊢;intro r' yK c yJ;rcases List.mem_or_eq_of_mem_set yK with h4|h4;exact h3 r' h4 c yJ;subst h4;rcases QN bE yJ with h5|h5;exact h3 r (de hr) c h5;rcases hl with hl|hl;omega;exact jf l c ((gz cells).1 hl c h5);cases h;cases h;cases h;cases h;cases h
theorem Ej{sz bytes:Nat}{s:AV}{new:List (List AV)}{bx gK:br}{r:eW}(h:yG wl aa sz bytes s new st bx=some (r,bG,gK)):dx wl aa st bG:=by
 unfold yG at h;split at h;split at h;split at h;cases h;exact dx.refl _ _ _;split at h;cases h;exact dx.push _ _ _ _;cases h;split at h;cases h;exact dx.push _ _ _ _;cases h;split at h;rename_i iO;split at h;rename_i hc;simp only[Ar,decide_eq_true_eq,abP,aaS]at hc;cases h;refine dx.set iO hc.1.2 λl h1 h2 h3=>?_;rw[va]at h3 ⊢;intro r hr c hcr;rcases abI.1 hr with h4|h4;exact h3 r h4 c hcr;rcases hc.2 with h5|h5;omega;exact jf l c ((gz r).1 (h5 r h4) c hcr);cases h;cases h;cases h;cases h
theorem Nb{op:dG}{vals:List eW}{bx gK:br}{r:eW}(h:aU wl aa op vals st bx=some (r,bG,gK)):dx wl aa st bG:=by
 cases op
 case load agg n take=>
  unfold aU at h;simp only at h;split at h;split at h;split at h;split at h;rename_i hw _;cases h;exact vg hw;cases h;split at h;cases h;exact dx.refl _ _ _;cases h;cases h;cases h
 case store n=>
  unfold aU at h;simp only at h;split at h;split at h;split at h;rename_i hw;cases h;exact vg hw;cases h;cases h;cases h
 case DG sz=>
  unfold aU at h;simp only at h;split at h;split at h;rename_i iO;split at h;rename_i hc;simp only[Ar,decide_eq_true_eq]at hc;cases h;refine dx.set iO hc.2 λl _ _ h3=>?_;rw[va]at h3 ⊢;exact λr hr=>h3 r (adB hr);cases h;cases h;cases h
 case kE sz bytes=>
  unfold aU at h;simp only at h;split at h;split at h;cases h;exact Ej h;cases h
 case Db sz bytes zero=>
  unfold aU at h;simp only at h;split at h;split at h;exact Ej h;cases h;cases h
 case copy sz=>
  unfold aU at h;simp only at h;split at h;split at h;rename_i iO sW;split at h;rename_i hc;simp only[Ar,decide_eq_true_eq,abP,aaS]at hc;cases h;refine dx.set iO hc.1.2 λl h1 h2 h3=>?_;rw[va]at h3 ⊢;intro r hr c hcr;rcases abI.1 hr with h4|h4;rcases hc.2 with h5|h5;omega;exact jf l c ((gz r).1 (h5 r h4) c hcr);exact h3 r (aec h4) c hcr;cases h;cases h;cases h
 case mapUpdate kk=>
  unfold aU at h;simp only at h;split at h;rename_i id k v;split at h;rename_i es iO;split at h;rename_i hc;simp only[Ar,bD,decide_eq_true_eq,abP]at hc;split at h;rename_i Bo YG;cases h;refine dx.set iO hc.2.1 λl h1 h2 h3=>?_;have hk:k.under l=true:=by
   have:=hc.1;unfold S8 at this;split at this<;>first|rfl|cases this
  have hv:v.view.under l=true:=by
   rcases hc.2.2 with h5|h5;omega;simp only[AV.au,Bool.and_true]at h5;exact jf l _ (wY v h5)
  clear iO;simp only[dK.under,aaS,Ar]at h3 ⊢;have key:∀(es Bo:List (AV×AV)),(∀x∈es,x.1.under l=true/\x.2.under l=true)->Kh kk k v.view es=some Bo->∀x∈Bo,x.1.under l=true/\x.2.under l=true:=by
   intro es;induction es with
   |nil=>intro Bo _ h x hx;simp[Kh]at h;subst h;simp at hx;subst hx;exact⟨hk,hv⟩|cons c es ih=>
    intro Bo qU h;obtain⟨a,u⟩:=c;simp only[Kh]at h;split at h;cases h;intro x hx;rcases abY.1 hx with rfl|hx;exact⟨hk,hv⟩;exact qU x (by simp[hx]);split at h;rename_i r' yK;cases h;intro x hx;rcases abY.1 hx with rfl|hx;exact qU _ (by simp);exact ih r' (λx hx=>qU x (by simp[hx])) yK x hx;cases h;cases h
  exact key es Bo h3 YG;cases h;cases h;cases h;cases h
 all_goals
  unfold aU at h;simp only at h;repeat' split at h
 all_goals first
  |(cases h;exact dx.refl _ _ _)
  |(cases h;exact dx.push _ _ _ _)
  |cases h
structure se (O:ku):Prop where
 call:∀wl aa f args st v bG,O.call wl aa f args st=some (v,bG)->dx wl aa st bG
 loop:∀wl aa rs c s x s',O.loop wl aa rs c s=some (x,s')->dx wl aa s.st s'.st
variable {O:ku}
theorem QO(hO:se O){op:dG}{vals:List eW}{bx gK:br}{r:eW}(h:tK O wl aa op vals st bx=some (r,bG,gK)):dx wl aa st bG:=by
 have call:∀x,fW O wl aa x st bx=some (r,bG,gK)->dx wl aa st bG:=by
  intro x h;unfold fW at h;split at h;split at h;rename_i hc;cases h;exact hO.call _ _ _ _ _ _ _ hc;cases h;cases h
 unfold tK at h;split at h;exact call _ h;exact call _ h;exact Nb h
theorem Aq(hO:se O){o:aC}{s s':St}(h:iz O wl aa o s=some s'):dx wl aa s.st s'.st:=by
 unfold iz at h;split at h;cases h;cases h;exact dx.refl _ _ _;split at h;cases h;rename_i ha;have hk:=QO hO ha;split at h;cases h;exact hk;split at h;cases h;exact hk;cases h
theorem y8(hO:se O):∀{l:List aC}{s s':St},fL O wl aa l s=some s'->dx wl aa s.st s'.st
 |[],s,s',h=>by simp only[fL,Option.some.injEq]at h;subst h;exact dx.refl _ _ _|o::l,s,s',h=>by
  simp only[fL]at h;split at h;rename_i s1 h1;exact(Aq hO h1).trans (y8 hO h);cases h
theorem y9(hO:se O):∀{l:List aC}{s s':St}{jY:List St},eE O wl aa l s=some (s',jY)->dx wl aa s.st s'.st
 |[],s,s',jY,h=>by simp only[eE,Option.some.injEq,Prod.mk.injEq]at h;obtain⟨rfl,_⟩:=h;exact dx.refl _ _ _|o::l,s,s',jY,h=>by
  simp only[eE]at h;split at h;rename_i s1 h1;split at h;rename_i h2;cases h;exact(Aq hO h1).trans (y9 hO h2);cases h;cases h
theorem Ek(hO:se O){l:List aC}{bO:List (Nat×Nat)}{s s':St}(h:gm O wl aa l bO s=some s'):dx wl aa s.st s'.st:=by
 unfold gm at h;split at h;cases h;rename_i hr;split at h;cases h;exact y9 hO hr;cases h
theorem Gb{a a':AV}(h:lE wl a st=some (a',bG)):dx wl aa st bG:=by
 unfold lE at h;split at h;split at h;rename_i iO;split at h;rename_i hc;simp only[Ar,decide_eq_true_eq]at hc;cases h;exact dx.set iO hc.2 λl _ _ _=>by simp[dK.under]
 cases h;cases h;split at h;cases h;exact dx.refl _ _ _;cases h
theorem za:∀{l l':List AV}{st bG:ag},j6 wl l st=some (l',bG)->dx wl aa st bG
 |[],l',st,bG,h=>by simp only[j6,Option.some.injEq,Prod.mk.injEq]at h;obtain⟨_,rfl⟩:=h;exact dx.refl _ _ _|a::l,l',st,bG,h=>by
  simp only[j6]at h;split at h;rename_i h1;split at h;rename_i h2;cases h;exact(Gb h1).trans (za h2);cases h;cases h
theorem w9:∀{l l':List (List AV)}{st bG:ag},jH wl l st=some (l',bG)->dx wl aa st bG
 |[],l',st,bG,h=>by simp only[jH,Option.some.injEq,Prod.mk.injEq]at h;obtain⟨_,rfl⟩:=h;exact dx.refl _ _ _|a::l,l',st,bG,h=>by
  simp only[jH]at h;split at h;rename_i h1;split at h;rename_i h2;cases h;exact(za h1).trans (w9 h2);cases h;cases h
theorem tQ{a a':AV}(h:iG wl a st=some (a',bG)):dx wl aa st bG:=by
 unfold iG at h;split at h;split at h;rename_i iO;split at h;rename_i hc;simp only[Ar,decide_eq_true_eq]at hc;split at h;rename_i hl;cases h;exact(dx.set (aa:=aa) iO hc.2 λl _ _ _=>by simp[dK.under]).trans (w9 hl);cases h;cases h;cases h;cases h;exact dx.refl _ _ _;cases h
theorem Gc{a a':AV}(h:qL wl a st=some (a',bG)):dx wl aa st bG:=by
 unfold qL at h;split at h;cases h;exact dx.push _ _ _ _;exact tQ h
theorem kg(hO:se O){rs:List iE}:∀{c:aX}{s:St}{x:Ex}{s':St},iN O wl aa rs c s=some (x,s')->dx wl aa s.st s'.st
 |.skip,s,x,s',h=>by simp only[iN,Option.some.injEq,Prod.mk.injEq]at h;obtain⟨_,rfl⟩:=h;exact dx.refl _ _ _|.region cV draw dj,s,x,s',h=>by
  simp only[iN]at h;split at h;rename_i s1 h1;cases h;show dx wl aa s.st s1.st;cases draw with
  |none=>exact y8 hO (by simpa only using h1)|some bO=>exact Ek hO (by simpa only using h1)
  cases h
 |.seq a b,s,x,s',h=>by
  simp only[iN]at h;split at h;rename_i s1 h1;exact(kg hO h1).trans (kg hO h);exact kg hO h
 |.cond c ca a cb b,s,x,s',h=>by
  simp only[iN]at h;split at h;have:=kg (c:=a) hO h;exact this;have:=kg (c:=b) hO h;exact this;cases h
 |.block id c,s,x,s',h=>by
  simp only[iN]at h;split at h;rename_i h1;split at h<;>(cases h;exact kg hO h1);exact kg hO h
 |.loop c,s,x,s',h=>by simp only[iN]at h;exact hO.loop _ _ _ _ _ _ _ h|.exit id,s,x,s',h=>by simp only[iN,Option.some.injEq,Prod.mk.injEq]at h;obtain⟨_,rfl⟩:=h;exact dx.refl _ _ _|.ret,s,x,s',h=>by
  simp only[iN]at h;split at h;cases h;exact dx.refl _ _ _;cases h
 |.Qv t,s,x,s',h=>by
  simp only[iN]at h;split at h;split at h;rename_i hf;cases h;exact tQ hf;cases h;cases h
 |.DH j k,s,x,s',h=>by
  simp only[iN]at h;split at h;split at h;split at h;rename_i hf;cases h;exact tQ hf;cases h;cases h;cases h
 |.wJ t off,s,x,s',h=>by
  obtain⟨_,id,cq,i,k,v,v',nG,mQ,_,_,g3,g4,rfl⟩:=DL h;exact(Gc g3).trans (vg g4)
theorem Nc:∀m:Mode,m=.pure\/m=.oP\/m=.SH:=by
 intro m;cases m<;>simp
theorem CQ(hO:se O){sf:aA}{args:List AV}{v:AV}(h:dD O wl aa sf args st=some (v,bG)):dx wl aa st bG:=by
 unfold dD at h;split at h;split at h;rename_i x s hs;split at h;rename_i u hu;have hk:=kg hO hs;simp only[qM]at hk;rcases Nc sf.mode with hm|hm|hm;rw[hm]at h;simp only[Mode.nZ]at h;split at h;cases h;exact dx.refl _ _ _;cases h;rw[hm]at h hk;simp only[Mode.nZ]at h;simp only[Mode.wK,Mode.qc]at hk;split at h;cases h;refine⟨by rw[List.length_take];have:=hk.len;omega,λid h1 h2=>?_,λl h1 h2 h3 id ob h4 h5=>?_⟩;rw[abZ,if_pos h2];exact hk.low id h1 h2;rw[abZ]at h5;split at h5;exact hk.aa l h2 h2 h3 id ob h4 h5;cases h5;cases h;rw[hm]at h hk;simp only[Mode.nZ]at h;cases h;exact hk;cases h;cases h;cases h
theorem El(hO:se O){sf:aA}{args:List AV}{v:AV}(h:eF O wl aa sf args st=some (v,bG)):dx wl aa st bG:=by
 unfold eF at h;split at h;simp only[abQ]at h;obtain⟨x,_,hx⟩:=h;cases hx;exact dx.refl _ _ _;exact CQ hO h
theorem GQ(S:Nat->Option aA):∀n,se (qv S n)
 |0=>⟨λ_ _ _ _ _ _ _ h=>by simp[qv]at h,λ_ _ _ _ _ _ _ h=>by simp[qv]at h⟩
 |n+1=>by
  have ih:=GQ S n;refine⟨λwl aa f args st v bG h=>?_,λwl aa rs c s x s' h=>?_⟩;simp only[qv]at h;split at h;exact El ih h;cases h;simp only[qv]at h;split at h;rename_i s1 h1;exact(kg ih h1).trans (ih.loop _ _ _ _ _ _ _ h);exact kg ih h
end Ax
namespace Ax
open Go
variable {P:Program}{w w':World}{G G':aR}{β gR:List nI}
abbrev l5(a:Act)(t:Nat):Value:=a.tmps.getD t undef
structure FS (w:World)(G:aR)(β:List nI)(a:Act)(η:Nat->eW)(bx:br)(st:ag)(n:Nat):Prop where
 KF:a.defers=[]
 size:n<=a.tmps.size
 uQ:∀t,kT w G β (η t) (l5 a t)
 lt:∀t,n<=t->η t=.none
 inv:kC w G st
 box:mz w G β bx
def wh(β:List nI)(a:Act)(η:Nat->eW)(bx:br)(st:ag)(G:aR)(n:Nat)(b:Nat):Nat:=
 gP (λt=>cF b (η t) (l5 a t)) n+gO b β bx+cn b G.ls st
structure Mv (w:World)(G:aR)(A:Nat->Nat)(w':World)(G':aR)(A':Nat->Nat):Prop where
 kA:tM w G w' G'
 gb:∀b,b<w.heap.size->A' b<=A b
 one:∀b,A' b<=1
 wR:∀b,b<w.heap.size->A b=0->eC w G w' G' b
 size:w.heap.size<=w'.heap.size
 os:w'.os=w.os
 out:w'.output=w.output
theorem Mv.refl{A:Nat->Nat}(h:∀b,A b<=1):Mv w G A w G A:=⟨tM.refl w G,λ_ _=>aaH _,h,λ_ _ _=>⟨rfl,rfl⟩,aaH _,rfl,rfl⟩
theorem eC.trans{w1 w2 w3:World}{G1 G2 G3:aR}{b:Nat}(h:eC w1 G1 w2 G2 b)(k:eC w2 G2 w3 G3 b):eC w1 G1 w3 G3 b:=⟨k.1.trans h.1,k.2.trans h.2⟩
theorem Mv.trans{A A' A'':Nat->Nat}{w'':World}{G'':aR}(h:Mv w G A w' G' A')(k:Mv w' G' A' w'' G'' A''):Mv w G A w'' G'' A'' where
 kA:=h.kA.trans k.kA
 gb:=λb hb=>acF (k.gb b (agu hb h.size)) (h.gb b hb)
 one:=k.one
 wR:=λb hb h0=>(h.wR b hb h0).trans (k.wR b (agu hb h.size) (by have:=h.gb b hb;omega))
 size:=acF h.size k.size
 os:=k.os.trans h.os
 out:=k.out.trans h.out
theorem Mv.TF{A A' B B':Nat->Nat}(h:Mv w G A w' G' A')(hB:∀b,A b<=B b)(hc:∀b,b<w.heap.size->B' b<=B b)(ho:∀b,B' b<=1):Mv w G B w' G' B':=
 ⟨h.kA,hc,ho,λb hb h0=>h.wR b hb (by have:=hB b;omega),h.size,h.os,h.out⟩
theorem GS{e:eW}{v:Value}{b:Nat}(h:kT w G β e v)(hb:0<cF b e v):b<w.heap.size:=by
 cases e with
 |none=>simp[cF]at hb|fp j k=>simp[cF]at hb|val a=>exact aY.held h hb
section
variable {a:Act}{η:Nat->eW}{bx:br}{st:ag}{n:Nat}
theorem FS.held(h:FS w G β a η bx st n){b:Nat}(hb:0<wh β a η bx st G n b):b<w.heap.size:=by
 unfold wh at hb;by_cases h1:0<gO b β bx;exact h.box.held h1;by_cases h2:0<cn b G.ls st;exact h.inv.held h2;have h3:0<gP (λt=>cF b (η t) (l5 a t)) n:=by omega
 have key:∀n,0<gP (λt=>cF b (η t) (l5 a t)) n->∃t,0<cF b (η t) (l5 a t):=by
  intro n;induction n with
  |zero=>intro h;simp[gP]at h|succ n ih=>
   intro h;simp only[gP]at h;by_cases h0:0<cF b (η n) (l5 a n);exact⟨n,h0⟩;exact ih (by omega)
 obtain⟨t,ht⟩:=key n h3;exact GS (h.uQ t) ht
end
theorem kT.bx{e:eW}{v:Value}{nb:Option Nat}(h:kT w G β e v)(hb:gX nb β gR)(hn:∀j,nb=some j->e.qa j=true):kT w G gR e v:=by
 cases e with
 |none=>trivial|val a=>exact h|fp j k=>
  obtain⟨g,b,h1,h2,h3⟩:=h;obtain⟨g',a1,a2⟩:=hb j g h1;refine⟨g',b,a1,(a2 λe=>?_).trans h2,h3⟩;have:=hn j e;simp[eW.qa]at this
theorem kT.kA{e:eW}{v:Value}(h:kT w G β e v)(hs:tM w G w' G')(hu:∀b,0<cF b e v->eC w G w' G' b):kT w' G' β e v:=by
 cases e with
 |none=>trivial|val a=>exact aY.kA h hs hu|fp j k=>exact h
def Bk(η:Nat->eW):Src->eW
 |.tmp t true=>η t|.tmp t false=>(η t).view|.const a=>.val a
theorem Dj(env:qo)(s:Src):J6 env s=Bk (cR env) s:=by
 cases s with
 |tmp t mv=>cases mv<;>rfl|const a=>rfl
def vh(η:Nat->eW):Option (Nat×Bool)->Option Bool
 |none=>some true|some (t,b)=>match η t with
  |.val (.bool c)=>some (c==b)|.val .undef=>some false|_=>none
theorem GU(env:qo)(g:Option (Nat×Bool)):nw env g=vh (cR env) g:=by
 cases g with
 |none=>rfl|some x=>rfl
def kI(η:Nat->eW)(dst:Option Nat)(e:eW):Nat->eW:=λt=>if dst=some t then e else η t
def jW(η:Nat->eW)(l:List Nat):Nat->eW:=λt=>if t∈l then .none else η t
theorem OU{a:Act}{η:Nat->eW}(hr:∀t,kT w G β (η t) (l5 a t)):∀{x:Operand}{s:Src},MM x s=true->kT w G β (Bk η s) (a.eval x)/\∀b,cF b (Bk η s) (a.eval x)<=qw (λt=>cF b (η t) (l5 a t)) (qT [s])
 |.tmp t,.tmp u true,h=>by
  simp only[MM,beq_iff_eq]at h;subst h;exact⟨hr t,λb=>by simp only[qT,qw,Bk];exact aaH _⟩
 |.tmp t,.tmp u false,h=>by
  simp only[MM,beq_iff_eq]at h;subst h;exact⟨(hr t).view,λb=>by simp only[Bk,Gu];omega⟩
 |.const v,.const c,h=>by
  simp only[MM]at h;obtain⟨h1,h2,_⟩:=DT h w G;exact⟨h1,λb=>by simp only[Bk,cF,fU b c _ h2];omega⟩
 |.func f,.const (.fn g [] []),h=>by
  simp only[MM,Ar,beq_iff_eq,decide_eq_true_eq]at h;obtain⟨rfl,hf⟩:=h;exact⟨aY.fn f [] [] #[] #[] rfl rfl ⟨rfl,rfl,hf⟩ (λi c v h=>by simp at h) (λi c v h=>by simp at h),λb=>by simp[Bk,cF,gb]⟩
theorem TH(s:Src)(r:List Src):qT (s::r)=qT [s]++qT r:=by
 cases s with
 |tmp t mv=>cases mv<;>rfl|const a=>rfl
theorem Cc(f:Nat->Nat):∀(l m:List Nat),qw f (l++m)=qw f l+qw f m
 |[],m=>by simp[qw]|t::l,m=>by simp only[List.cons_append,qw,Cc f l m];omega
theorem KG{a:Act}{η:Nat->eW}(hr:∀t,kT w G β (η t) (l5 a t)):∀{xs:List Operand}{ss:List Src},jo xs ss=true->lF w G β (ss.map (Bk η)) (xs.map a.eval)/\
  ∀b,mM b (ss.map (Bk η)) (xs.map a.eval)<=qw (λt=>cF b (η t) (l5 a t)) (qT ss)
 |[],[],_=>⟨trivial,λb=>by simp[mM]⟩
 |x::xs,s::ss,h=>by
  simp only[jo,Ar]at h;obtain⟨h1,h2⟩:=OU hr h.1;obtain⟨h3,h4⟩:=KG hr h.2;refine⟨⟨h1,h3⟩,λb=>?_⟩;have e1:=h2 b;have e2:=h4 b;rw[TH,Cc];simp only[abh,mM];omega
 |[],_::_,h=>by simp[jo]at h|_::_,[],h=>by simp[jo]at h
def Nd(cV:Array Oper)(o:Oper)(so:aC):Bool:=
 match o.guard,so.guard with
 |none,none=>true|some (j,b),some (t,c)=>b==c&&(match cV[j]? with|some q=>q.dst==some t|none=>false)|_,_=>false
def xd:List Nat->Bool
 |[]=>true|t::l=>!(l.contains t)&&xd l
theorem x0:∀{l:List Nat},xd l=true->l.Nodup
 |[],_=>akc|t::l,h=>by
  simp only[xd,Ar,acg,afz,decide_eq_false_iff_not]at h;exact aiK.2 ⟨h.1,x0 h.2⟩
def GW(S:Nat->Option aA)(P:Program)(cV:Array Oper)(n:Nat)(o:Oper)(so:aC):Bool:=
 mOp S P o so&&Nd cV o so&&(match so.dst with|some d=>decide (d<n)|none=>true)&&xd (qT so.args)
theorem QS{cV:Array Oper}{o:Oper}{so:aC}{a:Act}{η:Nat->eW}{n:Nat}(hg:Nd cV o so=true)(hr:∀t,kT w G β (η t) (l5 a t))(aQ:∀t,n<=t->η t=.none)(fM:n<=a.tmps.size){b:Bool}
  (hw:vh η so.guard=some b):Region.wanted o (yielded cV a.tmps)=b:=by
 unfold Nd at hg;split at hg;rename_i h1 h2;rw[h2]at hw;simp only[vh]at hw;cases hw;simp[Region.wanted,h1];rename_i j b1 t c h1 h2;simp only[Ar,beq_iff_eq]at hg;obtain⟨rfl,hg⟩:=hg;split at hg;rename_i q hq;simp only[beq_iff_eq]at hg;rw[h2]at hw;simp only[vh]at hw;have hy:yielded cV a.tmps j=match a.tmps[t]? with|some (.bool b)=>some b|_=>none:=by
  simp only[yielded,hq,Option.bind_some,hg]
  rfl
 have CS:=hr t;split at hw;rename_i c hc;cases hw;have ht:t<n:=by
  rcases afu t n with h|h;exact h;rw[aQ t h]at hc;cases hc
 rw[hc]at CS;have hv:=aY.lX CS;have ht':a.tmps[t]?=some (.bool c):=by
  have hs:t<a.tmps.size:=by omega
  have:a.tmps.getD t undef=a.tmps[t]:=by simp[Array.getD,hs]
  rw[<-hv,l5,this];simp[hs]
 simp only[Region.wanted,h1,hy,ht']
 rfl
 rename_i hc;cases hw;have ht:t<n:=by
  rcases afu t n with h|h;exact h;rw[aQ t h]at hc;cases hc
 rw[hc]at CS;have hv:l5 a t=undef:=by
  generalize l5 a t=v at CS;cases CS;rfl
 have ht':a.tmps[t]?=some undef:=by
  have hs:t<a.tmps.size:=by omega
  have:a.tmps.getD t undef=a.tmps[t]:=by simp[Array.getD,hs]
  rw[<-hv,l5,this];simp[hs]
 simp only[Region.wanted,h1,hy,ht']
 rfl
 cases hw;cases hg;cases hg
end Ax
namespace Ax
open Go
variable {P:Program}{w w':World}{G G':aR}{β gR:List nI}
def QT (P : Program) (f : FuncId) : Prop := ∃ fn, P.funcs[f]? = some fn ∧ (fn.name == "runtime.NumGoroutine") = false ∧ fn.body.isNone = false
def kh(S:Nat->Option aA)(P:Program)(O:ku):Prop:=
 ∀wl aa f args st v bG,O.call wl aa f args st=some (v,bG)->∃sf,S f=some sf/\QT P sf.eJ/\(f<100000->sf.eJ=f)/\
  ∀(w:World) (G:aR) (vs:List Value),cy w G args vs->kC w G st->(∀b,bZ b args vs+cn b G.ls st<=1)->
   Calls P sf.eJ vs.toArray w λe w'=>∃u G',e=.returned u/\aY w' G' v u/\kC w' G' bG/\
    Mv w G (λb=>bZ b args vs+cn b G.ls st) w' G' (λb=>gb b v u+cn b G'.ls bG)
theorem En{f:FuncId}(h:QT P f)(args:Array Value)(w:World):(callFunc f args).run P w=.ok (.enter f args) w:=by
 obtain⟨fn,h1,h2,h3⟩:=h;have h4 : ¬ fn.name = "runtime.NumGoroutine" := by simpa using h2
 have h5:¬fn.body=none:=by intro h;rw[h]at h3;simp at h3
 simp[callFunc,h1,h4,h5]
theorem GX{ρ:Operand->Value}{o:Oper}{c:Call}{f:FuncId}{vf vc:Array Value}{x:Operand}(ho:o.op=.call c)(hc:c.callee=.value x)(hx:ρ x=.func (.func f) vf vc)(hf:QT P f)(w:World) :
  (execOp ρ o).run P w=.ok (.enter f (vf++c.args.map ρ++vc)) w:=by
 simp only[execOp,ho,resolve,hc,hx,Deferred.ofValue,Sem.run_bind,Sem.run_pure,Result.andThen_ok,invoke,En hf]
theorem QU{l:List eW}{x:Nat×List AV}(h:mX .uf l=some x):∃f first oY l' vs,l=.val (.fn f first oY)::l'/\jt l'=some vs/\x=(f,first++vs++oY):=by
 unfold mX at h;split at h;rename_i heq;cases heq;rename_i f first oY l' _
 split at h;rename_i vs DP;cases h;exact⟨f,first,oY,l',vs,rfl,DP,rfl⟩;cases h;cases h
section
variable {S:Nat->Option aA}{O:ku}{cV:Array Oper}{n:Nat}{o:Oper}{so:aC}{a:Act}{η:Nat->eW}{bx gK:br}{st bG:ag}{wl aa:Nat}{e:eW}
theorem FS.after(hs:FS w G β a η bx st n)(h1:∀b,wh β a η bx st G n b<=1){cO:Nat->Nat}(hcO:∀b,cO b=qw (λt=>cF b (η t) (l5 a t)) (qT so.args))(hnd:(qT so.args).Nodup)(hd:∀d,so.dst=some d->d<n){v:Value}
  (hA:lQ w G β st bx cO w' G' gR bG gK e v)(hB:gX so.op.aI β gR)(QB:∀j,so.op.aI=some j->∀t,so.dst≠some t->t ∉ qT so.args->(η t).qa j=true) :
  FS w' G' gR (a.put so.dst v) (kI (jW η (qT so.args)) so.dst e) gK bG n/\Mv w G (wh β a η bx st G n) w' G' (wh gR (a.put so.dst v) (kI (jW η (qT so.args)) so.dst e) gK bG G' n):=by
 have YG:∀t,l5 (a.put so.dst v) t=if so.dst=some t then (if t<n then v else l5 (a.put so.dst v) t) else l5 a t:=by
  intro t;cases Bu:so.dst with
  |none=>simp[Act.put]|some d=>
   have hdn:=hd d Bu;have hdt:d<a.tmps.size:=agu hdn hs.size;by_cases ht:d=t;subst ht;simp[Act.put,l5,hdn,hdt];simp[ht,Act.put,l5]
 have TI:∀t,t<n->so.dst=some t->l5 (a.put so.dst v) t=v:=λt h1 h2=>by rw[YG t,if_pos h2,if_pos h1]
 have KH:∀t,so.dst≠some t->l5 (a.put so.dst v) t=l5 a t:=λt h=>by rw[YG t,if_neg h]
 have Gd:∀b,cO b+gP (λt=>if t∈qT so.args then 0 else cF b (η t) (l5 a t)) n<=gP (λt=>cF b (η t) (l5 a t)) n:=λb=>by
  rw[hcO];exact Ao (λt ht=>by rw[hs.lt t ht];rfl) _ hnd
 have mw:∀b t,so.dst≠some t->t ∉ qT so.args->0<cF b (η t) (l5 a t)->cO b+gO b β bx+cn b G.ls st=0:=by
  intro b t h2 h3 h4;have htn:t<n:=by
   rcases afu t n with h|h;exact h;rw[hs.lt t h]at h4;simp[cF]at h4
  have h5:=w8 (f:=λt=>if t∈qT so.args then 0 else cF b (η t) (l5 a t)) htn;simp only[if_neg h3]at h5;have h6:=Gd b;have h7:=h1 b;unfold wh at h7;omega
 have fG:∀t,so.dst≠some t->t ∉ qT so.args->kT w' G' gR (η t) (l5 a t):=λt h2 h3=>
  ((hs.uQ t).kA hA.kA λb hb=>hA.wR b (mw b t h2 h3 hb) (GS (hs.uQ t) hb)).bx hB λj hj=>QB j hj t h2 h3
 have hFS:FS w' G' gR (a.put so.dst v) (kI (jW η (qT so.args)) so.dst e) gK bG n:=by
  refine⟨?_,?_,λt=>?_,λt ht=>?_,hA.inv,hA.box⟩;cases Bu:so.dst<;>simp[Act.put,hs.KF];cases Bu:so.dst<;>simp[Act.put,hs.size];simp only[kI,jW];by_cases h2:so.dst=some t;rw[if_pos h2,TI t (hd t h2) h2];exact hA.uQ;rw[if_neg h2,KH t h2];by_cases h3:t∈qT so.args;rw[if_pos h3];trivial;rw[if_neg h3];exact fG t h2 h3;simp only[kI,jW];rw[if_neg (λh=>by have:=hd t h;omega)];rw[hs.lt t ht];simp
 have MU:∀b,wh gR (a.put so.dst v) (kI (jW η (qT so.args)) so.dst e) gK bG G' n b<=wh β a η bx st G n b+(if w.heap.size<=b then 1 else 0):=by
  intro b;have h2:=hA.gb b;have h3:=Gd b;have h4:gP (λt=>cF b (kI (jW η (qT so.args)) so.dst e t) (l5 (a.put so.dst v) t)) n<=gP (λt=>if t∈qT so.args then 0 else cF b (η t) (l5 a t)) n+cF b e v:=by
   cases Bu:so.dst with
   |none=>
    rw[Bu]at KH;have:gP (λt=>cF b (kI (jW η (qT so.args)) none e t) (l5 (a.put none v) t)) n=gP (λt=>if t∈qT so.args then 0 else cF b (η t) (l5 a t)) n:=o6 λt _=>by
     rw[KH t (by simp)];simp only[kI,jW];rw[if_neg (by simp)];split<;>rfl
    rw[this];omega
   |some d=>
    rw[Bu]at KH TI;have h5:=uw (f:=λt=>cF b (kI (jW η (qT so.args)) (some d) e t) (l5 (a.put (some d) v) t)) (g:=λt=>if t∈qT so.args then 0 else cF b (η t) (l5 a t)) (d:=d) (hd d Bu) λt ht=>by
     rw[KH t (by simpa using λh=>ht h.symm)];simp only[kI,jW];rw[if_neg (by simpa using λh=>ht h.symm)];split<;>rfl
    have h6:cF b (kI (jW η (qT so.args)) (some d) e d) (l5 (a.put (some d) v) d)=cF b e v:=by
     rw[TI d (hd d Bu) rfl];simp[kI]
    rw[h6]at h5;omega
  unfold wh;omega
 refine⟨hFS,hA.kA,λb hb=>?_,λb=>?_,λb hb h0=>hA.wR b ?_ hb,hA.size,hA.os,hA.out⟩;have:=MU b;rw[if_neg (by omega)]at this;exact this;have h2:=MU b;by_cases hb:w.heap.size<=b;rw[if_pos hb]at h2;have h3:wh β a η bx st G n b=0:=by
  rcases agh (wh β a η bx st G n b) with h|h;exact h;have:=hs.held h;omega
 omega;rw[if_neg hb]at h2;have:=h1 b;omega;have h2:=Gd b;unfold wh at h0;omega
theorem TJ{v:AV}{u:Value}{args:List AV}{vs:List Value}{cO:Nat->Nat}(hB:mz w G β bx)(hX:∀b,cO b+gO b β bx+cn b G.ls st<=1)(hc:∀b,bZ b args vs<=cO b)(hr:aY w' G' v u)(hI':kC w' G' bG)
  (hM:Mv w G (λb=>bZ b args vs+cn b G.ls st) w' G' (λb=>gb b v u+cn b G'.ls bG)):lQ w G β st bx cO w' G' β bG bx (.val v) u where
 kA:=hM.kA
 inv:=hI'
 box:=nP hB hM.kA λb hb=>hM.wR b (hB.held hb) (by have h1:=hX b;have h2:=hc b;omega)
 uQ:=hr
 gb:=λb=>by
  simp only[cF];by_cases hb:w.heap.size<=b;rw[if_pos hb];have h1:=hM.one b;have h2:gO b β bx=0:=by
   rcases agh (gO b β bx) with h|h;exact h;have:=hB.held h;omega
  omega;rw[if_neg hb];have h1:=hM.gb b (by omega);have h2:=hc b;omega
 wR:=λb h0 hb=>hM.wR b hb (by have:=hc b;omega)
 size:=hM.size
 os:=hM.os
 out:=hM.out
theorem OW{Q:Exit->Act->World->Prop}{i:Nat}(hi:cV[i]?=some o)(hm:GW S P cV n o so=true)(hO:kh S P O)(hs:FS w G β a η bx st n)(h1:∀b,wh β a η bx st G n b<=1){K:Act->World->Prop}{b:Bool}
  (hw:vh η so.guard=some b)
  (iu:b=false->∀(a':Act),FS w G β a' (kI η so.dst (.val .undef)) bx st n->Mv w G (wh β a η bx st G n) w G (wh β a' (kI η so.dst (.val .undef)) bx st G n)->K a' w)
  (alI:b=true->∃e bG gK,tK O wl aa so.op (so.args.map (Bk η)) st bx=some (e,bG,gK)/\(∀j,so.op.aI=some j->∀t,so.dst≠some t->t ∉ qT so.args->(η t).qa j=true)/\
   ∀(w':World) (G':aR) (gR:List nI) (a':Act),FS w' G' gR a' (kI (jW η (qT so.args)) so.dst e) gK bG n->Mv w G (wh β a η bx st G n) w' G' (wh gR a' (kI (jW η (qT so.args)) so.dst e) gK bG G' n)->K a' w') :
  wpOp P cV Q i K a w:=by
 unfold GW at hm;simp only[Ar]at hm;obtain⟨⟨⟨hm,hg⟩,hd0⟩,hnd⟩:=hm;have hd:∀d,so.dst=some d->d<n:=λd hd=>by rw[hd]at hd0;simpa using hd0
 have hnd:=x0 hnd;have Bu:o.dst=so.dst:=by
  unfold mOp at hm;rw[Ar]at hm;have:=hm.1;split at this;rename_i h1 h2;simp only[beq_iff_eq]at this;rw[h1,h2,this];rename_i h1 h2;rw[h1,h2];cases this
 have ahi:=QS hg hs.uQ hs.lt hs.size hw;unfold wpOp;rw[hi];simp only[ahi];cases b with
 |false=>
  simp only[aaq,if_false];rw[Bu];have hA:lQ w G β st bx (λb=>qw (λt=>cF b (η t) (l5 a t)) (qT ([]:List Src))) w G β st bx (.val .undef) undef:=lQ.ou hs.inv hs.box .undef λb=>by simp[cF,gb]
  obtain⟨f1,f2⟩:=FS.after (so:=⟨so.dst,.move,[],none⟩) hs h1 (λb=>rfl) akc hd hA (gX.refl _ _) (λj hj=>by simp[dG.aI]at hj);have hk:jW η (qT ([]:List Src))=η:=by funext t;simp[jW,qT]
  simp only[hk]at f1 f2;exact iu rfl _ f1 f2
 |true=>
  obtain⟨e,bG,gK,ha,QB,hK⟩:=alI rfl;simp only[if_true];refine .inl ?_;have hX:∀b,qw (λt=>cF b (η t) (l5 a t)) (qT so.args)+gO b β bx+cn b G.ls st<=1:=λb=>by
   have h2:=Ao (f:=λt=>cF b (η t) (l5 a t)) (n:=n) (λt ht=>by rw[hs.lt t ht];rfl) _ hnd;have h3:=h1 b;unfold wh at h3;omega
  have hA:∀xs,jo xs so.args=true->lF w G β (so.args.map (Bk η)) (xs.map a.eval)/\∀b,mM b (so.args.map (Bk η)) (xs.map a.eval)<=qw (λt=>cF b (η t) (l5 a t)) (qT so.args):=λxs hxs=>KG hs.uQ hxs;have plain:aU wl aa so.op (so.args.map (Bk η)) st bx=some (e,bG,gK)->o.wp P a w K Q:=by
   intro ha;obtain⟨nx,v,w',G',gR,e1,e2,e3,e4⟩:=acD hm hs.inv hs.box hX hA ha;obtain⟨f1,f2⟩:=FS.after hs h1 (λb=>rfl) hnd hd e3 e4 QB;have hk:=hK w' G' gR _ f1 f2;unfold Oper.wp;rw[e1];rcases e2 with rfl|⟨rfl,rfl⟩;rw[Oper.upon_value,Bu];exact hk;rw[Oper.upon_skip,Bu];exact hk
  have call:∀(f i:Nat) (vs:List AV) (us:List Value) (G0:Prop),fW O wl aa (some (i,vs)) st bx=some (e,bG,gK)->cy w G vs us->(∀b,bZ b vs us<=qw (λt=>cF b (η t) (l5 a t)) (qT so.args))->so.op.aI=none->
    (∀sf,S i=some sf->(i<100000->sf.eJ=i)->sf.eJ=f)->(QT P f->(execOp a.eval o).run P w=.ok (.enter f us.toArray) w)->o.wp P a w K Q:=by
   intro f i vs us _ hc fG FR XU hsf hex;unfold fW at hc;simp only at hc;split at hc;rename_i v nG fJ;cases hc;obtain⟨sf,s1,s2,s3,s4⟩:=hO _ _ _ _ _ _ _ fJ;have hf:=hsf sf s1 s3;rw[hf]at s2 s4;have acG:=s4 w G us fG hs.inv λb=>by have h2:=hX b;have h3:=FR b;omega
   unfold Oper.wp;rw[hex s2,Oper.upon_enter];refine acG.mono λen w' hen=>?_;obtain⟨u,G',rfl,r1,r2,r3⟩:=hen;have hA1:=TJ hs.box hX FR r1 r2 r3;obtain⟨f1,f2⟩:=FS.after hs h1 (λb=>rfl) hnd hd hA1 (gX.refl _ _) QB;have hk:=hK w' G' β _ f1 f2;simp only;rw[Bu];exact hk;cases hc
  unfold tK at ha;split at ha;rename_i i OX;unfold mOp at hm;rw[Ar]at hm;replace hm:=hm.2;rw[OX]at hm;simp only[mX]at ha;cases DP:jt (so.args.map (Bk η)) with
  |none=>rw[DP]at ha;simp[fW]at ha|some vs=>
   rw[DP]at ha;split at hm<;>first|(rename_i h1 h2;cases h2;done)|(rename_i h2;cases h2;done)|(rename_i h1 h2;cases h1;done)|skip
   rename_i c i' hco heq;cases heq;split at hm;rename_i f w6;simp only[Ar]at hm;obtain⟨hms,hmf⟩:=hm;obtain⟨hR,hC⟩:=hA _ hms;obtain⟨r1,r2⟩:=hR.TD DP;refine call f i vs _ True ha r1 (λb=>by rw[<-r2];exact hC b) (by rw[OX];rfl) (λsf h1 h2=>?_) λhF=>?_;rw[h1]at hmf;simpa using hmf;have:=GX (ρ:=a.eval) hco w6 (show a.eval (.func f)=.func (.func f) #[] #[] from rfl) hF w;rw[this];congr 2;apply ajp;simp;cases hm;cases hm
  ·rename_i OX;unfold mOp at hm;rw[Ar]at hm;replace hm:=hm.2;rw[OX]at hm;split at hm<;>first|(rename_i h1 h2;cases h2;done)|(rename_i h2;cases h2;done)|(rename_i h1 h2;cases h1;done)|skip
   ·rename_i c hco heq;split at hm
    ·rename_i x w6;obtain⟨hR,hC⟩:=hA _ hm;cases zW:mX .uf (so.args.map (Bk η)) with
     |none=>rw[zW]at ha;simp[fW]at ha|some y=>
      rw[zW]at ha;obtain⟨f,first,oY,l,vs,YD,DP,rfl⟩:=QU zW;rw[YD]at hR hC;simp only[abh]at hR hC;obtain⟨hR0,QM⟩:=hR;obtain⟨r1,r2⟩:=lF.TD QM DP;simp only[kT]at hR0;generalize MO:a.eval x=xv at hR0 hC;cases hR0 with
      |fn _ _ _ vf vc hl hm' hn hh uu=>
      refine call f f (first++vs++oY) (vf.toList++c.args.toList.map a.eval++vc.toList) True ha ((cy.append ⟨by simpa using hl,λi c v e1 e2=>hh i c v e1 (by simpa using e2)⟩ r1).append ⟨by simpa using hm',λi c v e1 e2=>uu i c v e1 (by simpa using e2)⟩) (λb=>?_) (by rw[OX];rfl) (λsf h1 h2=>h2 hn.2.2) λhF=>?_;rw[gC b _ _ _ _ (by simp only[List.length_append,hl,r1.1];simp),gC b _ _ _ _ (by simpa using hl),ee b _ _ hn.1,ee b _ _ hn.2.1];have h2:=hC b;have h3:=r2 b;simp only[mM]at h2;omega;have:=GX (ρ:=a.eval) hco w6 MO hF w;rw[this];congr 2;apply ajp;simp
    cases hm
   cases hm
  exact plain ha
end
end Ax
namespace Ax
open Go
variable {P:Program}{w w':World}{G G':aR}{β gR:List nI}
variable {S:Nat->Option aA}{O:ku}{a:Act}{bx:br}{st:ag}{n wl aa:Nat}{s s':St}{η:Nat->eW}
abbrev FT(w:World)(G:aR)(β:List nI)(a:Act)(s:St)(n:Nat):Prop:=FS w G β a (cR s.env) s.bx s.st n
abbrev gZ(β:List nI)(a:Act)(s:St)(G:aR)(n:Nat):Nat->Nat:=wh β a (cR s.env) s.bx s.st G n
theorem FS.congr{SM:Nat->eW}(h:FS w G β a η bx st n)(he:∀t,SM t=η t):FS w G β a SM bx st n:=by
 have:SM=η:=funext he;rw[this];exact h
theorem FS.TK{SM:Nat->eW}(h:FS w G β a η bx st n)(he:∀t,SM t=η t\/SM t=.none):FS w G β a SM bx st n/\∀b,wh β a SM bx st G n b<=wh β a η bx st G n b:=by
 refine⟨⟨h.KF,h.size,λt=>?_,λt ht=>?_,h.inv,h.box⟩,λb=>?_⟩;rcases he t with e|e;rw[e];exact h.uQ t;rw[e];trivial;rcases he t with e|e;rw[e];exact h.lt t ht;exact e;unfold wh;have:=Dh (f:=λt=>cF b (SM t) (l5 a t)) (g:=λt=>cF b (η t) (l5 a t)) (n:=n) λt _=>by
  rcases he t with e|e;rw[e];exact aaH _;rw[e];simp[cF]
 omega
theorem kD(env:qo)(dst:Option Nat)(e:eW):cR (yH env dst e)=kI (cR env) dst e:=by
 funext t;cases dst with
 |none=>simp[yH,kI]|some d=>
  simp only[yH,kI,w7,Option.some.injEq];by_cases h:t=d;rw[if_pos h,if_pos h.symm];rw[if_neg h,if_neg λe=>h e.symm]
theorem vk(env:qo)(ss:List Src):cR (ss.foldl mW env)=jW (cR env) (qT ss):=by
 funext t;rw[uv]
 rfl
theorem QV{cV:Array Oper}{o:Oper}{so:aC}{Q:Exit->Act->World->Prop}{i:Nat}(hi:cV[i]?=some o)(hm:GW S P cV n o so=true)(hO:kh S P O)(hs:FT w G β a s n)(h1:∀b,gZ β a s G n b<=1){K:Act->World->Prop}
  (he:iz O wl aa so s=some s')(hK:∀(w':World)(G':aR)(gR:List nI)(a':Act),FT w' G' gR a' s' n->Mv w G (gZ β a s G n) w' G' (gZ gR a' s' G' n)->K a' w'):wpOp P cV Q i K a w:=by
 unfold iz at he;rw[GU]at he;split at he;cases he;rename_i hw;cases he;refine OW (wl:=wl) (aa:=aa) hi hm hO hs h1 hw (λ_ a' f1 f2=>?_) (λh=>by cases h);refine hK w G β a' ?_ ?_;rw[FT,kD];exact f1;rw[show gZ β a' { s with env:=yH s.env so.dst (.val .undef) } G n=wh β a' (kI (cR s.env) so.dst (.val .undef)) s.bx s.st G n by rw[gZ,kD]];exact f2;rename_i hw;have yY:so.args.map (J6 s.env)=so.args.map (Bk (cR s.env)):=List.map_congr_left λx _=>Dj s.env x;rw[yY]at he;split at he;cases he;rename_i e bG gK ha;have nZ:∀(w':World) (G':aR) (gR:List nI) (a':Act),s'=⟨yH (so.args.foldl mW s.env) so.dst e,gK,bG⟩->FS w' G' gR a' (kI (jW (cR s.env) (qT so.args)) so.dst e) gK bG n->
   Mv w G (wh β a (cR s.env) s.bx s.st G n) w' G' (wh gR a' (kI (jW (cR s.env) (qT so.args)) so.dst e) gK bG G' n)->K a' w':=by
  intro w' G' gR a' J9 f1 f2;subst J9;refine hK w' G' gR a' ?_ ?_;rw[FT,kD,vk];exact f1;rw[show gZ gR a' ⟨yH (so.args.foldl mW s.env) so.dst e,gK,bG⟩ G' n=wh gR a' (kI (jW (cR s.env) (qT so.args)) so.dst e) gK bG G' n by rw[gZ,kD,vk]];exact f2
 split at he;rename_i XU;cases he;exact OW hi hm hO hs h1 hw (λh=>by cases h) λ_=>⟨e,bG,gK,ha,(λj hj=>by rw[XU]at hj;cases hj),λw' G' gR a' f1 f2=>nZ w' G' gR a' rfl f1 f2⟩;rename_i j XU;split at he;rename_i QB;cases he;refine OW hi hm hO hs h1 hw (λh=>by cases h) λ_=>⟨e,bG,gK,ha,λj' hj t SL ht2=>?_,λw' G' gR a' f1 f2=>nZ w' G' gR a' rfl f1 f2⟩;rw[XU]at hj;cases hj;have:=Eh QB t;rw[kD,vk]at this;simp only[kI,jW]at this;rw[if_neg SL,if_neg ht2]at this;exact this;cases he
def sj(S:Nat->Option aA)(P:Program)(cV:Array Oper)(n:Nat):List Oper->List aC->Bool
 |[],[]=>true|o::l,so::m=>GW S P cV n o so&&sj S P cV n l m|_,_=>false
theorem Eo{cV:Array Oper}{Q:Exit->Act->World->Prop}(hO:kh S P O):∀(l:List Oper)(m:List aC)(k:Nat)(w:World)(G:aR)(β:List nI)(a:Act)(s:St),cV.toList.drop k=l->sj S P cV n l m=true->
  FT w G β a s n->(∀b,gZ β a s G n b<=1)->fL O wl aa m s=some s'->(∀(w':World) (G':aR) (gR:List nI) (a':Act),FT w' G' gR a' s' n->Mv w G (gZ β a s G n) w' G' (gZ gR a' s' G' n)->Q .normal a' w')->
  wpOps P cV Q (List.range' k l.length) a w
 |[],[],k,w,G,β,a,s,hl,hm,hs,h1,he,hQ=>by
  simp only[fL,Option.some.injEq]at he;subst he;simp only[List.length_nil,List.range'_zero,wpOps];exact hQ w G β a hs (Mv.refl h1)
 |o::l,so::m,k,w,G,β,a,s,hl,hm,hs,h1,he,hQ=>by
  simp only[sj,Ar]at hm;simp only[fL]at he;split at he;rename_i s1 KE;simp only[abq,List.range'_succ];rw[wpOps_cons];have hi:cV[k]?=some o:=by
   have:(cV.toList.drop k)[0]?=some o:=by rw[hl];rfl
   rw[List.getElem?_drop]at this;simpa using this
  refine QV hi hm.1 hO hs h1 KE λw1 G1 β1 a1 f1 f2=>?_;refine Eo hO l m (k+1) w1 G1 β1 a1 s1 ?_ hm.2 f1 f2.one he λw2 G2 TM a2 g1 g2=>hQ w2 G2 TM a2 g1 (f2.trans g2);rw[show k+1=k+1 from rfl,<-List.drop_drop,hl]
  rfl
  cases he
 |[],_::_,_,_,_,_,_,_,_,hm,_,_,_,_=>by simp[sj]at hm|_::_,[],_,_,_,_,_,_,_,hm,_,_,_,_=>by simp[sj]at hm
def zD(P:Program):List ResultVar->List iE->Bool
 |[],[]=>true|.tmp t::l,.tmp u _::m=>t==u&&zD P l m|.cell t ty::l,.box u _ n agg::m=>t==u&&dm P ty n&&oo P ty==some agg&&(agg||n==1)&&zD P l m|.cell t ty::l,.cell u n agg::m=>t==u&&dm P ty n&&oo P ty==some agg&&(agg||n==1)&&zD P l m|_,_=>false
def vm:List iE->List Nat
 |[]=>[]
 |.tmp t true::l=>t::vm l|_::l=>vm l
def Ep:List iE->List Nat
 |[]=>[]
 |.box _ j _ _::l=>j::Ep l|_::l=>Ep l
end Ax
namespace Ax
open Go
variable {P:Program}{w w':World}{G G':aR}{β gR:List nI}
variable {a:Act}{bx:br}{st:ag}{n:Nat}{s:St}
def Er(tmps:Array Value):ResultVar->Sem Value
 |.tmp t=>pure (tmps.getD t undef)|.cell c t=>do loadVar t (<-asAddr (tmps.getD c undef))
def QW(us:List Value):Value:=match us with | [u]=>u|_=>.tuple us.toArray
theorem KI{fn:Func}{tmps:Array Value}{us:List Value}(h:(fn.results.toList.mapM (Er tmps)).run P w=.ok us w):(results fn tmps).run P w=.ok (QW us) w:=by
 have h2:(fn.results.mapM (Er tmps)).run P w=.ok us.toArray w:=by
  have e:fn.results.mapM (Er tmps)=List.toArray <$> fn.results.toList.mapM (Er tmps):=by
   rw[Array.mapM_eq_mapM_toList]
  rw[e,map_eq_pure_bind,Sem.run_bind,h]
  rfl
 have e3:results fn tmps=(fn.results.mapM (Er tmps)).bind λvs=>Pure.pure (if h:vs.size=1 then vs[0] else .tuple vs):=rfl;rw[e3];show Sem.run P (fn.results.mapM (Er tmps) >>= λvs=>Pure.pure (if h:vs.size=1 then vs[0] else .tuple vs)) w=_;rw[Sem.run_bind,h2];simp only[Result.andThen_ok,Sem.run_pure];congr 1;match us with
 |[]=>simp[QW]|[u]=>simp[QW]|_::_::_=>simp[QW]
def ux(b:Nat)(β:List nI)(bx:br)(j:Nat):Nat:=match β[j]?,bx[j]? with|some g,some r=>bZ b r g.vals|_,_=>0
theorem KJ(b:Nat):∀(β:List nI)(bx:br),gP (ux b β bx) bx.length<=gO b β bx
 |β,[]=>by simp[gP]|[],r::bx=>by
  have:gP (ux b [] (r::bx)) (r::bx).length=gP (λ_=>0) (r::bx).length:=o6 λt _=>by simp[ux]
  rw[this,GN];omega
 |g::β,r::bx=>by
  have ih:=KJ b β bx;have shift:∀m,gP (ux b (g::β) (r::bx)) (m+1)=ux b (g::β) (r::bx) 0+gP (ux b β bx) m:=by
   intro m;induction m with
   |zero=>simp[gP]|succ m ih=>
    have:gP (ux b (g::β) (r::bx)) (m+1+1)=gP (ux b (g::β) (r::bx)) (m+1)+ux b (g::β) (r::bx) (m+1):=rfl;rw[this,ih];have e:ux b (g::β) (r::bx) (m+1)=ux b β bx m:=(by simp[ux]);rw[e];simp only[gP];omega
  simp only[abq];rw[shift];have e:ux b (g::β) (r::bx) 0=bZ b r g.vals:=by simp[ux]
  rw[e];simp only[gO];omega
theorem cy.cons{a:AV}{as:List AV}{x:Value}{xs:List Value}(h:aY w G a x)(k:cy w G as xs):cy w G (a::as) (x::xs):=
 ⟨by simp[k.1],λi c v e1 e2=>by
  cases i with
  |zero=>simp at e1 e2;subst e1;subst e2;exact h|succ i=>exact k.2 i c v (by simpa using e1) (by simpa using e2)⟩
theorem Ce{t:TypeId}{n:Nat}{agg:Bool}(hn:dm P t n=true)(tO:oo P t=some agg){b off:Nat}{xs:List Value}(hlen:xs.length=n)(mw:agg=false->n=1)
  (hc:∀(j:Nat) x,xs[j]?=some x->w.cell? ⟨b,off+j,none⟩=some x):(loadVar t ⟨b,off,none⟩).run P w=.ok (if agg then .agg xs.toArray else xs.headD undef) w:=by
 have:=D0 (P:=P) hn tO hlen mw hc;simpa [Instr.loadAt,Instr.sureAddr] using this
theorem GY(hs:FT w G β a s n):∀(l:List ResultVar)(rs:List iE)(vs:List AV),zD P l rs=true->zu s rs=some vs->
  ∃us,(l.mapM (Er a.tmps)).run P w=.ok us w/\cy w G vs us/\∀b,bZ b vs us<=qw (λt=>cF b (cR s.env t) (l5 a t)) (vm rs)+qw (ux b β s.bx) (Ep rs)
 |[],[],vs,_,hr=>by
  simp only[zu,Option.some.injEq]at hr;subst hr;exact⟨[],rfl,⟨rfl,λi c v h=>by simp at h⟩,λb=>by simp[bZ]⟩
 |x::l,r::rs,vs,hm,hr=>by
  simp only[zu]at hr;split at hr;rename_i v vs' Ge hr2;cases hr;have one:∃u,(Er a.tmps x).run P w=.ok u w/\aY w G v u/\zD P l rs=true/\∀b,gb b v u+(qw (λt=>cF b (cR s.env t) (l5 a t)) (vm rs)+qw (ux b β s.bx) (Ep rs))<=
    qw (λt=>cF b (cR s.env t) (l5 a t)) (vm (r::rs))+qw (ux b β s.bx) (Ep (r::rs)):=by
   cases x with
   |tmp t=>
    cases r with
    |tmp u mv=>
     simp only[zD,Ar,beq_iff_eq]at hm;obtain⟨rfl,hm⟩:=hm;simp only[DI]at Ge;rw[Dj]at Ge;split at Ge;rename_i v' hv;cases Ge;have CS:=hs.uQ t;refine⟨l5 a t,by simp[Er],?_,hm,λb=>?_⟩;cases mv with
     |true=>simp only[Bk]at hv;rw[hv]at CS;exact CS|false=>have:=CS.view;simp only[Bk]at hv;rw[hv]at this;exact this
     cases mv with
     |true=>simp only[Bk]at hv;simp only[vm,Ep,qw,hv,cF];omega|false=>
      simp only[Bk]at hv;have h0:=Gu b (cR s.env t) (l5 a t);rw[hv]at h0;simp only[cF]at h0;simp only[vm,Ep];omega
     cases Ge
    |box u j m agg=>simp[zD]at hm|cell u m agg=>simp[zD]at hm
   |cell t ty=>
    cases r with
    |tmp u mv=>simp[zD]at hm|box u j m agg=>
     simp only[zD,Ar,beq_iff_eq]at hm;obtain⟨⟨⟨⟨rfl,hn⟩,tO⟩,mw⟩,hm⟩:=hm;simp only[DI]at Ge;split at Ge;rename_i i row QB ff;split at Ge;rename_i FU;simp only[Ar,decide_eq_true_eq]at FU;obtain⟨rfl,hlen⟩:=FU;have hp:=hs.uQ t;rw[QB]at hp;obtain⟨g,b0,c,e,hg,gW,Ku,CM,iA,hle,jI,eS⟩:=It hs.box hp ff;obtain⟨u,hu,k1,k2,_⟩:=De Ge CM.uQ;have hl:=Ce (P:=P) hn tO (by rw[<-CM.uQ.1];exact hlen) (λh=>by subst h;simpa using mw) (b:=b0) (off:=0) (λj x hx=>by rw[Nat.zero_add];exact eS j x hx);refine⟨u,?_,k1,hm,λb=>?_⟩;simp only[Er,Sem.run_bind];rw[show a.tmps.getD t undef=.pointer (some ⟨b0,0,none⟩) from Ku];simp only[asAddr,Sem.run_pure,Result.andThen_ok,hl,hu];rw[k2 b];simp only[vm,Ep,qw,ux,hg,ff];omega;cases Ge;cases Ge
    |cell u m agg=>
     simp only[zD,Ar,beq_iff_eq]at hm;obtain⟨⟨⟨⟨rfl,hn⟩,tO⟩,mw⟩,hm⟩:=hm;simp only[DI]at Ge;split at Ge;rename_i p OL;split at Ge;rename_i cs Eb;have hp:=hs.uQ t;rw[OL]at hp;obtain⟨b0,off,xs,g1,g2,g3,g4⟩:=Kn hs.inv Eb hp;obtain⟨u,hu,k1,k2,_⟩:=De Ge g3.view;have hl:=Ce (P:=P) hn tO g2 (λh=>by subst h;simpa using mw) g4;refine⟨u,?_,k1,hm,λb=>?_⟩;simp only[Er,Sem.run_bind];rw[show a.tmps.getD t undef=.pointer (some ⟨b0,off,none⟩) from g1];simp only[asAddr,Sem.run_pure,Result.andThen_ok,hl,hu];rw[k2 b,ee b _ _ (ja cs)];simp only[vm,Ep];omega;cases Ge;cases Ge
  obtain⟨u,h1,h2,h3,h4⟩:=one;obtain⟨us,k1,k2,k3⟩:=GY hs l rs vs' h3 hr2;refine⟨u::us,?_,cy.cons h2 k2,λb=>?_⟩;rw[List.mapM_cons];simp only[Sem.run_bind,h1,Result.andThen_ok,k1,Sem.run_pure];have e1:=h4 b;have e2:=k3 b;simp only[bZ];omega;cases hr
 |[],_::_,_,hm,_=>by simp[zD]at hm|x::_,[],_,hm,_=>by cases x<;>simp[zD]at hm
end Ax
namespace Ax
open Go
section
variable {K V:Type}
def qh(init:K->V)(zX:Nat->K->Option V)(D:Nat->Bool):Nat->K->V
 |0,x=>init x|k+1,x=>if D k then (zX k x).getD (qh init zX D k x) else qh init zX D k x
variable {init:K->V}{zX:Nat->K->Option V}
theorem nQ{D D':Nat->Bool}{x:K}:∀{N:Nat},(∀k,k<N->D k≠D' k->zX k x=none)->qh init zX D N x=qh init zX D' N x
 |0,_=>rfl|N+1,h=>by
  have ih:=nQ (N:=N) λk hk=>h k (by omega);have hN:=h N (by omega);simp only[qh,ih];cases h1:D N<;>cases h2:D' N
  rfl
  rw[hN (by rw[h1,h2];simp)];simp;rw[hN (by rw[h1,h2];simp)];simp
  rfl
theorem Bv{D:Nat->Bool}{x:K}{j:Nat}:∀{N:Nat},j<=N->(∀k,j<=k->k<N->D k=true->zX k x=none)->qh init zX D N x=qh init zX D j x
 |0,hj,_=>by
  have:j=0:=by omega
  subst this;rfl
 |N+1,hj,h=>by
  by_cases hjN:j=N+1;subst hjN;rfl;have ih:=Bv (N:=N) (j:=j) (by omega) λk h1 h2=>h k h1 (by omega);simp only[qh];cases hD:D N;simpa using ih;rw[h N (by omega) (by omega) hD];simpa using ih
theorem KK{D D':Nat->Bool}{x:K}{j N:Nat}(hj:j<N)(hD:D j=false)(hD':∀k,D' k=if k=j then true else D k)(h:∀k,j<k->k<N->D k=true->zX j x≠none->zX k x=none) :
  qh init zX D' N x=(zX j x).getD (qh init zX D N x):=by
 cases he:zX j x with
 |none=>
  simp only[Option.getD_none];refine nQ λk hk jJ=>?_;have:=hD' k;by_cases hkj:k=j;subst hkj;exact he;rw[if_neg hkj]at this;exact absurd this jJ
 |some v=>
  simp only[aeR];have h1:qh init zX D' N x=qh init zX D' (j+1) x:=Bv (by omega) λk h1 h2 h3=>by
   refine h k (by omega) h2 ?_ (by rw[he];simp);have:=hD' k;rw[if_neg (by omega)]at this;rw[<-this];exact h3
  rw[h1];have YB:D' j=true:=by rw[hD' j,if_pos rfl]
  simp only[qh,YB,if_true,he,aeR]
theorem Bw{st:Nat->K->V}{N:Nat}(h0:∀x,st 0 x=init x)(hs:∀k,k<N->∀x,st (k+1) x=(zX k x).getD (st k x)):∀{j:Nat},j<=N->∀x,qh init zX (λk=>decide (k<j)) N x=st j x:=by
 have key:∀m,m<=N->∀x,qh init zX (λ_=>true) m x=st m x:=by
  intro m;induction m with
  |zero=>intro _ x;exact(h0 x).symm|succ m ih=>
   intro hm x;simp only[qh,if_true];rw[ih (by omega) x,hs m (by omega) x]
 intro j hj x;rw[Bv (j:=j) hj λk h1 h2 h3=>by simp at h3;omega];rw[nQ (D':=λ_=>true) λk hk jJ=>by simp[hk]at jJ];exact key j hj x
end
end Ax
namespace Ax
open Go
def dG.qp(S:Nat->Option aA):dG->Bool
 |.Qu .. | .alloc _|.box _|.store _|.kE .. | .Db .. | .makeMap|.mapUpdate _|.DG _|.copy _|.uf=>true|.load _ _ take=>take|.uU _ _ _ mt=>mt|.call f=>match S f with|some sf=>(match sf.mode with|.pure=>false|_=>true)|none=>true
 |_=>false
def dG.Nf:dG->Bool
 |.move|.pick|.bT _|.lg .. | .un _|.conv _|.MK _|.nilCheck|.extract _|.field .. | .build .. | .lit .. | .fieldAddr _|.index|.ak .. | .iW .. | .cu .. | .zq .. | .append .. | .makeFunc .. | .Ia .. | .acm=>true|.uU _ _ _ mt=>!mt|_=>false
def dG.bA:dG->Option Nat
 |.ak j _ _ _|.iW j _|.cu j _|.zq j _=>some j|_=>none
def dG.bW:dG->Option Nat
 |.ak j _ _ take=>if take then some j else none
 |.iW j _|.cu j _|.zq j _=>some j|_=>none
variable {wl aa:Nat}{st bG:ag}{bx gK:br}{vals:List eW}{e:eW}{S:Nat->Option aA}{O:ku}{op:dG}
theorem TN(hw:op.qp S=false)(h:aU wl aa op vals st bx=some (e,bG,gK)):bG=st:=by
 cases op
 case load agg n take=>
  simp only[dG.qp]at hw;subst hw;unfold aU at h;simp only[aaq,if_false]at h;repeat' split at h
  all_goals first|(cases h;rfl)|cases h
 case uU sz bytes zero mt=>
  simp only[dG.qp]at hw;subst hw;unfold aU at h;simp only[aaq,if_false]at h;repeat' split at h
  all_goals first|(cases h;rfl)|cases h
 all_goals first
  |(simp[dG.qp]at hw;done)
  |(unfold aU at h;simp only at h;repeat' split at h)
 all_goals first|(cases h;rfl)|cases h
theorem TO(hn:op.Nf=true)(mQ:ag):aU wl aa op vals mQ bx=(aU wl aa op vals st bx).map λx=>(x.1,mQ,x.2.2):=by
 cases op
 case uU sz bytes zero mt=>
  simp only[dG.Nf,acg]at hn;subst hn;unfold aU;simp only[aaq,if_false];repeat' split
  all_goals rfl
 all_goals first
  |(simp[dG.Nf]at hn;done)
  |(unfold aU;(try unfold yG);simp only;repeat' split)
 all_goals first|rfl|simp_all
theorem KL(hb:op.bA=none)(zF:br):aU wl aa op vals st zF=(aU wl aa op vals st bx).map λx=>(x.1,x.2.1,zF):=by
 cases op;all_goals first
  |(simp[dG.bA]at hb;done)
  |(unfold aU;(try unfold yG);simp only;repeat' split)
 all_goals first|rfl|simp_all
structure Cf (S:Nat->Option aA)(O:ku):Prop where
 call:∀wl aa f args st v bG sf,O.call wl aa f args st=some (v,bG)->S f=some sf->sf.mode=.pure->bG=st
theorem KM(S:Nat->Option aA)(n:Nat):Cf S (qv S n):=by
 refine⟨λwl aa f args st v bG sf h hS hm=>?_⟩;cases n with
 |zero=>simp[qv]at h|succ n=>
  simp only[qv,hS]at h;unfold eF at h;split at h;simp only[abQ]at h;obtain⟨x,_,hx⟩:=h;cases hx
  rfl
  unfold dD at h;split at h;split at h;split at h;rw[hm]at h;simp only[Mode.nZ]at h;split at h;cases h;rfl;cases h;cases h;cases h;cases h
theorem OY(hO:Cf S O)(hw:op.qp S=false)(h:tK O wl aa op vals st bx=some (e,bG,gK)):bG=st:=by
 unfold tK at h;split at h;rename_i f;simp only[dG.qp]at hw;split at hw;rename_i sf hsf;split at hw;rename_i hm;unfold fW at h;split at h;rename_i f' vs hc;have hf:f'=f:=by
  simp only[mX]at hc;split at hc;cases hc;rfl;cases hc
 subst hf;split at h;rename_i fJ;cases h;exact hO.call _ _ _ _ _ _ _ _ fJ hsf hm;cases h;cases h;cases hw;cases hw;simp[dG.qp]at hw;exact TN hw h
theorem YH(hn:op.Nf=true)(mQ:ag)(h:tK O wl aa op vals st bx=some (e,bG,gK)):tK O wl aa op vals mQ bx=some (e,mQ,gK):=by
 unfold tK at h ⊢;split at h;simp[dG.Nf]at hn;simp[dG.Nf]at hn;rename_i h1 h2;rw[TO hn mQ,h];rfl
theorem IB(hb:op.bA=none)(zF:br)(h:tK O wl aa op vals st bx=some (e,bG,gK)):gK=bx/\tK O wl aa op vals st zF=some (e,bG,zF):=by
 have call:∀x,fW O wl aa x st bx=some (e,bG,gK)->gK=bx/\fW O wl aa x st zF=some (e,bG,zF):=by
  intro x h;unfold fW at h ⊢;split at h;rename_i f vs;cases hc:O.call wl aa f vs st with
  |none=>rw[hc]at h;cases h|some y=>rw[hc]at h;cases h;exact⟨rfl,rfl⟩
  cases h
 unfold tK at h ⊢;split at h;exact call _ h;exact call _ h;rename_i h1 h2;have e1:=KL (wl:=wl) (aa:=aa) (vals:=vals) (st:=st) (bx:=bx) hb bx;rw[h]at e1;simp only[Option.map_some,Option.some.injEq,Prod.mk.injEq,true_and]at e1;refine⟨e1,?_⟩;rw[KL hb zF,h];rfl
theorem KN{zF:br}(hl:zF.length=bx.length)(ha:∀b,op.bA=some b->zF[b]?=bx[b]?)(h:tK O wl aa op vals st bx=some (e,bG,gK)) :
  ∃YI,tK O wl aa op vals st zF=some (e,bG,YI)/\gK.length=bx.length/\YI.length=zF.length/\(∀b,op.bW=some b->YI[b]?=gK[b]?)/\(∀b,op.bW≠some b->YI[b]?=zF[b]?)/\(∀b,op.bW≠some b->gK[b]?=bx[b]?):=by
 cases hb:op.bA with
 |none=>
  obtain⟨rfl,e2⟩:=IB hb zF h;refine⟨zF,e2,rfl,rfl,λb h=>?_,λ_ _=>rfl,λ_ _=>rfl⟩;cases op<;>simp_all [dG.bA,dG.bW]
 |some j=>
  have hj:=ha j hb;have OZ:∀(row:List AV),j<bx.length->(bx.set j row).length=bx.length/\(zF.set j row).length=zF.length/\(zF.set j row)[j]?=(bx.set j row)[j]?/\(∀b,j≠b->(zF.set j row)[b]?=zF[b]?)/\(∀b,j≠b->(bx.set j row)[b]?=bx[b]?):=by
   intro row aQ;refine⟨by simp,by simp,?_,λb hb=>?_,λb hb=>?_⟩;rw[abK,abK,if_pos rfl,if_pos rfl,if_pos aQ,if_pos (by omega)];rw[abK,if_neg hb];rw[abK,if_neg hb]
  cases op<;>simp only[dG.bA]at hb<;>try cases hb
  case some.ak.refl agg n take=>
   simp only[tK]at h ⊢;unfold aU at h ⊢;simp only at h ⊢;split at h;rename_i j' k;split at h;rename_i YB;subst YB;split at h;rename_i row ff;have aQ:=(aab.1 ff).1;rw[if_pos rfl,hj,ff];simp only;split at h;rename_i cs Tz;cases take with
   |true=>
    simp only[if_true]at h ⊢;split at h;rename_i v hv;cases h;obtain⟨a1,a2,a3,a4,a5⟩:=OZ (aj row k (cs.map AV.eL)) aQ;exact⟨_,rfl,a1,a2,λb hb=>by simp[dG.bW]at hb;subst hb;exact a3,λb hb=>a4 b (by simpa [dG.bW] using hb),λb hb=>a5 b (by simpa [dG.bW] using hb)⟩;cases h
   |false=>
    simp only[aaq,if_false]at h ⊢;split at h;rename_i v hv;cases h;exact⟨_,rfl,rfl,rfl,λb hb=>by simp[dG.bW]at hb,λ_ _=>rfl,λ_ _=>rfl⟩;cases h
   cases h;cases h;cases h;cases h
  case some.iW.refl n=>
   simp only[tK]at h ⊢;unfold aU at h ⊢;simp only at h ⊢;split at h;rename_i j' k v;split at h;rename_i hc;have YB:j=j':=(by simp only[Ar,decide_eq_true_eq]at hc;exact hc.1.1);split at h;rename_i row ff;have aQ:=(aab.1 ff).1;rw[if_pos hc,hj,ff];simp only;split at h;rename_i bE;cases h;rw[if_pos bE];obtain⟨a1,a2,a3,a4,a5⟩:=OZ (aj row k v.cells) aQ;exact⟨_,rfl,a1,a2,λb hb=>by simp[dG.bW]at hb;subst hb;exact a3,λb hb=>a4 b (by simpa [dG.bW] using hb),λb hb=>a5 b (by simpa [dG.bW] using hb)⟩;cases h;cases h;cases h;cases h
  case some.cu.refl zero=>
   simp only[tK]at h ⊢;unfold aU at h ⊢;simp only at h ⊢;split at h;split at h;rename_i aQ;cases h;rw[if_pos (by omega)];obtain⟨a1,a2,a3,a4,a5⟩:=OZ zero aQ;exact⟨_,rfl,a1,a2,λb hb=>by simp[dG.bW]at hb;subst hb;exact a3,λb hb=>a4 b (by simpa [dG.bW] using hb),λb hb=>a5 b (by simpa [dG.bW] using hb)⟩;cases h;cases h
  case some.zq.refl n=>
   simp only[tK]at h ⊢;unfold aU at h ⊢;simp only at h ⊢;split at h;rename_i v;split at h;rename_i hc;have yJ:=hc;simp only[Ar,decide_eq_true_eq]at yJ;cases h;rw[if_pos (by simp only[Ar,decide_eq_true_eq];exact⟨⟨by omega,yJ.1.2⟩,yJ.2⟩)];obtain⟨a1,a2,a3,a4,a5⟩:=OZ v.cells yJ.1.1;exact⟨_,rfl,a1,a2,λb hb=>by simp[dG.bW]at hb;subst hb;exact a3,λb hb=>a4 b (by simpa [dG.bW] using hb),λb hb=>a5 b (by simpa [dG.bW] using hb)⟩;cases h;cases h
theorem acI{b:Nat}(h:tK O wl aa op vals st bx=some (e,bG,gK))(hv:∀x∈vals,x.qa b=true)(hn:op.aI≠some b):e.qa b=true:=by
 have call:∀x,fW O wl aa x st bx=some (e,bG,gK)->e.qa b=true:=by
  intro x h;unfold fW at h;repeat' split at h
  all_goals first|(cases h;rfl)|cases h
 have val:∀a:AV,(eW.val a).qa b=true:=λ_=>rfl;unfold tK at h;split at h;exact call _ h;exact call _ h
 ·cases op
  case move=>
   unfold aU at h;simp only at h;split at h;cases h;exact hv _ (by simp);cases h
  case pick=>
   unfold aU at h;simp only at h;split at h;rename_i c x y;cases h;cases c;exact hv _ (by simp);exact hv _ (by simp);cases h
  case nilCheck=>
   unfold aU at h;simp only at h;split at h;cases h;exact hv _ (by simp);split at h<;>first|(cases h;rfl)|cases h
   cases h
  case fieldAddr off=>
   unfold aU at h;simp only at h;split at h;rename_i j k;cases h;have:=hv (.fp j k) (by simp);simpa [eW.qa] using this;cases h;rfl;cases h;rfl;cases h
  case cu j zero=>
   unfold aU at h;simp only at h;split at h;split at h;cases h;simp only[dG.aI,ne_eq,Option.some.injEq]at hn;simpa [eW.qa] using hn;cases h;cases h
  case zq j n=>
   unfold aU at h;simp only at h;split at h;split at h;cases h;simp only[dG.aI,ne_eq,Option.some.injEq]at hn;simpa [eW.qa] using hn;cases h;cases h
  all_goals
   unfold aU at h
   (try unfold yG at h)
   simp only at h;repeat' split at h
  all_goals first|(cases h;rfl)|cases h
end Ax
namespace Ax
open Go
def o9(o:Oper):List Nat:=(o.after.toList.filter (Region.binds .any)).map (·.on)
def bms:List Oper->List Nat->List Nat
 |[],acc=>acc|o::l,acc=>bms l (acc++[(o9 o).foldl (λm p=>m ||| (1 <<< p) ||| acc.getD p 0) 0])
def bef(bm:List Nat)(i j:Nat):Bool:=(bm.getD j 0).testBit i
def sq(so:aC):List Nat:=so.dst.toList++qT so.args
def YJ:List Src->List Nat
 |[]=>[]
 |.tmp t _::l=>t::YJ l|_::l=>YJ l
def zG(so:aC):List Nat:=YJ so.args++(match so.guard with|some (t,_)=>[t]|none=>[])
def lJ(S:Nat->Option aA)(bO:List (Nat×Nat))(i j:Nat)(a b:aC):Bool:=
 (sq a).all (λt=>!(zG b).contains t && !(sq b).contains t)&&(sq b).all (λt=>!(zG a).contains t) &&
 (match a.op.bW with|some x=>b.op.bA != some x|none=>true)&&(match b.op.bW with|some x=>a.op.bA != some x|none=>true) &&
 (!(a.op.qp S&&b.op.qp S)||bO.contains (100000+i,j))&&(a.op.Nf || !(b.op.qp S)||a.op.qp S||bO.contains (i,j))&&(b.op.Nf || !(a.op.qp S)||b.op.qp S||bO.contains (j,i))
def Es(n:Nat)(f:Nat->Nat->Bool):Bool:=(agK n).all λj=>(agK j).all λi=>f i j
def Dk:dG->Bool
 |.store _=>true|_=>false
def abi(S:Nat->Option aA)(m:List aC)(bO:List (Nat×Nat)):Nat×Nat->Bool
 |(c,q)=>if 100000<=c&&decide (c<200000) then
   let p:=c-100000
   (match m[p]?,m[q]? with|some a,some b=>Dk a.op&&Dk b.op&&a.guard.isNone&&b.guard.isNone|_,_=>false) &&
   decide (p<q)&&(agK (q-p-1)).all (λd=>match m[p+1+d]? with|some o=>!(o.op.qp S)|none=>false) &&
   bO.all (λx=>decide (100000<=x.1) || !(x.2==p||x.2==q)||bO.contains (100000*(x.1+2)+p,q)) &&
   bO.all (λx=>!(decide (100000<=x.1)&&decide (x.1<200000))||(x.1==c&&x.2==q))
  else true
def O1(S:Nat->Option aA)(P:Program)(cV:Array Oper)(n:Nat)(m:List aC)(bO:List (Nat×Nat)):Bool:=
 let bm:=bms cV.toList []
 P.follows .mixedOrders&&sj S P cV n cV.toList m&&(decide (cV.size<100000)&&bO.all (abi S m bO)) &&
 (agK cV.size).all (λj=>match cV[j]? with
  |some o=>(o9 o).all (λp=>decide (p<j))&&(agK cV.size).all λi=>!bef bm i j||(o9 o).any λp=>i==p||bef bm i p
  |none=>true) &&
 Es cV.size (λi j=>match m[i]?,m[j]? with
  |some a,some b=>(bef bm i j||lJ S bO i j a b)&&(match a.op.aI,b.op.aI with|some x,some y=>x != y|_,_=>true)|_,_=>true)
theorem xg{n:Nat}{f:Nat->Nat->Bool}(h:Es n f=true){i j:Nat}(h1:i<j)(h2:j<n):f i j=true:=by
 simp only[Es,aaS,ahc]at h;exact h j h2 i h1
end Ax
namespace Ax
open Go
variable {S:Nat->Option aA}{P:Program}{cV:Array Oper}{n:Nat}{m:List aC}{bO:List (Nat×Nat)}
theorem Et:∀{l:List Oper}{m:List aC},sj S P cV n l m=true->l.length=m.length/\∀(i:Nat) o so,l[i]?=some o->m[i]?=some so->GW S P cV n o so=true
 |[],[],_=>⟨rfl,λi o so h=>by simp at h⟩
 |o::l,so::m,h=>by
  simp only[sj,Ar]at h;obtain⟨e1,e2⟩:=Et h.2;refine⟨by simp[e1],λi o' so' h1 h2=>?_⟩;cases i with
  |zero=>simp at h1 h2;subst h1;subst h2;exact h.1|succ i=>exact e2 i o' so' (by simpa using h1) (by simpa using h2)
 |[],_::_,h=>by simp[sj]at h|_::_,[],h=>by simp[sj]at h
def TP(cV:Array Oper)(D:Nat->Bool):Prop:=∀(j:Nat) o,cV[j]?=some o->D j=true->∀p∈o9 o,D p=true
structure abj (S:Nat->Option aA)(P:Program)(cV:Array Oper)(n:Nat)(m:List aC)(bO:List (Nat×Nat)):Prop where
 fol:P.follows .mixedOrders=true
 len:m.length=cV.size
 get:∀(i:Nat) o so,cV[i]?=some o->m[i]?=some so->GW S P cV n o so=true
 lt:∀(j:Nat) o,cV[j]?=some o->∀p∈o9 o,p<j
 apA:∀(D:Nat->Bool),TP cV D->∀(j:Nat) o,cV[j]?=some o->(∀p∈o9 o,D p=true)->∀(k:Nat) a b,k<j->D k=false->m[k]?=some a->m[j]?=some b->lJ S bO k j a b=true
 apB:∀(D:Nat->Bool),TP cV D->∀(j k:Nat) a b,j<k->D j=false->D k=true->m[j]?=some a->m[k]?=some b->lJ S bO j k a b=true
 GZ:m.length<100000
 xt:∀p q,p<100000->(100000+p,q)∈bO->p<q/\(∃a b,m[p]?=some a/\m[q]?=some b/\Dk a.op=true/\Dk b.op=true/\a.guard=none/\b.guard=none)/\(∀(j:Nat) o,p<j->j<q->m[j]?=some o->o.op.qp S=false)/\
  (∀k w,(k,w)∈bO->k<100000->w=p\/w=q->(100000*(k+2)+p,q)∈bO)/\∀i j,i<100000->(100000+i,j)∈bO->i=p/\j=q
 abk:∀(i j:Nat) a b x,i<j->m[i]?=some a->m[j]?=some b->a.op.aI=some x->b.op.aI≠some x
theorem TS(h:O1 S P cV n m bO=true):abj S P cV n m bO:=by
 unfold O1 at h;simp only[Ar,aaS,ahc]at h;obtain⟨⟨⟨⟨h1,h2⟩,h5,h6⟩,h3⟩,h4⟩:=h;obtain⟨e1,e2⟩:=Et h2;have hlen:m.length=cV.size:=by rw[<-e1];simp
 have aQ:∀(j:Nat) o,cV[j]?=some o->∀p∈o9 o,p<j:=λj o ho p hp=>by
  have:=h3 j (abN.1 ho).1;rw[ho]at this;simp only[Ar,aaS,decide_eq_true_eq]at this;exact this.1 p hp
 have F6:∀(D:Nat->Bool),TP cV D->∀(j:Nat) o,cV[j]?=some o->(∀p∈o9 o,D p=true)->∀i,i<cV.size->bef (bms cV.toList []) i j=true->D i=true:=by
  intro D hD j;induction j using Nat.strongRecOn with
  |_ j ih=>
   intro o ho hp i hi hb;have:=h3 j (abN.1 ho).1;rw[ho]at this;simp only[Ar,aaS,ahc,abP,acg,List.any_eq_true,beq_iff_eq]at this;rcases this.2 i hi with h5|⟨p,YK,h6⟩;rw[hb]at h5;cases h5;rcases h6 with rfl|h6;exact hp i YK;have TT:=aQ j o ho p YK;have YL:p<cV.size:=(by have:=(abN.1 ho).1;omega);have OX:cV[p]?=some cV[p]:=(by simp[YL]);exact ih p TT cV[p] OX (λq hq=>hD p cV[p] OX (hp p YK) q hq) i hi h6
 refine⟨h1,hlen,λi o so ho hso=>e2 i o so (by simpa using ho) hso,aQ,λD hD j o ho hp k a b hk hDk ha hb=>?_,λD hD j k a b oe hDj hDk ha hb=>?_,by rw[hlen];simpa using h5,λp q hp XR=>?_,λi j a b x FU ha hb hx hy=>?_⟩;have hj:=(abN.1 ho).1;have:=xg h4 hk hj;rw[ha,hb]at this;simp only[Ar,abP]at this;rcases this.1 with h5|h5;rw[F6 D hD j o ho hp k (by omega) h5]at hDk;cases hDk;exact h5;have hk:k<cV.size:=by rw[<-hlen];exact(aab.1 hb).1
 have:=xg h4 oe hk;rw[ha,hb]at this;simp only[Ar,abP]at this;have KO:cV[k]?=some cV[k]:=by simp[hk]
 rcases this.1 with h5|h5;rw[F6 D hD k cV[k] KO (hD k cV[k] KO hDk) j (by omega) h5]at hDj;cases hDj;exact h5;have:=h6 _ XR;simp only[abi]at this;rw[if_pos (by simp;omega)]at this;simp only[Nat.add_sub_cancel_left,Ar,decide_eq_true_eq,aaS,ahc,abP,acg,Bool.or_eq_false_iff,afz,Prod.forall,Bool.and_eq_false_iff,beq_iff_eq,beq_eq_false_iff_ne,decide_eq_false_iff_not]at this;obtain⟨⟨⟨⟨t1,t2⟩,t3⟩,t4⟩,t5⟩:=this;refine⟨t2,?_,λj o Gf KP ho=>?_,λk w hk SN hw=>?_,λi j hi FU=>?_⟩;split at t1;rename_i a b ha hb;simp only[Ar,Option.isNone_iff_eq_none]at t1;exact⟨a,b,ha,hb,t1.1.1.1,t1.1.1.2,t1.1.2,t1.2⟩;cases t1;have:=t3 (j-p-1) (by omega);rw[show p+1+(j-p-1)=j by omega,ho]at this;simpa using this;rcases t4 k w hk with (h|h)|h;omega;exfalso;rcases hw with e|e
 exact h.1 e;exact h.2 e;exact h;rcases t5 _ _ FU with h|h;omega;exact⟨by omega,h.2⟩;have hj:j<cV.size:=by rw[<-hlen];exact(aab.1 hb).1
 have:=xg h4 FU hj;rw[ha,hb]at this;simp only[Ar]at this;have h5:=this.2;rw[hx,hy]at h5;simp at h5
end Ax
namespace Ax
open Go
variable {S:Nat->Option aA}{P:Program}{O:ku}{wl aa:Nat}
theorem Cg:∀{m:List aC}{s e:St}{jY:List St},eE O wl aa m s=some (e,jY)->
  jY.length=m.length+1/\jY[0]?=some s/\jY[m.length]?=some e/\∀(i:Nat) so,m[i]?=some so->∃x y,jY[i]?=some x/\jY[i+1]?=some y/\iz O wl aa so x=some y
 |[],s,e,jY,h=>by
  simp only[eE,Option.some.injEq,Prod.mk.injEq]at h;obtain⟨rfl,rfl⟩:=h;exact⟨rfl,rfl,rfl,λi so h=>by simp at h⟩
 |o::m,s,e,jY,h=>by
  simp only[eE]at h;split at h;rename_i s1 KE;split at h;rename_i e' l' hr;cases h;obtain⟨h1,h2,h3,h4⟩:=Cg hr;refine⟨by simp[h1],rfl,by simpa using h3,λi so hi=>?_⟩;cases i with
  |zero=>simp at hi;subst hi;exact⟨s,s1,rfl,by simpa using h2,KE⟩|succ i=>
   obtain⟨x,y,a1,a2,a3⟩:=h4 i so (by simpa using hi);exact⟨x,y,by simpa using a1,by simpa using a2,a3⟩
  cases h;cases h
structure acJ (S:Nat->Option aA)(O:ku)(wl aa:Nat)(so:aC)(s t:St):Prop where
 wR:∀u,u ∉ sq so->cR t.env u=cR s.env u
 alN:∀b,so.op.bW≠some b->t.bx[b]?=s.bx[b]?
 YM:t.bx.length=s.bx.length
 acK:so.op.qp S=false->t.st=s.st
 non:nw s.env so.guard=some false->cR t.env=kI (cR s.env) so.dst (.val .undef)/\t.bx=s.bx/\t.st=s.st
 yes:nw s.env so.guard=some true->∃e,tK O wl aa so.op (so.args.map (J6 s.env)) s.st s.bx=some (e,t.st,t.bx)/\cR t.env=kI (jW (cR s.env) (qT so.args)) so.dst e
 wan:nw s.env so.guard≠none
theorem alO{so:aC}{s t:St}(hO:Cf S O)(h:iz O wl aa so s=some t):acJ S O wl aa so s t:=by
 unfold iz at h;split at h;cases h;rename_i hw;cases h;refine⟨λu hu=>?_,λ_ _=>rfl,rfl,λ_=>rfl,λ_=>⟨kD _ _ _,rfl,rfl⟩,λh=>(by rw[hw]at h;cases h),(by rw[hw];simp)⟩;simp only[sq,abI,agZ,not_or]at hu;rw[kD];simp only[kI];rw[if_neg hu.1];rename_i hw;split at h;cases h;rename_i e bG gK ha;have nZ:t=⟨yH (so.args.foldl mW s.env) so.dst e,gK,bG⟩->acJ S O wl aa so s t:=by
  intro ht;subst ht;have he:cR (yH (so.args.foldl mW s.env) so.dst e)=kI (jW (cR s.env) (qT so.args)) so.dst e:=by rw[kD,vk]
  have hb:(∀b,so.op.bW≠some b->gK[b]?=s.bx[b]?)/\gK.length=s.bx.length:=by
   obtain⟨zF,h1,h2,h3,h4,h5,h6⟩:=KN (zF:=s.bx) rfl (λ_ _=>rfl) ha;exact⟨h6,h2⟩
  refine⟨λu hu=>?_,hb.1,hb.2,λhW=>OY hO hW ha,λh=>(by rw[hw]at h;cases h),λ_=>⟨e,ha,he⟩,(by rw[hw];simp)⟩;simp only[sq,abI,agZ,not_or]at hu;show cR (yH (so.args.foldl mW s.env) so.dst e) u=_;rw[he];simp only[kI,jW];rw[if_neg hu.1,if_neg hu.2]
 split at h;cases h;exact nZ rfl;split at h;cases h;exact nZ rfl;cases h
structure Text (S:Nat->Option aA)(O:ku)(wl aa:Nat)(m:List aC)(T:Nat->St):Prop where
 one:∀(i:Nat) so,m[i]?=some so->acJ S O wl aa so (T i) (T (i+1))
def Ng(m:List aC)(T:Nat->St)(k:Nat)(t:Nat):Option eW:=match m[k]? with
 |some so=>if t∈sq so then some (cR (T (k+1)).env t) else none
 |none=>none
def Nh(m:List aC)(T:Nat->St)(k:Nat)(b:Nat):Option (Option (List AV)):=match m[k]? with
 |some so=>if so.op.bW=some b then some ((T (k+1)).bx[b]?) else none
 |none=>none
def Ni(S:Nat->Option aA)(m:List aC)(T:Nat->St)(k:Nat)(_:Unit):Option ag:=match m[k]? with
 |some so=>if so.op.qp S=true then some (T (k+1)).st else none
 |none=>none
abbrev vT(m:List aC)(T:Nat->St)(D:Nat->Bool)(t:Nat):eW:=qh (cR (T 0).env) (Ng m T) D m.length t
abbrev vB(m:List aC)(T:Nat->St)(D:Nat->Bool)(b:Nat):Option (List AV):=qh (λb=>(T 0).bx[b]?) (Nh m T) D m.length b
abbrev vS(S:Nat->Option aA)(m:List aC)(T:Nat->St)(D:Nat->Bool):ag:=qh (λ_=>(T 0).st) (Ni S m T) D m.length ()
section
variable {m:List aC}{T:Nat->St}
theorem TU(h:Text S O wl aa m T){j:Nat}(hj:j<=m.length)(t:Nat):vT m T (λk=>decide (k<j)) t=cR (T j).env t:=by
 refine Bw (st:=λk t=>cR (T k).env t) (λ_=>rfl) (λk hk x=>?_) hj t;have hs:m[k]?=some m[k]:=aao hk;simp only[Ng,hs];split
 rfl
 rename_i hx;exact(h.one k _ hs).wR x hx
theorem TW(h:Text S O wl aa m T){j:Nat}(hj:j<=m.length)(b:Nat):vB m T (λk=>decide (k<j)) b=(T j).bx[b]?:=by
 refine Bw (st:=λk b=>(T k).bx[b]?) (λ_=>rfl) (λk hk x=>?_) hj b;have hs:m[k]?=some m[k]:=aao hk;simp only[Nh,hs];split
 rfl
 rename_i hx;exact(h.one k _ hs).alN x hx
theorem TX(h:Text S O wl aa m T){j:Nat}(hj:j<=m.length):vS S m T (λk=>decide (k<j))=(T j).st:=by
 refine Bw (st:=λk (_:Unit)=>(T k).st) (λ_=>rfl) (λk hk x=>?_) hj ();have hs:m[k]?=some m[k]:=aao hk;simp only[Ni,hs];split
 rfl
 rename_i hx;exact(h.one k _ hs).acK (by simpa using hx)
theorem O2(D:Nat->Bool):∀(N:Nat),N<=m.length->∃p,p<=N/\qh (λ_=>(T 0).st) (Ni S m T) D N ()=(T p).st/\
  (p=0\/∃q so,p=q+1/\m[q]?=some so/\D q=true/\so.op.qp S=true)/\∀(j:Nat) so,p<=j->j<N->m[j]?=some so->so.op.qp S=true->D j=false
 |0,_=>⟨0,aaH _,rfl,.inl rfl,λj so h1 h2=>by omega⟩
 |N+1,hN=>by
  obtain⟨p,h1,h2,h3,h4⟩:=O2 D N (by omega);have hs:m[N]?=some m[N]:=aao (by omega);by_cases hD:D N=true/\(m[N]).op.qp S=true;refine⟨N+1,aaH _,?_,.inr ⟨N,m[N],rfl,hs,hD.1,hD.2⟩,λj so h5 h6=>by omega⟩;simp only[qh,hD.1,Ni,hs,if_true,hD.2,aeR];refine⟨p,by omega,?_,h3,λj so h5 h6 h7 h8=>?_⟩;simp only[qh];cases hDN:D N with
  |false=>simpa using h2|true=>
   have:¬(m[N]).op.qp S=true:=λh=>hD ⟨hDN,h⟩;simp only[Ni,hs,if_true];rw[if_neg this];simpa using h2
  by_cases hj:j=N;subst hj;rw[hs]at h7;cases h7;cases hDN:D j with
  |false=>rfl|true=>exact absurd ⟨hDN,h8⟩ hD
  exact h4 j so h5 (by omega) h7 h8
theorem As(h:Text S O wl aa m T){p:Nat}:∀(d:Nat),p+d<=m.length->(∀(j:Nat) so,p<=j->j<p+d->m[j]?=some so->so.op.qp S=false)->(T (p+d)).st=(T p).st
 |0,_,_=>rfl|d+1,hd,hn=>by
  have hs:m[p+d]?=some m[p+d]:=aao (by omega);have e:=(h.one (p+d) _ hs).acK (hn (p+d) _ (by omega) (by omega) hs);rw[show p+(d+1)=p+d+1 by omega,e];exact As h d (by omega) λj so h1 h2=>hn j so h1 (by omega)
theorem O3(S:Nat->Option aA)(m:List aC)(p:Nat):∀(d:Nat),p+d<=m.length->(∀(j:Nat) so,p<=j->j<p+d->m[j]?=some so->so.op.qp S=false)\/
  ∃(w:Nat) (so:aC),p<=w/\w<p+d/\m[w]?=some so/\so.op.qp S=true/\∀(j:Nat) so,p<=j->j<w->m[j]?=some so->so.op.qp S=false
 |0,_=>.inl λj so h1 h2=>by omega|d+1,hd=>by
  rcases O3 S m p d (by omega) with h|⟨w,so,h1,h2,h3,h4,h5⟩;have hs:m[p+d]?=some m[p+d]:=aao (by omega);cases hw:(m[p+d]).op.qp S with
  |true=>exact .inr ⟨p+d,_,by omega,by omega,hs,hw,λj so a1 a2=>h j so a1 a2⟩|false=>
   refine .inl λj so a1 a2 a3=>?_;by_cases hj:j=p+d;subst hj;rw[hs]at a3;cases a3;exact hw;exact h j so a1 (by omega) a3
  exact .inr ⟨w,so,h1,by omega,h3,h4,h5⟩
end
end Ax
