/- Part of a proof. -/
import Derived.Test.YtgblgbgjmgjfkaaGreatA2
import Derived.Orders

open List renaming length->Q
open Option renaming some->Z,none->K
open Bool renaming true->Y,false->X
open Decidable renaming decide->V
open List renaming getElem?_eq_some_iff->aad,getElem?_eq_getElem->aae,all_eq_true->aam,mem_of_mem_take->afy,mem_of_mem_drop->afz,size_toArray->ahm,mem_or_eq_of_mem_set->ae7,getElem?_set->aaD,getElem?_map->aaz,all_cons->ahd,map_cons->aaZ,mem_map->aap,append_assoc->afG,drop_drop->afC,take_append_drop->agk,length_map->adW,ext_getElem?->agi,getElem?_take->abv,getElem?_drop->afw,take_succ_cons->akd,eq_nil_of_length_eq_zero->aau,mem_cons->ac2,mem_iff_getElem->aav,length_nil->afF,getElem?_append_left->aaj,getElem?_append_right->aak,length_append->aaq,length_drop->agt,getElem?_mapIdx->ale,length_set->apG,replicate->aag,length_replicate->ajE,foldl_cons->akj,nodup_cons->ahK
open Option renaming map_eq_some_iff->adM,map_none->akk,map_some->afs,toList_some->aox
open Nat renaming mul_le_mul_right->aeb,succ_mul->afY,le_refl->aal,zero_le->afD
open Int renaming mul_le_mul_of_nonneg_left->ait
open Bool renaming and_eq_true->E6,and_self->afH,not_eq_true'->afo,and_true->af8,false_eq_true->aai
open Array renaming getElem?_eq_some_iff->aaA,getElem?_setIfInBounds->ali
namespace Ax
open Go
variable {P:Program}{w w':World}{G G':bT}{β jE:List wj}{ρ:Operand->Value}{o:Oper}
theorem EU{st}(t:mH w G st){id D i k s v rows r}(z:bJ w G (.ptr id D i k) v)(I:st[id]?=Z (.rows D s rows))(H:rows[i]?=Z r):
  ∃loc b off c e g,G.ls[id]?=Z loc/\loc.mp=X/\loc.di=D/\BG w G s rows loc/\v=.pointer (Z ⟨b,off+(i*s+k),K⟩)/\loc.a=Z ⟨b,off,K⟩/\0<loc.cap/\loc.lz=Z b/\
   w.heap[b]?=Z (.cells c e (0,0))/\off+loc.cap*s<=c.size/\Q rows<=loc.cap/\G.qi b=Z 0/\loc.vals[i]?=Z g/\dm w G r g/\
   ∀i g j x,loc.vals[i]?=Z g->g[j]?=Z x->w.cell? ⟨b,off+(i*s+j),K⟩=Z x:=by
 obtain⟨loc,l,q,T,J⟩:=t.loc I;cases z with
 |ptr _ _ _ _ _ loc' L n p B=>
 rw[l]at n;cases n;obtain⟨a,N,rfl⟩:=B T.symm;rcases J.uQ with⟨_,U,_⟩|⟨b,off,c,E,W,O,C,h,m,M,F⟩;subst U;simp at H;rw[W]at N;cases N;have y:i<Q loc.vals:=by rw[J.yE];exact(aad.1 H).1
 have p:=aae y;exact⟨loc,b,off,c,E,loc.vals[i],l,q,T,J,by rw[J.size],W,O,by unfold yD.lz;rw[ah,W];rfl,C,h,m,M,p,J.y5 i r _ H p,F⟩
theorem mU{as vs}(h:AV.bG as=Y)(k:AV.bG vs=Y){n}(g:n+Q vs<=Q as):AV.bG (aB as n vs)=Y:=by
 rw[mS _ _ _ g];simp only[AV.bG,aam,List.mem_append]at *;intro x l;rcases l with (l|l)|l;exact h x (afy l);exact k x l;exact h x (afz l)
theorem aga{t x y n}(ho:o.op=.store t x y)(hn:dD P t n=Y){st bx}(hI:mH w G st)(hB:ny w G β bx){cO}(hX:∀b,cO b+ja b β bx+dh b G.ls st<=1){p v}(hp:bJ w G p (ρ x))(hv:bJ w G v (ρ y))(mT:∀b,iI b v (ρ y)<=cO b){wl ai st' iJ r}(D:bD wl ai (.store n) [.val p,.val v] st bx=Z (r,st',iJ)):
  ∃w' G',(execOp ρ o).run P w=.ok .skip w'/\mj w G β st bx cO w' G' β st' iJ r undef:=by
 simp only[bD]at D;split at D;rename_i nZ;simp only[E6,aC]at nZ;obtain⟨hvn,M⟩:=nZ;split at D;rename_i qS l;cases D;unfold gT at l;split at l;rename_i id di i k;split at l;rename_i ve sz rows iX;split at l;rename_i NK;simp only[E6,aC]at NK;obtain⟨rfl,_⟩:=NK;split at l;rename_i q E;split at l;rename_i O;cases l;obtain⟨loc,b,off,c,e,xs,hl,Gy,HI,J,QD,sX,iK,je,W,hle,L,kJ,N,Ei,fU⟩:=EU hI hp iX E;obtain⟨F,LW⟩:=hv.cells;have uq:Q q=sz:=dx.1 J.zR q (eL E);have hxl:Q xs=sz:=by rw[<-Ei.1];exact uq
 have hi:i<Q rows:=(aad.1 E).1;have VM:Q (ρ y).cells.toList=Q v.cells:=F.1.symm;have aaP:=F.afR M;have LZ:off+(i*sz+k)+Q (ρ y).cells.toList<=c.size:=by
  have H:(i+1)*sz<=loc.cap*sz:=aeb _ (by omega);rw[afY]at H;omega
 have Iu:=jU (P:=P) b (off+(i*sz+k)) e (ρ y).cells.toList c w W LZ aaP;have It:=JT (loc':={ loc with vals:=loc.vals.set i (aB xs k (ρ y).cells.toList) }) hl (aal _) λ_=>rfl;have s:Wr w G (w.setRow b (aB c.toList (off+(i*sz+k)) (ρ y).cells.toList).toArray) ⟨(G.at id { loc with vals:=loc.vals.set i (aB xs k (ρ y).cells.toList) }).ls,λB=>if B=b then Z 0 else G.qi B⟩ b:=
  JU W LZ kJ (afD _) (aal _) It
 have qj:cO b=0/\iM b rows loc.vals=0:=by
  have H:=hX b;have g:=rS b G.ls st id loc _ hl iX;simp only[kN,je,bz]at g;omega
 refine⟨_,⟨(G.at id { loc with vals:=loc.vals.set i (aB xs k (ρ y).cells.toList) }).ls,λB=>if B=b then Z 0 else G.qi B⟩,?_,xV hI hB hX hl iX s.lY rfl ⟨Gy,HI,?_⟩ (s.qT hI) (λB _ sP=>s.l6 λe=>sP (by rw[je,e])) (by simp) rfl rfl trivial λB=>?_⟩;have fM:(ρ y).cells.size=n:=by rw[<-hvn,F.1];simp
 simp only[execOp,ho,QD,cq,Instr.storeAt,Instr.sureAddr,Sem.run_pure,dA,storeVar,fW hn,fM,ne_eq,not_true_eq_false,bC,Iu];have aqv:dm (w.setRow b (aB c.toList (off+(i*sz+k)) (ρ y).cells.toList).toArray) ⟨(G.at id { loc with vals:=loc.vals.set i (aB xs k (ρ y).cells.toList) }).ls,λB=>if B=b then Z 0 else G.qi B⟩ v.cells (ρ y).cells.toList:=
  F.mono s.lY λB sP=>s.l6 λe=>by
   subst e;rw[LW]at sP;have:=mT B;omega
 have m:∀(I:Nat) R T,rows[I]?=Z R->loc.vals[I]?=Z T->dm (w.setRow b (aB c.toList (off+(i*sz+k)) (ρ y).cells.toList).toArray) ⟨(G.at id { loc with vals:=loc.vals.set i (aB xs k (ρ y).cells.toList) }).ls,λB=>if B=b then Z 0 else G.qi B⟩ R T:=λI R T H g=>
  (J.y5 I R T H g).mono s.lY λB sP=>s.l6 λe=>by
   subst e;have:=CP B rows loc.vals I R T H g;omega
 refine⟨dx.2 λR DA=>?_,λR DA=>?_,by simp[J.len],J.size,by simp[J.yE],λI R T H g=>?_,.inr ⟨b,off,_,e,sX,iK,setRow_heap w b c _ e (0,0) W,by rw[ahm,fQ];simpa using hle,by simpa using L,by simp,λI T j z H g=>?_⟩⟩;rcases ae7 DA with h|h;exact dx.1 J.zR R h;rw[h,fQ];exact uq;rcases ae7 DA with h|h;exact J.IU R h;rw[h];exact mU (J.IU q (eL E)) M O;simp only at g;rw[aaD]at H g;by_cases C:i=I;subst C;rw[af rfl,af hi]at H;rw[af rfl,af (aad.1 N).1]at g;cases H;cases g;exact(m i q xs E N).aB aqv O;rw[U C]at H g;exact m I R T H g;simp only at H;rw[xT W LZ];rw[aaD]at H;by_cases C:i=I;subst C;rw[af rfl]at H;split at H;cases H;rw[lZ _ _ _ _ (by rw[VM,hxl,<-uq];exact O)]at g;split at g;rename_i hj;rw[dM,show off+(i*sz+j)-(off+(i*sz+k))=j-k by omega];exact g;rename_i hj;rw[ah];exact fU i xs j z N g;cases H;rw[U C]at H;have hj:j<sz:=by
  have h3:=(aad.1 g).1;have h4:=J.flat.2.2.1 T (eL H);omega
 have:¬(off+(i*sz+k)<=off+(I*sz+j)/\off+(I*sz+j)<off+(i*sz+k)+Q (ρ y).cells.toList):=by
  rcases Nat.lt_or_gt_of_ne C with bK|bK;have h5:(i+1)*sz<=I*sz:=aeb _ bK;rw[afY]at h5;omega;have h5:(I+1)*sz<=i*sz:=aeb _ bK;rw[afY]at h5;omega
 rw[U this];exact fU I T j z H g;have H:=y6 B rows loc.vals i q xs (aB q k v.cells) (aB xs k (ρ y).cells.toList) E N;have g:=wF B q v.cells xs (ρ y).cells.toList k Ei.1 F.1 O;have h3:=mT B;rw[LW]at g;have hb:(if ({ loc with vals:=loc.vals.set i (aB xs k (ρ y).cells.toList) }:yD).lz=Z B then 1 else 0)=(if loc.lz=Z B then 1 else 0):=rfl;simp only[dH,kN];rw[hb];omega;cases l;cases l;cases l;cases l;cases l;cases D;cases D
theorem bJ.gK{a v}(h:bJ w G a v):bJ w G a.gK v:=by
 cases h with
 |iY g rows a cap R O F x T D m t N M=>exact .gone _ rfl|raw g rows a cap R O F x T D m t N M=>exact .gone _ rfl|agg C vs H h=>exact .agg C vs H h|fC C vs H h=>exact .fC C vs H h|undef=>exact .undef|gone v h=>exact .gone v h|bool b=>exact .bool b|int k n=>exact .int k n|str l s h=>exact .str l s h|ff=>exact .ff|aF=>exact .aF|gR=>exact .gR|jx=>exact .jx|me=>exact .me|eE g rows a cap R O F x T D m t=>exact .eE g rows a cap R O F x T D m t|pP a=>exact .pP a|mu id j v loc q H y B=>exact .mu id j v loc q H y B|ptr id j i k v loc q H y B=>exact .ptr id j i k v loc q H y B|uL g rows i k a cap H=>exact .uL g rows i k a cap H|map id loc b H p z=>exact .map id loc b H p z|fn f first I L J H p E h k=>exact .fn f first I L J H p E h k
theorem aa0(b)(a:AV)(v)(h:a.cT=Y):iI b a.gK v=0:=by
 refine gW b _ _ ?_;cases a<;>simp_all [AV.gK,AV.dw,AV.cT]
theorem QE(a:AV)(h:a.cT=Y):a.gK.cT=Y:=by
 cases a<;>simp_all [AV.gK,AV.cT]
theorem dm.gK{as x}(h:dm w G as x):dm w G (as.map AV.gK) x:=by
 refine⟨by simp[h.1],λi c v H g=>?_⟩;simp only[aaz,adM]at H;obtain⟨C,H,rfl⟩:=H;exact(h.2 i C v H g).gK
theorem Mw(b):∀as g,AV.bG as=Y->cV b (as.map AV.gK) g=0
 |[],g,_=>by simp[cV]|a::as,[],_=>by simp[cV]|a::as,x::g,h=>by
  simp only[AV.bG,ahd,E6]at h;have:=Mw b as g h.2;simp only[aaZ,cV,aa0 b a x h.1,this]
theorem L0{as}(h:AV.bG as=Y):AV.bG (as.map AV.gK)=Y:=by
 simp only[AV.bG,aam,aap]at *;rintro x ⟨y,m,rfl⟩;exact QE y (h y m)
theorem NT{as}(h:AV.bG as=Y)(k n):AV.bG ((as.drop k).take n)=Y:=by
 simp only[AV.bG,aam]at *;intro x l;exact h x (afz (afy l))
theorem zX{g}(x:List g)(k n)(h:k+n<=Q x):aB x k ((x.drop k).take n)=x:=by
 rw[mS _ _ _ (by simp;omega)];have:Q ((x.drop k).take n)=n:=by simp;omega
 rw[this,afG,<-afC,agk,agk]
theorem QF{r C x k n}(H:dm w G r x)(q:cut r k n=Z C)(L:AV.bG r=Y):
  dm w G (aB r k (C.map AV.gK)) x/\AV.bG (aB r k (C.map AV.gK))=Y/\∀b,cV b (aB r k (C.map AV.gK)) x+cV b C ((x.drop k).take n)=cV b r x:=by
 obtain⟨rfl,j,m⟩:=wG q;have h:=NT L k n;have g:k+n<=Q x:=by rw[<-H.1];exact j
 have O:=zX x k n g;refine⟨?_,mU L (L0 h) (by rw[adW];omega),λb=>?_⟩;have:=H.aB ((H.drop k).take n).gK (n:=k) (by rw[adW];omega);rw[O]at this;exact this;have v:=oT b k r x H.1;have l:=oT b n (r.drop k) (x.drop k) (by simp[H.1]);have p:=Mw b ((r.drop k).take n) ((x.drop k).take n) h;have e:cV b (aB r k (((r.drop k).take n).map AV.gK)) x=cV b (aB r k (((r.drop k).take n).map AV.gK)) (aB x k ((x.drop k).take n)):=by rw[O]
 rw[e,mS _ _ _ (by rw[adW];omega),mS _ _ _ (by simp;omega),iL b _ _ _ _ (by have:=H.1;simp;omega),iL b _ _ _ _ (by have:=H.1;simp;omega),p];have s:Q (((r.drop k).take n).map AV.gK)=n:=by rw[adW];omega
 have t:Q ((x.drop k).take n)=n:=by simp;omega
 rw[s,t];rw[afC,afC]at l;omega
theorem kL{k:Type}(l:List k)(i x)(h:l[i]?=Z x):l.set i x=l:=by
 apply agi;intro j;rw[aaD];split;rename_i e;subst e;split;exact h.symm;rename_i g;exact bH (aad.1 h).1 g
 rfl
theorem TJ{t x n agg}(ho:o.op=.load t x)(hn:dD P t n=Y)(zT:rQ P t=Z agg)(qj:agg=X->n=1){st bx}(F:mH w G st)(hB:ny w G β bx){cO}(hX:∀b,cO b+ja b β bx+dh b G.ls st<=1){p}(hp:bJ w G p (ρ x)){wl ai st' iJ r}(l:bD wl ai (.load agg n Y) [.val p] st bx=Z (r,st',iJ)):
  ∃v,(execOp ρ o).run P w=.ok (.value v) w/\mj w G β st bx cO w G β st' iJ r v:=by
 simp only[bD,bz]at l;split at l;rename_i W B;split at l;rename_i qS v H hv;cases l;unfold gT at H;split at H;rename_i id di i k;split at H;rename_i ve sz rows M;split at H;rename_i O;simp only[E6,aC]at O;obtain⟨rfl,_⟩:=O;split at H;rename_i m I;split at H;rename_i cF;cases H;simp only[gP,M,I,bz]at B;obtain⟨loc,b,off,c,e,xs,hl,Gy,HI,J,QD,sX,iK,je,ir,L,s,kJ,N,E,fU⟩:=EU F hp M I;obtain⟨t1,t2,t3⟩:=QF E B (J.IU m (eL I));obtain⟨mT,TK,mI⟩:=wG B;have hxl:Q xs=Q m:=E.1.symm;have VN:Q ((xs.drop k).take n)=n:=by simp;omega
 have fR:dm w G W ((xs.drop k).take n):=by rw[mT];exact(E.drop k).take n
 obtain⟨u,g,q,h3⟩:=NN ho hn zT qj QD VN fR (λj z y=>by
  rw[abv]at y;split at y;rw[afw]at y;rw[show off+(i*sz+k)+j=off+(i*sz+(k+j)) by omega];exact fU i xs (k+j) z N y;cases y) hv
 refine⟨u,g,xV F hB hX hl M (xO.refl w G) (kL _ _ _ hl).symm ⟨Gy,HI,?_⟩ F.qT (λb _ _=>⟨rfl,rfl⟩) (aal _) rfl rfl q λC=>?_⟩;refine⟨dx.2 λR D=>?_,λR D=>?_,by simp[J.len],J.size,by simp[J.yE],λi' R Th g q=>?_,.inr ⟨b,off,c,e,sX,iK,ir,L,by simpa using s,kJ,fU⟩⟩;rcases ae7 D with h|h;exact dx.1 J.zR R h;rw[h,fQ];exact dx.1 J.zR m (eL I);rcases ae7 D with h|h;exact J.IU R h;rw[h];exact t2;rw[aaD]at g;by_cases T:i=i';subst T;rw[af rfl]at g;split at g;cases g;rw[N]at q;cases q;exact t1;cases g;rw[U T]at g;exact J.y5 i' R Th g q;have h4:=y6 C rows loc.vals i m xs (aB m k (W.map AV.gK)) xs I N;rw[kL _ _ _ N]at h4;have h5:=t3 C;have h6:=h3 C;simp only[dH,kN];omega;cases H;cases H;cases H;cases H;cases H;cases l;cases l
end Ax
namespace Ax
open Go
variable {P:Program}{w w':World}{G G':bT}{β jE:List wj}{ρ:Operand->Value}{o:Oper}
def gX(nb:Option Nat)(β jE:List wj):Prop:=∀(j:Nat) g,β[j]?=Z g->∃h,jE[j]?=Z h/\(nb≠Z j->h.lz=g.lz)
theorem gX.refl(nb β):gX nb β β:=λ_ g h=>⟨g,h,λ_=>rfl⟩
theorem gX.set{nb j g k}(H:β[j]?=Z g)(h:nb≠Z j->k.lz=g.lz):gX nb β (β.set j k):=by
 intro i x l;by_cases m:j=i;subst m;rw[H]at l;cases l;exact⟨k,by rw[aaD,af rfl,af (aad.1 H).1],h⟩;exact⟨x,by rw[aaD,U m];exact l,λ_=>rfl⟩
theorem JW{st bx cO}(C:mH w G st)(t:ny w G β bx)(L:∀b,cO b+ja b β bx+dh b G.ls st<=1){j g g' l row' e v}(m:β[j]?=Z g)(n:bx[j]?=Z l)(M:g'.lz=g.lz)(z:xO w G w' G')(B:G'.ls=G.ls)(N:ER w' G' row' g')(J:∀b p,G'.qi b=Z p->b<w'.heap.size)(q:∀b,b<w.heap.size->g.lz≠Z b->fY w G w' G' b)(s:w.heap.size<=w'.heap.size)(T:w'.os=w.os)(D:w'.output=w.output)(F:nX w' G' (β.set j g') e v)(E:∀b,dH b e v+cV b row' g'.vals<=cO b+cV b l g.vals):mj w G β st bx cO w' G' (β.set j g') st (bx.set j row') e v:=by
 have key:∀b,g.lz=Z b->1<=(if g.lz=Z b then 1 else 0)+cV b l g.vals:=λb h=>by rw[af h];omega
 refine⟨z,BO C z B (λb y=>q b (C.held y) λh=>?_) J,⟨by simp[t.len],λi r x H k=>?_⟩,F,λb=>?_,λb y R=>q b R λh=>?_,s,T,D⟩;have H:=key b h;have k:=rT b β bx j g l m n;have:=L b;omega;rw[aaD]at H k;by_cases I:j=i;subst I;rw[af rfl,af (aad.1 n).1]at H;rw[af rfl,af (aad.1 m).1]at k;cases H;cases k;exact N;rw[U I]at H k;refine(t.box i r x H k).lY z λb y=>q b (t.held (b:=b) (by have:=rT b β bx i x r k H;omega)) λh=>?_;have O:=key b h;have W:=Qt b β bx i j x r g l (λe=>I e.symm) k H m n;have:=L b;omega;have H:=EP b β bx j g l g' row' m n;have k:=E b;rw[B];rw[M]at H;omega;have H:=key b h;have k:=rT b β bx j g l m n;omega
theorem NU{bx}(s:ny w G β bx){j k v h}(t:nX w G β (.fp j k) v)(y:bx[j]?=Z h):
  ∃g b c e,β[j]?=Z g/\g.lz=Z b/\v=.pointer (Z ⟨b,k,K⟩)/\ER w G h g/\w.heap[b]?=Z (.cells c e (0,0))/\Q h<=c.size/\G.qi b=Z 0/\∀k x,g.vals[k]?=Z x->w.cell? ⟨b,k,K⟩=Z x:=by
 obtain⟨g,b,l,H,p⟩:=t;have n:=s.box j h g y l;rcases n.uQ with⟨B,_⟩|⟨z,c,e,m,O,C,N,q⟩;rw[B]at H;cases H;rw[H]at m;cases m;exact⟨g,b,c,e,l,H,p,n,O,C,N,q⟩
theorem aa1{t x y T n}(ho:o.op=.store t x y)(hn:dD P t n=Y){st bx}(hI:mH w G st)(hB:ny w G β bx){cO}(hX:∀b,cO b+ja b β bx+dh b G.ls st<=1){p v}(hp:nX w G β p (ρ x))(hv:nX w G β v (ρ y))(mT:∀b,dH b v (ρ y)<=cO b){wl ai st' iJ r}(H:bD wl ai (.yz T n) [p,v] st bx=Z (r,st',iJ)):
  ∃w' G' jE,(execOp ρ o).run P w=.ok .skip w'/\mj w G β st bx cO w' G' jE st' iJ r undef/\gX K β jE:=by
 unfold bD at H;simp only at H;split at H;rename_i j k v heq;cases heq;split at H;rename_i nZ;simp only[E6,aC]at nZ;obtain⟨⟨rfl,h⟩,M⟩:=nZ;split at H;rename_i D R;split at H;rename_i C;cases H;obtain⟨g,b,c,e,J,W,QD,m,q,O,kJ,fU⟩:=NU hB hp R;obtain⟨F,LW⟩:=bJ.cells hv;have VM:Q (ρ y).cells.toList=n:=by rw[<-h];exact F.1.symm
 have L:k+Q (ρ y).cells.toList<=c.size:=by omega
 have Iu:=jU (P:=P) b k e (ρ y).cells.toList c w q L (F.afR M);have I:Wr w G (w.setRow b (aB c.toList k (ρ y).cells.toList).toArray) ⟨G.ls,λB=>if B=b then Z 0 else G.qi B⟩ b:=JU q L kJ (afD _) (aal _) (JS G);have qj:cO b=0/\cV b D g.vals=0:=by
  have h1:=hX b;have E:=rT b β bx T g D J R;rw[af W]at E;omega
 refine⟨_,⟨G.ls,λB=>if B=b then Z 0 else G.qi B⟩,β.set T ⟨g.lz,aB g.vals k (ρ y).cells.toList⟩,?_,JW hI hB hX J R rfl I.lY rfl ⟨?_,mU m.IU M (by rw[h];exact C),.inr ⟨b,_,e,W,setRow_heap w b c _ e (0,0) q,?_,by simp,λi z l=>?_⟩⟩ (I.qT hI) (λB _ s=>I.l6 λe=>s (by rw[W,e])) (by simp) rfl rfl trivial λB=>?_,gX.set J λ_=>rfl⟩;have fM:(ρ y).cells.size=n:=by simpa using VM
 simp only[execOp,ho,QD,cq,Instr.storeAt,Instr.sureAddr,Sem.run_pure,dA,storeVar,fW hn,fM,ne_eq,not_true_eq_false,bC,Iu];refine(m.yT.mono I.lY λB s=>I.l6 λe=>?_).aB (F.mono I.lY λB s=>I.l6 λe=>?_) (by rw[h];exact C);subst e;omega;subst e;rw[LW]at s;have:=mT B;simp only[dH]at this;omega;rw[fQ,ahm,fQ];simpa using O;rw[xT q L];simp only at l;rw[lZ _ _ _ _ (by rw[VM];rw[<-m.yT.1];exact C)]at l;split at l;rename_i N;rw[af N];exact l;rename_i N;rw[U N];exact fU i z l;have E:=wF B D v.cells g.vals (ρ y).cells.toList k m.yT.1 F.1 (by rw[h];exact C);have h3:=mT B;rw[LW]at E;simp only[dH]at h3 ⊢;omega;cases H;cases H;cases H;cases H
theorem agd{t x j0 n agg T}(ho:o.op=.load t x)(W:dD P t n=Y)(zT:rQ P t=Z agg)(qj:agg=X->n=1){st bx}(E:mH w G st)(D:ny w G β bx){cO}(hX:∀b,cO b+ja b β bx+dh b G.ls st<=1){p}(hp:nX w G β p (ρ x)){wl ai st' iJ r}(H:bD wl ai (.yV j0 agg n T) [p] st bx=Z (r,st',iJ)):
  ∃v,(execOp ρ o).run P w=.ok (.value v) w/\mj w G β st bx cO w G β st' iJ r v:=by
 unfold bD at H;simp only at H;split at H;rename_i j k heq;cases heq;split at H;rename_i hj;subst hj;split at H;rename_i M hr;split at H;rename_i C h;obtain⟨g,b,c,e,U,je,J,m,ir,F,kJ,R⟩:=NU D hp hr;obtain⟨mT,TK,mI⟩:=wG h;have hxl:Q g.vals=Q M:=m.yT.1.symm;have L:Q ((g.vals.drop k).take n)=n:=by simp;omega
 have O:dm w G C ((g.vals.drop k).take n):=by rw[mT];exact(m.yT.drop k).take n
 have qZ:∀(j:Nat) y,((g.vals.drop k).take n)[j]?=Z y->w.cell? ⟨b,k+j,K⟩=Z y:=λj z l=>by
  rw[abv]at l;split at l;rw[afw]at l;exact R _ z l;cases l
 split at H;split at H;rename_i v I;cases H;obtain⟨u,q,s,B⟩:=NN ho W zT qj J L O qZ I;obtain⟨t1,t2,t3⟩:=QF m.yT h m.IU;have:=JW (e:=.val v) (v:=u) (g':=g) (row':=aB M k (C.map AV.gK)) E D hX U hr rfl (xO.refl w G) rfl ⟨t1,t2,.inr ⟨b,c,e,je,ir,by rw[fQ];exact F,kJ,R⟩⟩ E.qT (λb _ _=>⟨rfl,rfl⟩) (aal _) rfl rfl s λN=>by
  have h4:=t3 N;have h5:=B N;simp only[dH];omega
 rw[kL _ _ _ U]at this;exact⟨u,q,this⟩;cases H;split at H;rename_i v I;cases H;obtain⟨u,q,s,B⟩:=NN ho W zT qj J L O.aj qZ I;refine⟨u,q,mj.ri E D s λd=>?_⟩;simp only[dH,B d];rw[fD d _ _ (jr C)];omega;cases H;cases H;cases H;cases H;cases H
theorem JX(b):∀n rs g,iM b (rs.take n) (g.take n)<=iM b rs g
 |0,rs,g=>by simp[iM]|n+1,[],g=>by simp[iM]|n+1,r::rs,[]=>by simp[iM]|n+1,r::rs,x::g=>by
  have:=JX b n rs g;simp only[akd,iM];omega
theorem aa3{t e x hi sz}(ho:o.op=.slice t x K (Z hi) K)(hu:P.underlying t=Z (.slice e))(O:dD P e sz=Y){st bx}(C:mH w G st)(hB:ny w G β bx){cO}(hX:∀b,cO b+ja b β bx+dh b G.ls st<=1){a h}(W:bJ w G a (ρ x))(hh:bJ w G h (ρ hi)){wl ai st' iJ r}(g:bD wl ai (.wC sz) [.val a,.val h] st bx=Z (r,st',iJ)):
  ∃v G',(execOp ρ o).run P w=.ok (.value v) w/\mj w G β st bx cO w G' β st' iJ r v:=by
 unfold bD at g;simp only at g;split at g
 ·rename_i id di n heq;cases heq;split at g
  ·rename_i v s rows iX;split at g
   ·rename_i hc;simp only[E6,aC]at hc;obtain⟨⟨⟨⟨rfl,rfl⟩,B⟩,H⟩,_⟩:=hc;cases g;obtain⟨loc,q,Gy,HI,M⟩:=C.loc iX;generalize Qo:ρ x=xv at W;cases W with
    |mu _ _ _ loc' hp xE Dw he=>
    rw[q]at xE;cases xE;have sL:=he (by omega);subst sL;have I:Q rows<=loc.cap:=by
     rcases M.uQ with⟨B,H,_⟩|⟨b,off,c,y,N,I,L,O,m,R,F⟩;rw[H];simp;exact m
    have D:=hh.jg;have Yi:(execOp ρ o).run P w=.ok (.value (.slice loc.a n.toNat loc.cap)) w:=by
     simp only[execOp,ho,Qo,cq];have hb:(Instr.sliceBounds Y loc.len loc.cap K (Z (ρ hi)) K).run P w=.ok (0,n.toNat,loc.cap) w:=by
      have:=nY (P:=P) (DK:=Y) (len:=loc.len) (cap:=loc.cap) (lo:=K) (hi:=Z hi) (ρ:=ρ) (a:=0) (b:=n) (.inl ⟨rfl,rfl⟩) (.inr ⟨hi,rfl,D⟩) (by omega) B (by omega) w;simpa using this
     simp only[Instr.sliceAt,cq,ct hu,dA,Instr.slice,akk,afs,hb,fW O,Sem.run_pure];rcases M.uQ with⟨B,H,_⟩|⟨b,off,c,y,N,I,L,O,m,R,F⟩;simp[B];simp[N,oU,show ¬loc.cap=0 by omega]
    have T:xO w G w (G.at id ⟨loc.a,loc.cap,n.toNat,loc.sz,v+1,X,loc.vals.take n.toNat⟩):=TD q (by simp;omega) λh=>by rcases h with h|h<;>simp_all<;>omega
    refine⟨_,_,Yi,xV (loc':=⟨loc.a,loc.cap,n.toNat,loc.sz,v+1,X,loc.vals.take n.toNat⟩) C hB hX q iX T rfl ⟨rfl,rfl,?_⟩ C.qT (λb _ _=>⟨rfl,rfl⟩) (aal _) rfl rfl (.mu _ _ _ _ ⟨_,_,_,rfl⟩ (by simp only[bT.at];rw[aaD,af rfl,af (aad.1 q).1]) (aal _) λ_=>rfl) λb=>?_⟩;have p:=uR.lY (w':=w) (show uR w G (.rows v s rows) loc from⟨Gy,HI,M⟩) T λb _=>⟨rfl,rfl⟩;obtain⟨_,_,l⟩:=p;refine⟨dx.2 λr J=>dx.1 l.zR r (afy J),λr J=>l.IU r (afy J),by simp;omega,l.size,by simp[l.yE],λi r xs E k=>?_,?_⟩;simp only at k;rw[abv]at E k;split at E;rename_i bK;rw[af bK]at k;exact l.y5 i r xs E k;cases E;rcases l.uQ with⟨B,H,U⟩|⟨b,off,c,y,N,I,L,O,m,R,F⟩;exact .inl ⟨B,by rw[H];simp,U⟩;refine .inr ⟨b,off,c,y,N,I,L,O,by simp;omega,R,λi xs j z E k=>?_⟩;simp only at E;rw[abv]at E;split at E;exact F i xs j z E k;cases E;have U:=JX b n.toNat rows loc.vals;simp only[dH,iI];show 0+((if loc.lz=Z b then 1 else 0)+iM b (rows.take n.toNat) (loc.vals.take n.toNat))<=cO b+((if loc.lz=Z b then 1 else 0)+iM b rows loc.vals)+_;omega
   cases g
  cases g
 cases g
end Ax
namespace Ax
open Go
variable {P:Program}{w w':World}{G G':bT}{β jE:List wj}{ρ:Operand->Value}{o:Oper}
theorem JY{r E clock O}(h:w.heap[r]?=Z (.map E clock)):(setObj r O).run P w=.ok () { w with heap:=w.heap.setIfInBounds r O }:=by
 simp[setObj,Sem.run,h]
theorem yF{t kk}(l:um P t kk=Y){k v x y}(D:bJ w G k x)(hv:bJ w G v y)(N:k.dw=Y)(T:v.dw=Y):∀E I fs,Eg w G E fs->Jw kk k v E=Z I->
  (∃i e u,yW kk k E=Z (Z u)/\fs[i]?=Z e/\(∀q,(Instr.findKey t x fs).run P w=.ok q w->∃val,q=Z (i,val))/\LQ kk k (E[i]?.map (·.1) |>.getD .undef)=Z Y/\(∃a,E[i]?=Z a/\bJ w G a.1 e.key)/\Eg w G I (fs.set i { e with key:=x,val:=y }))\/
  (yW kk k E=Z K/\∀born,Eg w G I (fs++[{ key:=x,val:=y,born:=born }])):=by
 have j:∃d,P.underlying t=Z d:=by
  unfold um at l;cases kk<;>simp only at l<;>split at l<;>(try cases l)<;>exact⟨_,by assumption⟩
 obtain⟨d,j⟩:=j;intro E;induction E with
 |nil=>
  intro I fs g h;simp only[Jw,bE]at h;subst h;have h0:fs=[]:=aau (by simpa using g.1);subst h0;refine .inr ⟨rfl,λborn=>⟨rfl,λi a b e n H=>?_⟩⟩;cases i with
  |zero=>simp at n H;obtain⟨rfl,rfl⟩:=n;subst H;exact⟨D,hv,T,N⟩|succ i=>simp at n
 |cons c E ih=>
  intro I fs g h;obtain⟨a,u⟩:=c;cases fs with
  |nil=>have:=g.1;simp at this|cons f fs=>
   obtain⟨U,g2,g3,g4⟩:=g.2 0 a u f rfl rfl;simp only[Jw]at h;split at h;rename_i B;cases h;refine .inl ⟨0,f,u,by simp[yW,B],rfl,λq O=>?_,by simpa using B,⟨(a,u),rfl,U⟩,?_⟩;have hs:=zU l j B D U;have:(Instr.findKey t x (f::fs)).run P w=.ok (Z (0,f.val)) w:=by simp[Instr.findKey,ct j,Instr.findNow,hs]
   rw[this]at O;cases O;exact⟨_,rfl⟩;refine⟨by simpa using g.1,λi p q e n H=>?_⟩;cases i with
   |zero=>simp at n H;obtain⟨rfl,rfl⟩:=n;subst H;exact⟨D,hv,T,N⟩|succ i=>exact g.2 (i+1) p q e (by simpa using n) (by simpa using H)
   rename_i B;split at h;rename_i r' DA;cases h;have hs:=zU l j B D U;have J:∀m F,Eg w G m F->Eg w G ((a,u)::m) (f::F):=λm F H=>⟨by simp[H.1],λi p q e C L=>by
    cases i with
    |zero=>simp at C L;obtain⟨rfl,rfl⟩:=C;subst L;exact⟨U,g2,g3,g4⟩|succ i=>exact H.2 i p q e (by simpa using C) (by simpa using L)⟩
   rcases ih r' fs g.tail DA with⟨i,e,u',M,W,f3,f4,f5,f6⟩|⟨M,W⟩;refine .inl ⟨i+1,e,u',by simp[yW,B,M],by simpa using W,λq O=>?_,by simpa using f4,by simpa using f5,by simpa using J _ _ f6⟩;obtain⟨q0,C,L⟩:=zV l j D E fs 0 _ g.tail M;obtain⟨q1,e3,e4⟩:=zV l j D E fs 1 _ g.tail M;obtain⟨j0,e0,a1,_⟩:=L;obtain⟨j1,e0',b1,b2,_⟩:=e4;have h0:(Instr.findKey t x fs).run P w=.ok q0 w:=(by simp[Instr.findKey,ct j,C]);obtain⟨val,sL⟩:=f3 q0 h0;have:(Instr.findKey t x (f::fs)).run P w=.ok q1 w:=by simp[Instr.findKey,ct j,Instr.findNow,hs,e3]
   rw[this]at O;cases O;have key:∀(fs:List MapEntry) (s:Nat) (q:Option (Nat×Value)),Instr.findNow d x fs s=Z q->Instr.findNow d x fs (s+1)=Z (q.map λz=>(z.1+1,z.2)):=by
    intro fs;induction fs with
    |nil=>intro s q h;simp[Instr.findNow]at h ⊢;subst h;rfl|cons f fs ih=>
     intro s q h;simp only[Instr.findNow]at h ⊢;cases R:Instr.sameNow d x f.key with
     |none=>rw[R]at h;simp at h|some b=>
      rw[R]at h;cases b with
      |true=>simp at h ⊢;subst h;rfl|false=>simp at h ⊢;exact ih _ _ h
   have h3:=key fs 0 q0 C;rw[Nat.zero_add]at h3;rw[e3]at h3;cases h3;rw[sL];exact⟨val,rfl⟩;exact .inr ⟨by simp[yW,B,M],λborn=>J _ _ (W born)⟩;cases h;cases h
theorem QG{kk a b x y}(h:LQ kk a b=Z Y)(H:bJ w G a x)(l:bJ w G b y)(n):Instr.sameBits n y x=Y:=by
 unfold LQ at h;split at h;simp only[bE,cJ]at h;rw[H.mR,l.mR,h];simp[Instr.sameBits];split at h;rename_i D;subst D;simp only[bE,cJ]at h;rw[H.jg,l.jg,h];simp[Instr.sameBits];cases h;simp only[bE,cJ]at h;obtain⟨s,rfl,rfl⟩:=H.qK;obtain⟨j,rfl,g⟩:=l.qK;have:s=j:=ByteArray.ext (Array.toList_inj.1 (h.trans g.symm));subst this;simp only[Instr.sameBits];rw[beq_toListBytes];exact beq_self_eq_true _;cases h
theorem HP{t kt et m k x}(z:o.op=.mapUpdate t m k x\/o.op=.insert t m k x)(hu:P.underlying t=Z (.map kt et)){kk}(D:um P kt kk=Y){st bx}(hI:mH w G st)(hB:ny w G β bx){cO}(hX:∀b,cO b+ja b β bx+dh b G.ls st<=1){am M O}(hm:bJ w G am (ρ m))(y:bJ w G M (ρ k))(hv:bJ w G O (ρ x)){wl ai st' iJ r}(H:bD wl ai (.mapUpdate kk) [.val am,.val M,.val O] st bx=Z (r,st',iJ)):
  ∃w' G',(execOp ρ o).run P w=.ok .skip w'/\mj w G β st bx cO w' G' β st' iJ r undef:=by
 unfold bD at H;simp only at H;split at H;rename_i id k0 v0 heq;cases heq;split at H;rename_i es iX;split at H;rename_i nZ;simp only[E6]at nZ;split at H;rename_i J Yj;cases H;have hkn:M.dw=Y:=by
  have:=nZ.1;unfold Mm at this;split at this<;>first|rfl|cases this
 obtain⟨loc,hl,Qn⟩:=hI.loc iX;obtain⟨g1,g2,b,fs,clock,C,L,g5,g6,g7⟩:=Qn;have hmv:ρ m=.map (Z b):=by
  generalize ρ m=mv at hm;cases hm with
  |map _ loc' bk xE Gy s=>rw[hl]at xE;cases xE;rw[s]at C;cases C;rfl
 have je:loc.lz=Z b:=by unfold yD.lz;rw[ah,C];rfl
 have hM:Eg w G es fs.toList:=⟨by simpa using g6,λi a v e E g=>g7 i a v e E (by simpa using g)⟩;have R:(getObj b).run P w=.ok (.map fs clock) w:=by simp[getObj,Sem.run,L]
 have p:=run_checkKey (w:=w) D X 9999 (ρ k);have mJ:∀(F:Array MapEntry) (N:Nat),Eg w G J F.toList->
   mj w G β st bx cO { w with heap:=w.heap.setIfInBounds b (.map F N) } ⟨(G.at id loc).ls,λB=>if B=b then Z 0 else G.qi B⟩ β (st.set id (.map J)) bx .none undef:=by
  intro F N n;have bK:b<w.heap.size:=(aaA.1 L).1;have I:Wr w G { w with heap:=w.heap.setIfInBounds b (.map F N) } ⟨(G.at id loc).ls,λB=>if B=b then Z 0 else G.qi B⟩ b:=
   ⟨by simp,λB s=>by simp only[ali];rw[U λe=>s e.symm],λB s=>by simp[s],⟨0,0,g5,by simp,aal _,λo z=>by omega⟩,JT hl (aal _) λ_=>rfl⟩
  refine xV hI hB hX hl iX I.lY rfl ⟨g1,g2,b,F,N,C,?_,by simp,by simpa using n.1,λi a v e E g=>?_⟩ (I.qT hI) (λB _ s=>I.l6 λe=>s (by rw[je,e])) (by simp) rfl rfl trivial λB=>by simp only[dH,kN];omega
  simp only[ali];rw[af trivial,af bK];obtain⟨h1,h2,h3,h4⟩:=n.2 i a v e E (by simpa using g);exact⟨h1.lY I.lY λb hb=>by rw[gW b a _ h4]at hb;omega,h2.lY I.lY λb hb=>by rw[gW b v _ h3]at hb;omega,h3,h4⟩
 have head:∀(w':World),(Instr.mapUpdate t (.map (Z b)) (ρ k) (ρ x)).run P w=.ok () w'->(execOp ρ o).run P w=.ok .skip w':=by
  intro w' h;rcases z with z|z<;>simp only[execOp,z,hmv,cq,h,dA,Sem.run_pure]
 rcases yF D y hv.aj hkn (zQ O) es J fs.toList hM Yj with⟨i,e,u,T,W,f3,f4,⟨a,f5,f6⟩,f7⟩|⟨T,W⟩;obtain⟨q,E,g⟩:=run_findKey D y hM T w;obtain⟨val,rfl⟩:=f3 q E;have l:fs[i]?=Z e:=by simpa using W
 refine⟨_,_,head _ ?_,mJ (fs.modify i λe=>{ e with key:=ρ k,val:=ρ x }) clock ?_⟩;rw[f5]at f4;have hsb:=QG f4 y f6 10000;simp only[Instr.mapUpdate,cq,ct hu,dA,R,p,E,l,afs,Option.getD_some,Instr.keyThatStays,hsb,bz,Sem.run_pure,JY L];have:(fs.modify i λe=>{ e with key:=ρ k,val:=ρ x }).toList=fs.toList.set i { e with key:=ρ k,val:=ρ x }:=by
  rw[Array.toList_modify];apply agi;intro j;rw[List.getElem?_modify,aaD];by_cases Is:i=j;subst Is;simp[(aaA.1 l).1,(aaA.1 l).2];simp[Is]
 rw[this];exact f7;obtain⟨q,E,g⟩:=run_findKey D y hM T w;simp only at g;subst g;refine⟨_,_,head _ ?_,mJ (fs.push { key:=ρ k,val:=ρ x,born:=clock }) (clock+1) (by rw[Array.toList_push];exact W clock)⟩;simp only[Instr.mapUpdate,cq,ct hu,dA,R,p,E,JY L];cases H;cases H;cases H;cases H
end Ax
namespace Ax
open Go
variable {P:Program}{w w':World}{G G':bT}{β jE:List wj}{ρ:Operand->Value}{o:Oper}
structure Qd (w:World)(G:bT)(st:aO)(G':bT)(st':aO):Prop where
 lY:xO w G w G'
 inv:mH w G' st'
 iI:∀b,dh b G'.ls st'<=dh b G.ls st
 BJ:∀b,dh b G.ls st=0->G'.qi b=G.qi b
theorem Qd.refl{st}(j:mH w G st):Qd w G st G st:=⟨xO.refl w G,j,λ_=>aal _,λ_ _=>rfl⟩
theorem Qd.trans{g j st qS qh}(h:Qd w G st g qS)(k:Qd w g qS j qh):Qd w G st j qh:=
 ⟨h.lY.trans k.lY,k.inv,λb=>Nat.le_trans (k.iI b) (h.iI b),λb l=>(k.BJ b (by have:=h.iI b;omega)).trans (h.BJ b l)⟩
mutual
theorem BQ:∀a:AV,a.aH=Y->a.aj.aH=Y
 |.iY _ _,_=>by simp[AV.aj,AV.aH]|.raw _ _,_=>by simp[AV.aj,AV.aH]|.agg C,h=>by simp only[AV.aj,AV.aH]at *;exact tT C h|.fC C,h=>by simp only[AV.aj,AV.aH]at *;exact tT C h|.undef,h|.gone,h|.bool _,h|.int _ _,h|.str _,h|.ff,h|.aF,h|.gR,h|.jx,h|.me,h|.eE _ _,h|.pP,h|.mu _ _,h|.ptr _ _ _ _,h|.uL _ _ _ _,h|.map _,h|.fn _ _ _,h=>by simpa [AV.aj] using h
theorem tT:∀C:List AV,AV.aD C=Y->AV.aD (AV.cP C)=Y
 |[],_=>rfl|c::C,h=>by
  simp only[AV.aD,E6]at h;simp only[AV.cP,AV.aD,BQ c h.1,tT C h.2,afH]
end
theorem bJ.GB{a v}(h:bJ w G a v)(j:xO w G w' G')(g:a.dw=Y):bJ w' G' a v:=h.lY j λb l=>by rw[gW b a v g]at l;omega
def oA(s D:Nat):yD:=⟨Z ⟨0,0,K⟩,0,0,s,D+1,X,[]⟩
theorem NX(s D):uR w G (.rows (D+1) s []) (oA s D):=
 ⟨rfl,rfl,by simp[cy],by simp,rfl,rfl,rfl,λi r x h=>by simp at h,.inl ⟨rfl,rfl,rfl⟩⟩
theorem Mx{st}(j:mH w G st){id D s rows loc}(I:st[id]?=Z (.rows D s rows))(g:G.ls[id]?=Z loc)(q:loc.mp=X)(T:loc.di=D):
  Qd w G st (G.at id (oA s D)) (st.set id (.rows (D+1) s []))/\∀b,dh b (G.at id (oA s D)).ls (st.set id (.rows (D+1) s []))+kN b loc (.rows D s rows)=dh b G.ls st:=by
 have k:xO w G w (G.at id (oA s D)):=TD g (by simp only[oA];omega) λh=>by
  rcases h with h|h;simp only[oA]at h;omega;rw[q]at h;cases h
 have H:∀b,dh b (G.at id (oA s D)).ls (st.set id (.rows (D+1) s []))+kN b loc (.rows D s rows)=dh b G.ls st:=λb=>by
  have:=BI b G.ls st id loc _ (oA s D) (.rows (D+1) s []) g I;have B:kN b (oA s D) (.rows (D+1) s [])=0:=by simp[kN,oA,yD.lz,iM]
  rw[B]at this;exact this
 exact⟨⟨k,IX j k rfl (λ_ _ _ b _ _ _ _=>⟨rfl,rfl⟩) (NX s D) j.qT,λb=>by have:=H b;omega,λ_ _=>rfl⟩,H⟩
def bT.Iw(G:bT)(b:Nat):bT:=⟨G.ls,λB=>if B=b then K else G.qi B⟩
theorem QH{st}(h:mH w G st){b}(l:G.qi b=Z 0)(k:dh b G.ls st=0):xO w G w (G.Iw b)/\mH w (G.Iw b) st:=by
 have g:xO w G w (G.Iw b):=⟨λB o H=>⟨rfl,H.1,λp j=>by
  simp only[bT.Iw]at j;split at j;cases j;exact H.2 p j⟩,JS G⟩
 refine⟨g,BO h g rfl (λB s=>⟨?_,rfl⟩) λB p j=>?_⟩;simp only[bT.Iw];rw[U];intro e;subst e;omega;simp only[bT.Iw]at j;split at j;cases j;exact h.qT B p j
theorem QI{s b off cap rows}{vals:List _}(F:cy s rows=Y)(M:∀r∈rows,AV.bG r=Y)(B:∀r∈rows,AV.fT r=Y)(T:∀r∈rows,AV.aD r=Y)(m:Q vals=Q rows)(l:∀(i:Nat) r k,rows[i]?=Z r->vals[i]?=Z k->dm w G r k)(O:Q rows<=cap)(I:b<w.heap.size)(L:G.qi b=K)(C:∀i k j x,vals[i]?=Z k->k[j]?=Z x->w.cell? ⟨b,off+(i*s+j),K⟩=Z x):bJ w G (.eE s rows) (.slice (Z ⟨b,off,K⟩) (Q rows) cap):=by
 have key:∀(i:Nat) r (j:Nat) c,rows[i]?=Z r->r[j]?=Z c->∃v,w.cell? ⟨b,off+(i*s+j),K⟩=Z v/\bJ w G c v:=by
  intro i r j c H g;have J:i<Q vals:=by rw[m];exact(aad.1 H).1
  have y:=aae J;obtain⟨E,z⟩:=l i r _ H y;have t:j<Q vals[i]:=by rw[<-E];exact(aad.1 g).1
  exact⟨_,C i _ j _ y (aae t),z j c _ g (aae t)⟩
 refine .eE s rows ⟨b,off,K⟩ cap rfl O F B T M (λi r j c H g=>⟨⟨I,λp n=>by simp only at n;rw[L]at n;cases n⟩,?_⟩) λi r j c v H g q=>?_;obtain⟨v,h,_⟩:=key i r j c H g;exact⟨v,h⟩;obtain⟨N,h,D⟩:=key i r j c H g;rw[h]at q;cases q;exact D
theorem TM{wl st st' a l v}(n:mH w G st)(hX:∀b,dh b G.ls st<=1)(h:bJ w G a v)(H:nH wl a st=Z (l,st')):
  ∃G',Qd w G st G' st'/\bJ w G' l v/\l.dw=Y/\l.aH=Y/\l.cT=Y:=by
 unfold nH at H;split at H
 ·rename_i id di;split at H
  ·rename_i v0 s rows I;split at H
   ·rename_i k;simp only[E6,aC,afo,aam]at k;obtain⟨⟨⟨rfl,tQ⟩,iT⟩,_⟩:=k;cases H;obtain⟨loc,t,C,T,J⟩:=n.loc I;cases h with
    |mu _ _ _ L hp z Dw he=>
    rw[t]at z;cases z;have sL:=he (by omega);subst sL;rcases J.uQ with⟨_,uo,_⟩|⟨b,off,c,e',N,iK,ir,fM,m,kJ,E⟩;subst uo;simp at iT;obtain⟨F,p⟩:=Mx n I t C T;have M:loc.lz=Z b:=(by unfold yD.lz;rw[ah,N];rfl);have W:dh b (G.at id (oA s v0)).ls (st.set id (.rows (v0+1) s []))=0:=by
     have g:=p b;have q:=hX b;simp only[kN,M,bz]at g;omega
    obtain⟨y,O⟩:=QH F.inv (b:=b) (by exact kJ) W;refine⟨(G.at id (oA s v0)).Iw b,⟨F.lY.trans y,O,F.iI,λB x=>?_⟩,?_,by simp[AV.dw],by simp[AV.aH],by simp[AV.cT]⟩;simp only[bT.Iw,bT.at];rw[U];intro e;subst e;have g:=p B;simp only[kN,M,bz]at g;omega;rw[N,J.len,show Q rows=Q (rows.map AV.cP) by simp];refine QI (vals:=loc.vals) (dx.2 λr j=>?_) (λr j=>?_) (λr j=>?_) (λr j=>?_) (by simpa using J.yE) (λi r xs g q=>?_) (by simpa using m) (aaA.1 ir).1 (by simp[bT.Iw]) E;obtain⟨R,D,rfl⟩:=aap.1 j;rw[rP];exact dx.1 J.zR R D;obtain⟨R,D,rfl⟩:=aap.1 j;rw[wJ];exact J.IU R D;obtain⟨R,D,rfl⟩:=aap.1 j;exact jr R;obtain⟨R,D,rfl⟩:=aap.1 j;exact tT R (tQ R D);simp only[aaz,adM]at g;obtain⟨R,g,rfl⟩:=g;refine(J.y5 i R xs g q).aj.mono (F.lY.trans y) λB x=>?_;rw[fD B _ _ (jr R)]at x;omega
   cases H
  cases H
 split at H;rename_i k;simp only[E6]at k;cases H;exact⟨G,Qd.refl n,h.aj,zQ a,BQ a k.1,by rw[HO];exact k.2⟩;cases H
theorem JZ{wl}:∀{l L:List AV}{g:List Value}{G:bT}{st st':aO},mH w G st->(∀b,cV b l g+dh b G.ls st<=1)->dm w G l g->mg wl l st=Z (L,st')->
  ∃G',Qd w G st G' st'/\dm w G' L g/\AV.fT L=Y/\AV.aD L=Y/\AV.bG L=Y
 |[],L,g,G,st,st',n,k,h,H=>by
  simp only[mg,bE,cR]at H;obtain⟨rfl,rfl⟩:=H;exact⟨G,Qd.refl n,h,rfl,rfl,rfl⟩
 |a::l,L,g,G,st,st',n,k,h,H=>by
  simp only[mg]at H;split at H
  ·rename_i R qS N;split at H
   ·rename_i U qh O;cases H;cases g with
    |nil=>have:=h.1;simp at this|cons x g=>
    obtain⟨s,F,C,q,D,I⟩:=TM n (λb=>by have:=k b;omega) (h.2 0 a x rfl rfl) N;have m:dm w G l g:=⟨by simpa using h.1,λi c v E j=>h.2 (i+1) c v (by simpa using E) (by simpa using j)⟩;have p:∀b,cV b l g+dh b s.ls qS<=1:=λb=>by
     have E:=k b;have j:=F.iI b;simp only[cV]at E;omega
    obtain⟨B,y,z,J,M,t⟩:=JZ F.inv p (m.mono F.lY λb T=>⟨F.BJ b (by have:=k b;simp only[cV]at this;omega),rfl⟩) O;refine⟨B,F.trans y,⟨by simp[z.1],λi c v E j=>?_⟩,by simp[AV.fT,q,J],by simp[AV.aD,D,M],?_⟩;cases i with
    |zero=>simp at E j;subst E;subst j;exact C.GB y.lY q|succ i=>exact z.2 i c v (by simpa using E) (by simpa using j)
    simp only[AV.bG,ahd,E6]at t ⊢;exact⟨I,t⟩
   cases H
  cases H
theorem BR{wl}:∀{l g:List AV}{st st':aO},mg wl l st=Z (g,st')->Q g=Q l
 |[],g,st,st',H=>by simp only[mg,bE,cR]at H;obtain⟨rfl,_⟩:=H;rfl|a::l,g,st,st',H=>by
  simp only[mg]at H;split at H;split at H;rename_i h;cases H;simp[BR h];cases H;cases H
theorem HQ{wl}:∀{l L:List _}{j:List _}{G:bT}{st st':aO},mH w G st->(∀b,iM b l j+dh b G.ls st<=1)->Q l=Q j->(∀(i:Nat) r x,l[i]?=Z r->j[i]?=Z x->dm w G r x)->kI wl l st=Z (L,st')->
  ∃G',Qd w G st G' st'/\Q L=Q l/\(∀(i:Nat) r x,L[i]?=Z r->j[i]?=Z x->dm w G' r x)/\(∀(i:Nat) r R,l[i]?=Z r->L[i]?=Z R->Q R=Q r)/\(∀r∈L,AV.fT r=Y)/\(∀r∈L,AV.aD r=Y)/\(∀r∈L,AV.bG r=Y)
 |[],L,j,G,st,st',n,m,q,h,k=>by
  simp only[kI,bE,cR]at k;obtain⟨rfl,rfl⟩:=k;exact⟨G,Qd.refl n,rfl,h,λi r R e=>by simp at e,by simp,by simp,by simp⟩
 |a::l,L,j,G,st,st',n,m,q,h,k=>by
  simp only[kI]at k;split at k
  ·rename_i a1 qS v;split at k
   ·rename_i l2 qh h2;cases k;cases j with
    |nil=>simp at q|cons x j=>
    obtain⟨B,F,I,s,J,M⟩:=JZ n (λb=>by have:=m b;simp only[iM]at this;omega) (h 0 a x rfl rfl) v;have p:∀b,iM b l j+dh b B.ls qS<=1:=λb=>by
     have E:=m b;have g:=F.iI b;simp only[iM]at E;omega
    obtain⟨C,t,N,O,T,U,W,g7⟩:=HQ F.inv p (by simpa using q) (λi r y E g=>(h (i+1) r y (by simpa using E) (by simpa using g)).mono F.lY λb z=>⟨F.BJ b (by
     have D:=m b;have e4:=CP b l j i r y E g;simp only[iM]at D;omega),rfl⟩) h2
    refine⟨C,F.trans t,by simp[N],λi r y E g=>?_,λi r R E g=>?_,λr H=>?_,λr H=>?_,λr H=>?_⟩;cases i with
    |zero=>simp at E g;subst E;subst g;exact I.mono t.lY λb z=>by rw[fD b _ _ s]at z;omega|succ i=>exact O i r y (by simpa using E) (by simpa using g)
    cases i with
    |zero=>simp at E g;subst E;subst g;exact BR v|succ i=>exact T i r R (by simpa using E) (by simpa using g)
    rcases ac2.1 H with rfl|H;exact s;exact U r H;rcases ac2.1 H with rfl|H;exact J;exact W r H;rcases ac2.1 H with rfl|H;exact M;exact g7 r H
   cases k
  cases k
theorem Ej{wl st st' a k v}(p:mH w G st)(L:∀b,dh b G.ls st<=1)(h:bJ w G a v)(H:jN wl a st=Z (k,st')):
  ∃G',Qd w G st G' st'/\bJ w G' k v/\k.dw=Y:=by
 unfold jN at H;split at H
 ·rename_i id di;split at H
  ·rename_i v0 s rows N;split at H
   ·rename_i E;simp only[E6,aC,afo]at E;obtain⟨⟨rfl,iT⟩,_⟩:=E;split at H
    ·rename_i gb qS DT;cases H;obtain⟨loc,M,Gy,HI,J⟩:=p.loc N;cases h with
     |mu _ _ _ W hp xE Dw he=>
     rw[M]at xE;cases xE;have sL:=he (by omega);subst sL;rcases J.uQ with⟨_,uo,_⟩|⟨b,off,c,e',sX,iK,ir,fM,m,kJ,fU⟩;subst uo;simp at iT;obtain⟨F,l⟩:=Mx p N M Gy HI;have O:loc.lz=Z b:=(by unfold yD.lz;rw[ah,sX];rfl);have q:∀B,iM B rows loc.vals+dh B (G.at id (oA s v0)).ls (st.set id (.rows (v0+1) s []))<=1:=λB=>by
      have g:=l B;have n:=L B;simp only[kN]at g;omega
     obtain⟨C,j,z,g3,g4,D,g6,g7⟩:=HQ F.inv q J.yE.symm (λi r y e1 e2=>(J.y5 i r y e1 e2).mono F.lY λb _=>⟨rfl,rfl⟩) DT;have h0:dh b (G.at id (oA s v0)).ls (st.set id (.rows (v0+1) s []))=0:=by
      have g:=l b;have n:=L b;simp only[kN,O,bz]at g;omega
     have x:C.qi b=Z 0:=(j.BJ b h0).trans kJ;obtain⟨R,k2⟩:=QH j.inv x (by have:=j.iI b;omega);refine⟨C.Iw b,⟨(F.lY.trans j.lY).trans R,k2,λB=>Nat.le_trans (j.iI B) (F.iI B),λB sP=>?_⟩,?_,by simp[AV.dw]⟩;have t:B≠b:=by
      intro e;subst e;have g:=l B;simp only[kN,O,bz]at g;omega
     simp only[bT.Iw];rw[U t];exact j.BJ B (by have:=F.iI B;omega);rw[sX,J.len,<-z];refine QI (vals:=loc.vals) (dx.2 λr hr=>?_) g7 D g6 (by rw[J.yE,z]) (λi r xs g n=>(g3 i r xs g n).mono R λB sP=>by rw[fD B _ _ (D r (eL g))]at sP;omega) (by rw[z];exact m) (aaA.1 ir).1 (by simp[bT.Iw]) fU;obtain⟨i,I,rfl⟩:=aav.1 hr;have T:i<Q rows:=(by rw[<-z];exact I);rw[g4 i rows[i] gb[i] (aae T) (aae I)];exact dx.1 J.zR _ (List.getElem_mem T)
    cases H
   cases H
  cases H
 cases H;cases h;exact⟨G,Qd.refl p,.aF,rfl⟩;cases H
end Ax
namespace Ax
open Go
variable {P:Program}{w w':World}{G G':bT}{β jE:List wj}{ρ:Operand->Value}{o:Oper}
theorem EX{s}{g:Type}:∀n (rows:List (List g)),(∀r∈rows,Q r=s)->rows.flatten.drop (n*s)=(rows.drop n).flatten
 |0,rows,_=>by simp|n+1,[],_=>by simp|n+1,r::rows,h=>by
  have B:Q r=s:=h r (by simp);have I:=EX n rows λx l=>h x (by simp[l]);rw[List.drop_succ_cons,List.flatten_cons,<-I,afY,Nat.add_comm,<-afC,<-B,List.drop_left]
theorem akY{t tx ty e sz}(ht:P.underlying t=Z (.slice e))(O:dD P e sz=Y)(y:(∃E,P.underlying tx=Z (.slice E))\/P.underlying tx=Z .string){st bx}(C:mH w G st)(hB:ny w G β bx){cO}(hX:∀b,cO b+ja b β bx+dh b G.ls st<=1){s x vs vx}(hs:bJ w G s vs)(hx:bJ w G x vx){wl ai st' iJ r}(H:bD wl ai (.copy sz) [.val s,.val x] st bx=Z (r,st',iJ)):
  ∃v w' G',(Builtin.copy_ #[t,tx] ty #[vs,vx]).run P w=.ok v w'/\mj w G β st bx cO w' G' β st' iJ r v:=by
 obtain⟨i,hi,O⟩:∃i,P.info? e=Z i/\i.size=sz:=by
  unfold dD at O;split at O;rename_i i hi;exact⟨i,hi,by simpa using O⟩;cases O
 unfold bD at H;simp only at H;split at H
 ·rename_i id di x2 heq;simp only[List.cons.injEq,kz.val.injEq,and_true]at heq;obtain⟨rfl,rfl⟩:=heq;split at H
  ·rename_i v n kF new iX vE;split at H
   ·rename_i hc;simp only[E6,aC]at hc;obtain⟨⟨⟨⟨⟨rfl,rfl⟩,cF⟩,g⟩,_⟩,_⟩:=hc;cases H;obtain⟨N,fR,W,lB,eC,_⟩:=GA C hx vE cF y;have Mu:∀b xs,cV b new.flatten xs=0:=λb xs=>fD b _ _ ((dG _).2 λx hx=>by
     obtain⟨r,hr,hx⟩:=List.mem_flatten.1 hx;exact(dG r).1 (eC r hr) x hx)
    obtain⟨loc,M,Gy,HI,J⟩:=C.loc iX;cases hs with
    |mu _ _ _ loc' hp xE Dw he=>
    rw[M]at xE;cases xE;have sL:=he (by omega);subst sL;obtain⟨D,F,hfv,aaY⟩:=J.flat;have p:=dx.1 J.zR;have hol:Q loc.vals.flatten=Q kF*n:=(by rw[<-D.1];exact iB kF p);have T:Q N=Q new*n:=W.newsLen;have j:Nat.min (Q new) loc.len=Q new:=(by rw[J.len];exact Nat.min_eq_left g);by_cases iT:new=[];subst iT;have h0:N=[]:=aau (by simpa using T);subst h0;refine⟨.int .i64 0,w,G,?_,?_⟩;have m:=W.len;have q:=W.cells;simp only[afF]at m q j;cases sX:loc.a<;>simp[Builtin.copy_,ct ht,Go.sizeOf,typeInfo,hi,O,m,q,j,storeCells,goInt];have:st.set id (.rows v n ([]++kF.drop 0))=st:=kL st id _ (by simpa using iX);simp only[afF]at this ⊢;rw[this];exact mj.ri C hB (.int _ _) λb=>by simp[dH,iI]
    have hn:0<Q new:=List.length_pos_iff.2 iT;rcases J.uQ with⟨h0,m,_⟩|⟨b,off,c,E,sX,iK,ir,avK,R,kJ,fU⟩;rw[m]at g;simp at g;exact bH g iT;have TK:off+Q N<=c.size:=by
     rw[T];have:Q new*n<=loc.cap*n:=aeb _ (by omega);omega
    have Iu:=jU (P:=P) b off E N c w ir TK W.one;have e1:(Builtin.copy_ #[t,tx] ty #[.slice loc.a loc.len loc.cap,vx]).run P w=.ok (.int .i64 (Q new)) (w.setRow b (aB c.toList off N).toArray):=by
     have m:=W.len;have q:=W.cells;simp[Builtin.copy_,ct ht,Go.sizeOf,typeInfo,hi,O,m,q,j,sX,Iu,goInt]
    have mh:=BP cF (b:=kF.drop (Q new)) (by rw[dx];exact λr hr=>p r (afz hr));have z:Q (new++kF.drop (Q new))=Q kF:=(by simp;omega);have xU:(new++kF.drop (Q new)).flatten=new.flatten++kF.flatten.drop (Q new*n):=by rw[List.flatten_append,EX _ _ p]
    let L:yD:=⟨Z ⟨b,off,K⟩,loc.cap,Q (new++kF.drop (Q new)),n,v,X,xG n (Q (new++kF.drop (Q new))) (N++loc.vals.flatten.drop (Q new*n))⟩
    have It:∀(i:Nat) l,G.ls[i]?=Z l->∃h,(G.at id L).ls[i]?=Z h/\l.di<=h.di/\(l.di=h.di\/l.mp=Y->h.hd=l.hd):=
     JT M (by simp only[L];omega) λ_=>by simp only[L,yD.hd,sX,z,J.len,J.size,Gy]
    have Gq:(G.at id L).ls[id]?=Z L:=by
     simp only[bT.at];rw[aaD,af rfl,af (aad.1 M).1]
    have I:Wr w G (w.setRow b (aB c.toList off N).toArray) ⟨(G.at id L).ls,λB=>if B=b then Z 0 else G.qi B⟩ b:=
     JU ir TK kJ (afD _) (aal _) It
    have je:loc.lz=Z b:=(by unfold yD.lz;rw[ah,sX];rfl);refine⟨_,_,⟨(G.at id L).ls,λB=>if B=b then Z 0 else G.qi B⟩,e1,?_⟩;refine xV C hB hX M iX I.lY rfl ⟨rfl,rfl,rU (b:=b) (off:=off) (c:=(aB c.toList off N).toArray) (e:=E) (xs:=N++loc.vals.flatten.drop (Q new*n)) mh (tS lB λr hr=>J.IU r (afz hr)) ?_ rfl rfl rfl rfl iK (setRow_heap w b c _ E (0,0) ir) (by rw[ahm,fQ];simpa using avK) (by rw[z];exact R) (by simp) λk x y=>?_⟩
     (I.qT C) (λB _ sP=>I.l6 λe=>sP (by rw[je,e])) (by simp) rfl rfl (.int _ _) λB=>?_
    rw[xU];refine(fR.mono I.lY λB sP=>by rw[Mu]at sP;omega).append ((D.drop _).mono I.lY λB sP=>I.l6 λe=>?_);subst e;have h3:=CO B (Q new*n) _ _ D.1;rw[F]at h3;have m:=hX B;have q:=rS B G.ls st id loc _ M iX;simp only[kN,je,bz]at q;omega;rw[xT ir TK];by_cases uS:k<Q N;rw[aaj uS]at y;rw[dM,show off+k-off=k by omega];exact y;rw[aak (by omega),afw]at y;rw[ah];have:=aaY b off fU _ x y;rw[show Q new*n+(k-Q N)=k by omega]at this;exact this;have QC:L.lz=loc.lz:=by
     rw[je];simp only[L];unfold yD.lz;rw[U (show ¬loc.cap=0 by omega)];rfl
    simp only[dH,iI,kN];rw[QC];simp only[L];rw[wH B (new++kF.drop (Q new)) _ (dx.1 mh) (by rw[xU,aaq,aaq,fR.1,agt,agt,D.1]),xU,iL B _ _ _ _ fR.1,Mu];have:=CO B (Q new*n) _ _ D.1;rw[F]at this;omega
   cases H
  cases H
 cases H
end Ax
namespace Ax
open Go
variable {P:Program}{w w':World}{G G':bT}{β jE:List wj}{ρ:Operand->Value}{o:Oper}
theorem Yk{g}(r k)(v:g)(h:k<Q r):aB r k [v]=r.set k v:=by
 rw[mS _ _ _ (by simp;omega)];rw[List.set_eq_take_append_cons_drop,af h];simp
theorem QJ(b):∀r g k v j x,r[k]?=Z v->g[k]?=Z x->cV b (r.set k j) g+iI b v x=cV b r g+iI b j x
 |[],_,_,_,_,_,h,_=>by simp at h|_::_,[],_,_,_,_,_,h=>by simp at h|r::rs,x::g,0,v,j,l,h,k=>by simp at h k;subst h;subst k;simp only[List.set_cons_zero,cV];omega|r::rs,x::g,i+1,v,j,l,h,k=>by
  have:=QJ b rs g i v j l (by simpa using h) (by simpa using k);simp only[List.set_cons_succ,cV];omega
theorem QK(G ls):xO w G w ⟨G.ls++ls,G.qi⟩ where
 imm:=λ_ _ h=>⟨rfl,h⟩
 gm:=λid loc hl=>⟨loc,by
  rw[aaj (aad.1 hl).1];exact hl,aal _,λ_=>rfl⟩
theorem age{st loc O}(j:mH w G st)(h:uR w ⟨G.ls++[loc],G.qi⟩ O loc):mH w ⟨G.ls++[loc],G.qi⟩ (st++[O]) where
 len:=by simp[j.len]
 qT:=j.qT
 bX:=λid q l H g=>by
  simp only at g;by_cases I:id<Q st;rw[aaj I]at H;rw[aaj (by rw[j.len];exact I)]at g;exact(j.bX id q l H g).lY (QK G _) λb _=>⟨rfl,rfl⟩;rw[aak (by omega)]at H;rw[aak (by rw[j.len];omega),j.len]at g;by_cases B:id-Q st=0;rw[B]at H g;simp at H g;subst H;subst g;exact h;obtain⟨n,hn⟩:∃n,id-Q st=n+1:=⟨id-Q st-1,by omega⟩;rw[hn]at H;simp at H
def zY(w:World)(a:Addr)(s:Nat)(rows:List (List AV)):List (List Value):=
 rows.mapIdx λi r=>r.mapIdx λj _=>(w.cell? ⟨a.block,a.off+(i*s+j),K⟩).getD Go.undef
theorem agf{st id D i k q M n rows g r u}(C:mH w G st)(hp:bJ w G (.ptr id D i k) u)(iX:st[id]?=Z (.rows D M rows))(N:rows[i]?=Z r)(z:r[q]?=Z (.raw n g)):
  ∃G',Qd w G st G' ((st++[iW.rows 0 n g]).set id (.rows D M (rows.set i (aB r q [.mu (Q st) 0])))):=by
 obtain⟨loc,b,o,c,e,t,hl,Gy,HI,J,QD,sX,iK,je,ir,hle,L,kJ,TH,E,fU⟩:=EU C hp iX N;have Ql:q<Q r:=(aad.1 z).1;obtain⟨x,hx⟩:∃x,t[q]?=Z x:=⟨_,aae (by rw[<-E.1];exact Ql)⟩;have fR:=E.2 _ _ _ z hx;cases fR with
 |raw _ _ a cap oQ F cF eC tQ DO hc hr ht hb=>
 obtain⟨cc,ce,A9,HR⟩:=hb;have key:∀(i:Nat) r (j:Nat) c,g[i]?=Z r->r[j]?=Z c->∃v,(zY w a n g)[i]?.bind (·[j]?)=Z v/\w.cell? ⟨a.block,a.off+(i*n+j),K⟩=Z v:=by
  intro i r j c H m;obtain⟨v,z⟩:=hc i r j c H m;exact⟨v,by simp[zY,H,m,z],z⟩
 have Tf:∀(i:Nat) t (j:Nat) x,(zY w a n g)[i]?=Z t->t[j]?=Z x->w.cell? ⟨a.block,a.off+(i*n+j),K⟩=Z x:=by
  intro i t j x H m;simp only[zY,ale,adM]at H;obtain⟨r,p,rfl⟩:=H;simp only[ale,adM]at m;obtain⟨c,s,rfl⟩:=m;obtain⟨v,z⟩:=hc i r j c p s;rw[z];rfl
 have aqB:(Z a:Option Addr)=Z ⟨a.block,a.off,K⟩:=by rw[<-oQ]
 let l:yD:=⟨Z a,cap,Q g,n,0,X,zY w a n g⟩
 let G':bT:=⟨G.ls++[l],G.qi⟩
 have y:xO w G w G':=QK G _;have hO:uR w G' (.rows 0 n g) l:=by
  refine⟨rfl,rfl,cF,DO,rfl,rfl,by simp[l,zY],λi r t H m=>⟨?_,λj c v p s=>?_⟩,?_⟩;simp only[l,zY,ale,H,afs,bE]at m;subst m;simp;have O:=Tf i t j v m s;exact(hr i r j c v H p O).GB y ((dG r).1 (eC r (eL H)) c (eL p));rcases Nat.eq_zero_or_pos cap with h0|h0;refine .inl ⟨h0,?_,rfl⟩;cases g with
  |nil=>rfl|cons _ _=>simp at F;omega
  exact .inr ⟨a.block,a.off,cc,ce,aqB,h0,A9,HR,F,ht,Tf⟩
 have L3:mH w G' (st++[iW.rows 0 n g]):=age C hO;have Ir:id<Q st:=(aad.1 iX).1;have Iu:(st++[iW.rows 0 n g])[id]?=Z (.rows D M rows):=by rw[aaj Ir];exact iX
 have HT:G'.ls[id]?=Z loc:=by
  show (G.ls++[l])[id]?=_;rw[aaj (by rw[C.len];exact Ir)];exact hl
 have hmu:bJ w G' (.mu (Q st) 0) (.slice (Z a) (Q g) cap):=by
  refine .mu _ _ _ l ⟨_,_,_,rfl⟩ ?_ (aal _) λ_=>rfl;show (G.ls++[l])[Q st]?=_;rw[aak (by rw[C.len];exact aal _),C.len];simp
 have W:aB r q [AV.mu (Q st) 0]=r.set q (.mu (Q st) 0):=Yk r q _ Ql;have aa5:dm w G' r t:=⟨E.1,λj c v H m=>(E.2 j c v H m).lY y λ_ _=>⟨rfl,rfl⟩⟩;have vE:uR w G' (.rows D M (rows.set i (aB r q [.mu (Q st) 0]))) loc:=by
  rw[W];refine⟨Gy,HI,dx.2 λR T=>?_,λR T=>?_,by simp[J.len],J.size,by simp[J.yE],λi' R Th H m=>?_,.inr ⟨b,o,c,e,sX,iK,ir,hle,by simpa using L,kJ,fU⟩⟩;rcases ae7 T with h|h;exact dx.1 J.zR R h;rw[h,apG];exact dx.1 J.zR r (eL N);rcases ae7 T with h|h;exact J.IU R h;rw[h,<-W];exact mU (J.IU r (eL N)) (by simp[AV.bG,AV.cT]) (by simp;omega);rw[aaD]at H;by_cases TI:i=i';subst TI;rw[af rfl]at H;split at H;cases H;rw[TH]at m;cases m;refine⟨by rw[apG];exact E.1,λj c v p s=>?_⟩;rw[aaD]at p;by_cases I:q=j;subst I;rw[af rfl,af Ql]at p;cases p;rw[hx]at s;cases s;exact hmu;rw[U I]at p;exact aa5.2 j c v p s;cases H;rw[U TI]at H;have p:=J.y5 i' R Th H m;exact⟨p.1,λj c v s O=>(p.2 j c v s O).lY y λ_ _=>⟨rfl,rfl⟩⟩
 refine⟨G',y,IX L3 (xO.refl w G') (kL _ _ _ HT).symm (λ_ _ _ _ _ _ _ _=>⟨rfl,rfl⟩) vE L3.qT,λB=>?_,λ_ _=>rfl⟩;have H:=BI B G'.ls (st++[iW.rows 0 n g]) id loc _ loc (.rows D M (rows.set i (aB r q [.mu (Q st) 0]))) HT Iu;rw[kL _ _ _ HT]at H;have s:=y6 B rows loc.vals i r t (aB r q [.mu (Q st) 0]) t N TH;rw[kL _ _ _ TH]at s;have O:=QJ B r t q _ (.mu (Q st) 0) _ z hx;rw[<-W]at O;have h6:dh B G'.ls (st++[iW.rows 0 n g])=dh B G.ls st+dh B [l] [iW.rows 0 n g]:=xP B _ _ _ _ C.len;have h7:dh B [l] [iW.rows 0 n g]<=iI B (.raw n g) (.slice (Z a) (Q g) cap):=by
  simp only[dh,kN,iI,HK B g _ eC,l,yD.lz,Nat.add_zero];by_cases NQ:cap=0;simp[NQ];simp[NQ]
 have h8:iI B (.mu (Q st) 0) (.slice (Z a) (Q g) cap)=0:=by simp[iI]
 simp only[kN]at H;omega
end Ax
namespace Ax
open Go
variable {P:Program}{w w':World}{G G':bT}{β jE:List wj}{ρ:Operand->Value}{o:Oper}
def mO(P:Program)(ρ:Operand->Value)(o:Oper)(w:World)(G:bT)(β:List wj)(st:aO)(bx:jM)(cO:Nat->Nat)(nb:Option Nat)(r:kz)(st':aO)(iJ:jM):Prop:=
 ∃n v w' G' jE,(execOp ρ o).run P w=.ok n w'/\(n=.value v\/n=.skip/\v=undef)/\mj w G β st bx cO w' G' jE st' iJ r v/\gX nb β jE
theorem mO.ri{st bx cO nb r}(j:mH w G st)(m:ny w G β bx){u}(h:(execOp ρ o).run P w=.ok (.value u) w)(g:nX w G β r u)(H:∀b,dH b r u<=cO b):mO P ρ o w G β st bx cO nb r st bx:=
 ⟨_,u,w,G,β,h,.inl rfl,mj.ri j m g H,gX.refl _ _⟩
theorem mO.dw{st bx cO nb a}(j:mH w G st)(m:ny w G β bx){u}(h:(execOp ρ o).run P w=.ok (.value u) w)(H:bJ w G a u)(g:a.dw=Y):mO P ρ o w G β st bx cO nb (.val a) st bx:=
 mO.ri j m h H λb=>by simp only[dH,gW b a u g];omega
theorem oz.Yl{vals xs vs}(h:oz w G β vals xs)(p:lQ vals=Z vs):dm w G vs xs/\∀b,p8 b vals xs=cV b vs xs:=by
 obtain⟨E,g,l⟩:=h.vals p;exact⟨⟨g,l⟩,λb=>by rw[E,JD]⟩
theorem EY{rows:List _}(h:rows.all AV.bG=Y):∀r∈rows,AV.bG r=Y:=by simpa using h
theorem QL{rows:List _}(h:rows.all AV.aD=Y):∀r∈rows,AV.aD r=Y:=by simpa using h
theorem EZ{s}{p:AV->Prop}:∀q vs rows g,(∀r∈rows,∀c∈r,p c)->(∀v∈vs,∀c∈v.cells,p c)->jc s rows q vs=Z g->∀r∈g,∀c∈r,p c
 |[],[],rows,g,j,_,h=>by simp[jc]at h;subst h;exact j|[],_::_,_,_,_,_,h=>by simp[jc]at h|_::_,[],_,_,_,_,h=>by simp[jc]at h|i::q,v::vs,rows,g,j,k,h=>by
  simp only[jc]at h;split at h;refine EZ q vs _ g (λr l=>?_) (λu m=>k u (by simp[m])) h;rcases ae7 l with H|H;exact j r H;rw[H];exact k v (by simp);cases h
theorem QM{v:AV}(h:v.dw=Y):∀c∈v.cells,c.dw=Y:=by
 cases v<;>simp_all [AV.cells,AV.dw];exact(dG _).1 h
theorem QN(vs):∀v∈AV.cP vs,v.dw=Y:=(dG _).1 (jr vs)
theorem J0{x d a vals B xs}(h:EJ x.isSome d vals=Z (a,B))(z:oz w G β vals (x.toList.map ρ++xs)):Ef ρ x d a/\oz w G β B xs:=by
 unfold EJ at h;cases x with
 |none=>simp at h;obtain⟨rfl,rfl⟩:=h;exact⟨.inl ⟨rfl,rfl⟩,by simpa using z⟩|some y=>
  simp only[Option.isSome_some,bz]at h;split at h;rename_i n r;cases h;simp only[aox,aaZ,List.map_nil,List.cons_append,List.nil_append,oz,nX]at z;exact⟨.inr ⟨y,rfl,z.1.jg⟩,z.2⟩;cases h
theorem CQ{c:Call}{t u}(H:c.argTypes.size=2)(B:c.argTypes[0]?=Z t)(h:c.argTypes[1]?=Z u):c.argTypes = #[t,u]:=by
 apply Array.ext_getElem?;intro i;match i with
 |0=>simpa using B|1=>simpa using h|i+2=>simp;omega
section
variable {S:Nat->Option aQ}{so:eN}{vals:List kz}{wl ai:Nat}{st st':aO}{bx iJ:jM}{cO:Nat->Nat}{r:kz}
theorem agj{t x W J M DK sz}(I:o.op=.slice t x W J M)(F:M.isSome=Y->J.isSome=Y)(g:match P.underlying t with|some (.slice e)=>(!DK&&dD P e sz)=Y|some .string=>(DK && !M.isSome)=Y|_=>False)(D:mH w G st)(C:ny w G β bx)(hR:oz w G β vals ((CN x W J M).map ρ))(hcO:∀b,p8 b vals ((CN x W J M).map ρ)<=cO b)(j:bD wl ai (.slice DK W.isSome J.isSome M.isSome sz) vals st bx=Z (r,st',iJ)):
  mO P ρ o w G β st bx cO K r st' iJ:=by
 simp only[CN,aaZ,List.map_append]at hR;unfold bD at j;simp only at j;split at j;rename_i a l;obtain⟨h,hRl⟩:=hR;simp only[nX]at h;split at j;cases j;rename_i n k;split at j;cases j;rename_i lov l1 GC;obtain⟨y,hR1⟩:=J0 GC (xs:=J.toList.map ρ++M.toList.map ρ) (by simpa [afG] using hRl);split at j;cases j;rename_i hiv l2 hhi;obtain⟨B,T⟩:=J0 hhi hR1;split at j;rename_i hmx;have avM:M=K:=by cases M<;>simp_all
 subst avM;split at j;rename_i v p;cases j;unfold nG at p;split at p;rename_i s;split at p;rename_i H;simp only[E6,aC]at H;obtain⟨⟨⟨_,L⟩,O⟩,R⟩:=H;cases p;simp only[bz,uh,bE]at k;subst k;have hus:P.underlying t=Z .string:=by
  split at g;simp at g
  assumption
  exact g.elim
 obtain⟨u,E,q⟩:=TA I hus h y B L O R;exact mO.dw D C E q rfl;cases p;simp only[af8]at p;split at p;rename_i H;simp only[E6,aC]at H;obtain⟨rfl,rfl⟩:=H;cases p;simp only[uh,fO]at k;cases k;split at g;rename_i e N;simp only[E6]at g;exact mO.dw D C (JM I N g.2 h y B (.inl rfl)) .aF rfl;simp at g;exact g.elim;cases p;simp only[af8]at p;split at p;rename_i H;simp only[E6,aC]at H;obtain⟨rfl,rfl⟩:=H;cases p;simp only[uh,fO]at k;cases k;split at g;rename_i e N;simp only[E6]at g;obtain⟨u,E,q⟩:=HJ I N g.2 h y B (.inl rfl);exact mO.dw D C E q rfl;simp at g;exact g.elim;cases p;rename_i s rows;simp only at p;split at p;rename_i H;simp only[E6,aC]at H;obtain⟨⟨⟨rfl,L⟩,O⟩,R⟩:=H;cases p;simp only[uh,fO]at k;cases k;split at g;rename_i e N;simp only[E6]at g;obtain⟨u,E,q⟩:=JL I N g.2 h y B L O R;exact mO.dw D C E q rfl;simp at g;exact g.elim;cases p;rename_i s rows;simp only at p;split at p;rename_i H;simp only[E6,aC]at H;obtain⟨⟨⟨rfl,L⟩,O⟩,R⟩:=H;cases p;simp only[uh,fO]at k;cases k;split at g;rename_i e N;simp only[E6]at g;obtain⟨u,E,q⟩:=JL I N g.2 h.aj y B L O R;exact mO.dw D C E q rfl;simp at g;exact g.elim;cases p;cases p;cases j;rename_i m hmx;obtain⟨z,rfl⟩:∃z,M=Z z:=by cases M<;>simp_all
 simp only[aox,aaZ,List.map_nil,oz,nX]at T;have U:=T.1.jg;split at j;rename_i v p;cases j;unfold nG at p;split at p;simp at p;simp only at p;split at p;rename_i H;simp only[E6,aC,cJ]at H;obtain⟨⟨rfl,rfl⟩,rfl⟩:=H;cases p;simp only[uh,fO]at k;cases k;split at g;rename_i e N;simp only[E6]at g;exact mO.dw D C (JM I N g.2 h y B (.inr ⟨z,rfl,F rfl,U⟩)) .aF rfl;simp at g;exact g.elim;cases p;simp only at p;split at p;rename_i H;simp only[E6,aC,cJ]at H;obtain⟨⟨rfl,rfl⟩,rfl⟩:=H;cases p;simp only[uh,fO]at k;cases k;split at g;rename_i e N;simp only[E6]at g;obtain⟨u,E,q⟩:=HJ I N g.2 h y B (.inr ⟨z,rfl,F rfl,U⟩);exact mO.dw D C E q rfl;simp at g;exact g.elim;cases p;rename_i s rows;simp only at p;split at p;rename_i H;simp only[E6,aC]at H;obtain⟨⟨rfl,rfl⟩,rfl⟩:=H;cases p;simp only[uh,fO]at k;cases k;split at g;rename_i e N;simp only[E6]at g;obtain⟨u,E,q⟩:=JN I N g.2 h y B (F rfl) U;exact mO.dw D C E q rfl;simp at g;exact g.elim;cases p;rename_i s rows;simp only at p;split at p;rename_i H;simp only[E6,aC]at H;obtain⟨⟨rfl,rfl⟩,rfl⟩:=H;cases p;simp only[uh,fO]at k;cases k;split at g;rename_i e N;simp only[E6]at g;obtain⟨u,E,q⟩:=JN I N g.2 h.aj y B (F rfl) U;exact mO.dw D C E q rfl;simp at g;exact g.elim;cases p;cases p;cases j;cases j;cases j
end
end Ax
namespace Ax
open Go
variable {P:Program}{w w':World}{G G':bT}{β jE:List wj}{ρ:Operand->Value}{o:Oper}
variable {S:Nat->Option aQ}{so:eN}{vals:List kz}{wl ai:Nat}{st st':aO}{bx iJ:jM}{cO:Nat->Nat}{r:kz}
theorem mj.le{cO C v}(h:mj w G β st bx cO w' G' jE st' iJ r v)(g:∀b,cO b<=C b):mj w G β st bx C w' G' jE st' iJ r v:=
 { h with iI:=λb=>by have H:=h.iI b;grind,BJ:=λb l=>h.BJ b (by grind) }
theorem ak0{t e parts}(z:o.op=.buildSlice t 0 parts)(g:P.underlying t=Z (.slice e)){s}(O:dD P e s=Y)(j:parts = #[]):
  (execOp ρ o).run P w=.ok (.value (.slice (Z ⟨w.heap.size,0,K⟩) 0 0)) (w.alloc (.cells #[] e)):=by
 have ⟨i,h,n,_⟩:=oR O;subst j;have B:(Array.range 0).map (λ_:Nat=>(default:Value)) = #[]:=by grind
 simp[execOp,z,Instr.buildSlice,ct g,Go.sizeOf,typeInfo,h,Instr.fill,newRow];rw[B]
theorem ajD{t n W sz parts zero q}{mu:Bool}(L:o.op=.buildSlice t n parts)(J:n=W)(R:match P.underlying t with
   |some (.slice e)=>(dD P e sz&&V (n*sz<=16777216)&&sV P e zero&&V (0<sz)&&(Q zero==sz)&&parts.toList.map (·.1)==q)=Y|_=>False)(C:mH w G st)(B:ny w G β bx)(F:oz w G β vals ((parts.toList.map (·.2)).map ρ))(I:∀b,p8 b vals ((parts.toList.map (·.2)).map ρ)<=cO b)(H:bD wl ai (if mu then .Ts sz W zero q else .lit sz W zero q) vals st bx=Z (r,st',iJ)):
  mO P ρ o w G β st bx cO K r st' iJ:=by
 subst J;split at R;rename_i e N;simp[E6]at R;have ⟨⟨⟨⟨⟨O,TC⟩,T⟩,VH⟩,VI⟩,j⟩:=R;have NJ:(parts.toList.map (·.2)).map ρ=parts.toList.map λp=>ρ p.2:=by simp
 rw[NJ]at F I;cases mu with
 |true=>
  simp at H;unfold bD at H;simp only at H;split at H;rename_i vs E;split at H;rename_i rows D;split at H;rename_i h;simp only[E6,aC]at h;cases H;have ⟨g,EW⟩:=F.Yl E;have ⟨cells,s,y,e3,z,e5,e6⟩:=ajw L N O TC T VH VI j D h.2 g;have ⟨G',hA,_⟩:=BK (c:=cells) (e:=e) (w':=w.alloc _) (cO:=cO) C B rfl rfl rfl z (EY h.1) y h.2 (by omega) (by omega) (by simp)
   (λb=>by grind)
  exact⟨_,_,_,G',β,s,.inl rfl,hA,gX.refl _ _⟩;cases H;cases H;cases H
 |false=>
  simp[aai]at H;unfold bD at H;simp only at H;split at H;rename_i vs E;split at H;rename_i rows D;split at H;rename_i h;simp only[E6]at h;cases H;have ⟨g,EW⟩:=F.Yl E;by_cases hn:n=0;subst hn;simp;have m:parts = #[]:=by
   cases Qa:parts.toList with
   |nil=>grind|cons p l=>
    rw[Qa]at j;subst j;simp only[aaZ,List.replicate_zero]at *;cases VO:AV.cP vs with
    |nil=>grind [jc]|cons v l'=>grind [jc]
  exact⟨_,_,_,_,β,ak0 L N O m,.inl rfl,IW (w':=w.alloc _) rfl rfl rfl K C B (.pP _) λb=>by simp[iI],gX.refl _ _⟩;rw[U hn];have Mu:0<n:=by omega
  have ⟨cells,s,y,e3,z,e5,e6⟩:=ajw L N O TC T VH VI j D Mu g.aj;have eC:∀r∈rows,AV.fT r=Y:=by
   have ⟨_,_,_,_,_,X9,_⟩:=pQ T w G;have:=EZ q _ _ rows (λr hr c h=>by
    grind) (λv g=>QM (QN vs v g)) D
   grind [dG]
  have M:=NO (G:=G.new w.heap.size (Z (Q rows*sz)) []) (w:=w.alloc (.cells cells e)) (cap:=n) (off:=0) z (EY h.2) eC (QL h.1) (y.push rfl _ _) (wI rfl) (by omega) (by omega) (by simp[bT.new]) (λk x hk=>by grind);exact⟨_,_,_,_,β,s,.inl rfl,IW (w':=w.alloc _) rfl rfl rfl _ C B M.aj λb=>by simp[iI],gX.refl _ _⟩;cases H;cases H;cases H
 grind
theorem zZ{g:Type}{l:List g}(h:Q l=2):∃x y,l=[x,y]:=by
 match l,h with
 |[x,y],_=>grind
theorem Ix{sz vals}(wl ai):bD wl ai (.indexAddr sz) vals st bx=bD 0 0 (.indexAddr sz) vals st bx:=rfl
theorem aqD{w G b v}(h:bJ w G (.bool b) v):v=.bool b:=h.mR
theorem ak2(q:mOp S P o so=Y)(E:mH w G st)(I:ny w G β bx)(hX:∀b,cO b+ja b β bx+dh b G.ls st<=1)(M:∀xs,jf xs so.args=Y->oz w G β vals (xs.map ρ)/\∀b,p8 b vals (xs.map ρ)<=cO b)(H:bD wl ai so.op vals st bx=Z (r,st',iJ)):
  mO P ρ o w G β st bx cO so.op.aX r st' iJ:=by
 unfold mOp at q;rw[E6]at q;replace q:=q.2;generalize hso:so.op=sop at q H;split at q;rename_i x D;obtain⟨B,J⟩:=M _ q;unfold bD at H;simp at H;split at H;cases H;exact mO.ri E I (by simp[execOp,D]) B.1 λb=>by grind [p8]
 cases H;rename_i x D;obtain⟨B,J⟩:=M _ q;unfold bD at H;simp at H;split at H;cases H;exact mO.ri E I (by simp[execOp,D]) B.1 λb=>by grind [p8]
 cases H
 ·
  rename_i c x y D;obtain⟨B,J⟩:=M _ q;unfold bD at H;simp at H;split at H
  ·rename_i b x' y';cases H;obtain⟨T,W,h3,_⟩:=B;have hb:=aqD T;refine mO.ri E I (u:=if b then ρ x else ρ y) (by simp[execOp,D,hb,asBool]) ?_ λd=>?_;all_goals grind [p8]
  cases H
 rename_i op t x y yt op' D;simp[E6]at q;obtain⟨rfl,q⟩:=q;obtain⟨B,J⟩:=M _ q;unfold bD at H;simp at H;split at H;split at H;rename_i v hv;cases H;obtain⟨u,F,L,e3⟩:=aqf D hv B.1 B.2.1;exact mO.dw E I F L e3;cases H;cases H;rename_i op t x y yt k neg D;simp[E6]at q;obtain⟨⟨rfl,q⟩,C⟩:=q;obtain⟨B,J⟩:=M _ q;unfold bD at H;simp at H;split at H;split at H;rename_i b hb;cases H;obtain⟨u,F,L⟩:=aqg D C hb B.1 B.2.1;exact mO.dw E I F L rfl;cases H;cases H;rename_i op t x y yt neg D;simp only[E6,cJ]at q;obtain⟨⟨rfl,q⟩,C⟩:=q;obtain⟨B,J⟩:=M _ q;unfold bD at H;simp only at H;split at H;rename_i id di;split at H;rename_i v sz rows iX;split at H;rename_i nZ;cases H;exact mO.dw E I (afQ D C E iX nZ B.1 B.2.1) (.bool _) rfl;cases H;cases H;cases H;rename_i op t x op' D;simp only[E6,cJ]at q;obtain⟨rfl,q⟩:=q;obtain⟨B,J⟩:=M _ q;unfold bD at H;simp only at H;split at H;split at H;rename_i v hv;cases H;obtain⟨u,F,L,e3⟩:=avA D hv B.1;exact mO.dw E I F L e3;cases H;cases H;rename_i s d x k D;simp only[E6]at q;obtain⟨q,C⟩:=q;obtain⟨B,J⟩:=M _ q;unfold bD at H;simp only at H;split at H;cases H;split at C;rename_i k1 k2 T W;simp only[cJ]at C;subst C;exact mO.dw E I (akR D T W B.1) (.int _ _) rfl;cases C;cases H;rename_i x D;obtain⟨B,J⟩:=M _ q;unfold bD at H;simp only at H;split at H;cases H;obtain⟨g,b,T,W,h3⟩:=B.1;exact mO.ri E I (Ed D h3) ⟨g,b,T,W,h3⟩ λd=>by simp[dH]
 split at H;cases H;have hp:∃a,ρ x=.pointer (Z a):=by
  have h:=B.1;simp only[nX]at h;cases h with|ptr _ _ _ _ _ _ hp=>exact hp
 obtain⟨a,hp⟩:=hp;exact mO.ri E I (Ed D hp) B.1 λd=>by simp[dH,iI]
 cases H;have hp:∃a,ρ x=.pointer (Z a):=by
  have h:=B.1;simp only[nX]at h;generalize ρ x=v at h;cases h;grind
 obtain⟨a,hp⟩:=hp;exact mO.ri E I (Ed D hp) B.1 λd=>by simp[dH,iI]
 cases H;cases H;rename_i x i j D;simp only[E6,cJ]at q;obtain⟨rfl,q⟩:=q;obtain⟨B,J⟩:=M _ q;unfold bD at H;simp only at H;split at H;split at H;rename_i v hv;cases H;obtain⟨u,F,L,e3⟩:=X7 D hv B.1;exact mO.ri E I F L λb=>by grind [p8,dH]
 cases H;cases H;rename_i t x f off n agg D;simp only[E6]at q;obtain⟨q,C⟩:=q;obtain⟨B,J⟩:=M _ q;split at C;rename_i fs N;split at C;rename_i fd hf;simp only[E6,cJ]at C;obtain⟨⟨T,W⟩,h3⟩:=C;unfold bD at H;simp only at H;split at H;split at H;rename_i cs aa2;split at H;rename_i v hv;cases H;obtain⟨u,F,L,e3⟩:=afT D N hf T W h3 aa2 hv B.1;exact mO.ri E I F L λb=>by grind [p8,dH]
 cases H;cases H;cases H;cases C;cases C;rename_i t parts zero qs D;simp only[E6]at q;obtain⟨⟨q,hz⟩,C⟩:=q;obtain⟨B,J⟩:=M _ q;have NJ:(parts.toList.map (·.2)).map ρ=parts.toList.map λp=>ρ p.2:=by simp
 rw[NJ]at B J;split at C;rename_i fs N;split at C;rename_i is Qb;unfold bD at H;simp only at H;split at H;rename_i vs Eb;split at H;rename_i cs HM;cases H;obtain⟨hv,EW⟩:=B.Yl Eb;obtain⟨u,F,L,e3⟩:=afU D N Qb hz C HM hv;exact mO.ri E I F L λb=>by grind [dH]
 cases H;cases H;cases C;cases C;rename_i t n parts sz n' zero qs D;simp only[E6,cJ]at q;obtain⟨⟨hn,q⟩,C⟩:=q;obtain⟨B,J⟩:=M _ q;refine ajD (mu:=X) D hn ?_ E I B J H
 grind
 rename_i t n parts sz n' zero qs D;simp only[E6,cJ]at q;obtain⟨⟨hn,q⟩,C⟩:=q;obtain⟨B,J⟩:=M _ q;refine ajD (mu:=Y) D hn ?_ E I B J H
 grind
 rename_i t x f off D;simp only[E6]at q;obtain⟨q,C⟩:=q;obtain⟨B,J⟩:=M _ q;split at C;rename_i fs N;split at C;rename_i fd hf;simp only[E6,cJ]at C;obtain⟨T,W⟩:=C;subst T;split at W;rename_i i hi;have hs:i.size≠0:=by grind
 unfold bD at H;simp only at H;split at H;rename_i j k;cases H;obtain⟨g,b,g1,g2,g3⟩:=B.1;refine mO.ri E I (BH D N hf hi hs g3) ⟨g,b,g1,g2,?_⟩ λd=>by simp[dH]
 rw[oU];rename_i id di i' k;cases H;obtain⟨a,F,L⟩:=DQ B.1 (.inl ⟨id,di,i',k,rfl,rfl⟩);exact mO.dw E I (BH D N hf hi hs F) L rfl;rename_i sz rows i' k;cases H;obtain⟨a,F,L⟩:=DQ B.1 (.inr ⟨sz,rows,i',k,rfl,rfl⟩);exact mO.dw E I (BH D N hf hi hs F) L rfl;cases H;cases W;cases C;cases C;rename_i t x y sz D;simp only[E6]at q;obtain⟨q,C⟩:=q;obtain⟨B,J⟩:=M _ q;split at C;rename_i e N;rw[Ix]at H;have O:=H;unfold bD at H;simp only at H;split at H;obtain⟨rfl,rfl,p,u,rfl,F,L,e3⟩:=Qq D N C E O B.1 (bJ.jg B.2.1)
 grind [mO.dw]
 cases H;cases C;rename_i t x y D;simp only[E6]at q;obtain⟨q,C⟩:=q;obtain⟨B,J⟩:=M _ q;split at C;rename_i N;unfold bD at H;simp only at H;split at H;split at H;rename_i h0;split at H;rename_i b hb;cases H;exact mO.dw E I (afW D N h0 hb B.1 (bJ.jg B.2.1)) (.int _ _) rfl;cases H;cases H;cases H;cases C;rename_i t x lo hi mx DK l h m sz D;simp only[E6,cJ]at q;obtain⟨⟨⟨⟨⟨q,rfl⟩,rfl⟩,rfl⟩,hmh⟩,C⟩:=q;obtain⟨B,J⟩:=M _ q;refine agj D (λh=>by grind) ?_ E I B J H
 grind
 rename_i t x hi sz D;simp only[E6]at q;obtain⟨q,C⟩:=q;obtain⟨B,J⟩:=M _ q;split at C;rename_i e N;have O:=H;unfold bD at H;simp only at H;split at H;obtain⟨v,G',F,L⟩:=aa3 D N C E I hX B.1 B.2.1 O;exact⟨_,_,_,_,_,F,.inl rfl,L,gX.refl _ _⟩;cases H;cases C;rename_i t x agg n take D;simp only[E6]at q;obtain⟨⟨⟨q,hn⟩,zT⟩,qj⟩:=q;obtain⟨B,J⟩:=M _ q;have VP:rQ P t=Z agg:=by grind
 have VQ:agg=X->n=1:=λh=>by grind
 have O:=H;unfold bD at H;simp only at H;split at H;rename_i p;cases take with
 |true=>
  obtain⟨v,F,L⟩:=TJ D hn VP VQ E I hX B.1 O;exact⟨_,_,_,_,_,F,.inl rfl,L,gX.refl _ _⟩
 |false=>
  split at H;rename_i cs JV;simp only[aai,bC]at H;split at H;rename_i v hv;cases H;obtain⟨b,off,xs,T,W,h3,h4⟩:=Qr E JV B.1;obtain⟨u,F,L,e3⟩:=NN D hn VP VQ T W h3.aj h4 hv;exact mO.ri E I F L λd=>by
   grind [dH,fD,jr]
  cases H;cases H
 cases H;rename_i t x j agg n take D;simp only[E6]at q;obtain⟨⟨⟨q,hn⟩,zT⟩,qj⟩:=q;obtain⟨B,J⟩:=M _ q;have VP:rQ P t=Z agg:=by grind
 have VQ:agg=X->n=1:=λh=>by grind
 have O:=H;unfold bD at H;simp only at H;split at H;obtain⟨v,F,L⟩:=agd D hn VP VQ E I hX B.1 O;exact⟨_,_,_,_,_,F,.inl rfl,L,gX.refl _ _⟩;cases H;rename_i t x y n D;simp only[E6]at q;obtain⟨q,hn⟩:=q;obtain⟨B,J⟩:=M _ q;have O:=H;unfold bD at H;simp only at H;split at H;obtain⟨w',G',F,L⟩:=aga D hn E I hX B.1 B.2.1 (λb=>by grind [p8,dH]) O;exact⟨_,_,_,_,_,F,.inr ⟨rfl,rfl⟩,L,gX.refl _ _⟩;cases H;rename_i t x y j n D;simp only[E6]at q;obtain⟨q,hn⟩:=q;obtain⟨B,J⟩:=M _ q;have O:=H;unfold bD at H;simp only at H;split at H;obtain⟨w',G',jE,F,L,e3⟩:=aa1 D hn E I hX B.1 B.2.1 (λb=>by grind [p8]) O;exact⟨_,_,_,_,_,F,.inr ⟨rfl,rfl⟩,L,e3⟩;cases H;rename_i t zero D;simp only[E6]at q;obtain⟨_,hz⟩:=q;obtain⟨i,z,hi,hiz,hzr,X9,hzc⟩:=pQ hz w G;unfold bD at H;simp only at H;split at H;cases H;obtain⟨G',QO⟩:=Yd (t:=t) (cO:=cO) E I hzr X9 hzc;exact⟨_,_,_,_,_,VG D hi hiz,.inl rfl,QO,gX.refl _ _⟩;cases H;rename_i t j zero D;simp only[E6]at q;obtain⟨_,hz⟩:=q;obtain⟨i,z,hi,hiz,hzr,X9,hzc⟩:=pQ hz w G;unfold bD at H;simp only at H;split at H;split at H;rename_i hj;cases H;have hb:j<Q β:=by rw[I.len];exact hj
 refine⟨_,_,_,_,_,VG D hi hiz,.inl rfl,VF (c:=z.cells) (e:=t) (w':=w.alloc (.cells z.cells t)) E I rfl rfl rfl hj hzr hzc (λb=>by rw[Mr X9];omega),?_⟩;exact gX.set (aae hb) λh=>bH rfl h;cases H;cases H;rename_i t x n D;obtain⟨B,J⟩:=M _ q;unfold bD at H;simp only at H;split at H;split at H;rename_i nZ;simp only[E6,aC]at nZ;cases H;obtain⟨G',QO⟩:=aaO (t:=t) (cO:=cO) E I B.1 nZ.1 nZ.2 (λb=>by grind [p8,dH]);exact⟨_,_,_,_,_,ajv D,.inl rfl,QO,gX.refl _ _⟩;cases H;cases H;rename_i t x j n D;obtain⟨B,J⟩:=M _ q;unfold bD at H;simp only at H;split at H;split at H;rename_i nZ;simp only[E6,aC]at nZ;cases H;have hb:j<Q β:=by rw[I.len];grind
 obtain⟨EW,LW⟩:=bJ.cells B.1;refine⟨_,_,_,_,_,ajv D,.inl rfl,VF (c:=(ρ x).cells) (e:=t) (w':=w.alloc (.cells (ρ x).cells t)) E I rfl rfl rfl nZ.1.1 EW nZ.2 (λb=>by grind [p8,dH]),?_⟩;exact gX.set (aae hb) λh=>bH rfl h;cases H;cases H;rename_i t x y sz bytes zero mt D;simp only[E6]at q;obtain⟨q,C⟩:=q;obtain⟨B,J⟩:=M _ q;split at C;rename_i e N;simp only[E6,aC]at C;obtain⟨⟨⟨⟨T,W⟩,h3⟩,h4⟩,h5⟩:=C;unfold bD at H;simp only at H;split at H;rename_i n c;split at H;rename_i nZ;obtain⟨c1,c2,c3,c4⟩:=nZ;have oL:c<=9223372036854775807:=by
  have:c*1<=c*bytes:=ait (by omega) (by omega)
  grind [dj]
 obtain⟨cells,F,L,e3,e4⟩:=Qw (w:=w) (G:=G) D N T W h3 h4 c4 (bJ.jg B.1) (bJ.jg B.2.1) c1 c2 c3 oL;obtain⟨_,_,_,_,_,X9,hzc⟩:=pQ h3 w G;have hle:n.toNat*sz<=c.toNat*sz:=aeb _ (by omega);have cF:cy sz (aag n.toNat zero)=Y:=dx.2 λr hr=>by grind
 have lB:∀r∈aag n.toNat zero,AV.bG r=Y:=λr hr=>by grind
 have R:∀(k:Nat) x,(cells.toList.take (n.toNat*sz))[k]?=Z x->cells[k]?=Z x:=λk x hk=>by
  grind
 split at H;cases H;by_cases NQ:c.toNat=0;have Mu:n.toNat=0:=by omega
 rw[Mu,NQ]at F;rw[Mu];have hA0:mj w G β st bx cO (w.alloc (.cells cells e)) (G.new w.heap.size (Z 0) [⟨Z ⟨w.heap.size,0,K⟩,0,0,sz,0,X,[]⟩]) β (st++[.rows 0 sz []]) bx (.val (.mu (Q st) 0)) (.slice (Z ⟨w.heap.size,0,K⟩) 0 0):=by
  have hl:(G.new w.heap.size (Z 0) [⟨Z ⟨w.heap.size,0,K⟩,0,0,sz,0,X,[]⟩]).ls[Q st]?=Z ⟨Z ⟨w.heap.size,0,K⟩,0,0,sz,0,X,[]⟩:=by
   simp only[bT.new];rw[aak (by rw[E.len];grind),E.len];simp
  exact xR (w':=w.alloc (.cells cells e)) (ao:=.rows 0 sz []) (ob:=.cells cells e) rfl rfl rfl E I ⟨rfl,rfl,by simp[cy],by simp,rfl,rfl,rfl,λi r xs h=>by simp at h,.inl ⟨rfl,rfl,rfl⟩⟩ (.mu _ _ _ _ ⟨_,_,_,rfl⟩ hl (aal _) λ_=>rfl) rfl λb=>by simp[kN,yD.lz,iM]
 exact⟨_,_,_,_,_,F,.inl rfl,hA0,gX.refl _ _⟩;obtain⟨G',QO,_⟩:=BK (sz:=sz) (cap:=c.toNat) (rows:=aag n.toNat zero) (c:=cells) (e:=e) (xs:=cells.toList.take (n.toNat*sz)) (w':=w.alloc (.cells cells e)) (cO:=cO) E I rfl rfl rfl cF lB e3 (by omega) (by omega) (by simp;omega) R (λb=>by grind);rw[ajE]at QO;exact⟨_,_,_,_,_,F,.inl rfl,QO,gX.refl _ _⟩;split at H;rename_i hpz;cases H;obtain⟨G',QO⟩:=NP (sz:=sz) (cap:=c.toNat) (rows:=aag n.toNat zero) (c:=cells) (e:=e) (xs:=cells.toList.take (n.toNat*sz)) (w':=w.alloc (.cells cells e)) (cO:=cO) E I rfl rfl rfl cF lB
  (λr hr=>by grind [dG]) (λr hr=>by grind) e3 (by omega) (by simp;omega) R
 rw[ajE]at QO;exact⟨_,_,_,_,_,F,.inl rfl,QO,gX.refl _ _⟩;cases H;cases H;cases H;cases C;rename_i t D;unfold bD at H;simp only at H;split at H;cases H;obtain⟨G',QO⟩:=af2 (cO:=cO) E I;exact⟨_,_,_,_,_,by simp only[execOp,D,akk,cq,show (Instr.makeMap t K).run P w=.ok (.map (Z w.heap.size)) (w.alloc (.map #[] 0)) from rfl,dA,Sem.run_pure],.inl rfl,QO,gX.refl _ _⟩;cases H;rename_i t m k x kk D;simp only[E6]at q;obtain⟨q,C⟩:=q;obtain⟨B,J⟩:=M _ q;split at C;rename_i kt et N;have O:=H;unfold bD at H;simp only at H;split at H;obtain⟨w',G',F,L⟩:=HP (.inl D) N C E I hX B.1 B.2.1 B.2.2.1 O;exact⟨_,_,_,_,_,F,.inr ⟨rfl,rfl⟩,L,gX.refl _ _⟩;cases H;cases C;rename_i t m k x kk D;simp only[E6]at q;obtain⟨q,C⟩:=q;obtain⟨B,J⟩:=M _ q;split at C;rename_i kt et N;have O:=H;unfold bD at H;simp only at H;split at H;obtain⟨w',G',F,L⟩:=HP (.inr D) N C E I hX B.1 B.2.1 B.2.2.1 O;exact⟨_,_,_,_,_,F,.inr ⟨rfl,rfl⟩,L,gX.refl _ _⟩;cases H;cases C;rename_i t m k ok kk zero ok' D;simp only[E6,cJ]at q;obtain⟨⟨rfl,q⟩,C⟩:=q;obtain⟨B,J⟩:=M _ q;split at C;rename_i kt et N;simp only[E6]at C;obtain⟨C,hz⟩:=C;split at hz;rename_i ie hie;split at hz;rename_i z hzz;unfold bD at H;simp only at H;split at H;rename_i am ak;split at H;cases H;rename_i es oW;split at H;split at H;cases H;rename_i res hf;cases H;have avO:(am=.gR/\es=[])\/∃id,am=.map id/\st[id]?=Z (.map es):=by
  grind
 obtain⟨u,F,L,e3⟩:=aaM D N C hie hzz hz E avO hf B.1 B.2.1
 grind [mO.dw,AV.dw,AV.fT]
 cases H;cases H;cases hz;cases hz;cases C;rename_i f first oM f' n D
 simp only[E6,cJ,aC]at q;obtain⟨⟨⟨rfl,q⟩,rfl⟩,hf⟩:=q;obtain⟨B,J⟩:=M _ q;unfold bD at H;simp only at H;split at H;rename_i vs Eb;cases H;obtain⟨hv,EW⟩:=B.Yl Eb;obtain⟨F,L⟩:=Tz (P:=P) hf D hv;exact mO.dw E I F L rfl;cases H;rename_i c k D;simp only[E6,cJ]at q;obtain⟨⟨q,fM⟩,C⟩:=q;obtain⟨B,J⟩:=M _ q;obtain⟨x,R⟩:∃x,c.args.toList=[x]:=List.length_eq_one_iff.1 (by grind);rw[R]at B J;split at C;rename_i t uT E1;unfold bD at H;simp only at H;split at H;split at H;rename_i n hn;cases H;refine mO.dw E I (aqh D uT R E1 (k:=k) ?_ E hn B.1) (.int _ _) rfl
 grind
 cases H;cases H;cases C;rename_i c mx D;simp only[E6,cJ]at q;obtain⟨⟨q,fM⟩,C⟩:=q;obtain⟨B,J⟩:=M _ q;obtain⟨x,y,R⟩:∃x y,c.args.toList=[x,y]:=zZ (by grind);rw[R]at B J;unfold bD at H;simp only at H;split at H;split at H;rename_i hk;subst hk;cases H;split at C;rename_i uT;rw[af C];exact mO.dw E I (aqi D uT R B.1 B.2.1) (.int _ _) rfl;rename_i uT;rw[U (by grind)];exact mO.dw E I (aqj D uT R B.1 B.2.1) (.int _ _) rfl;cases C;cases H;cases H
 ·
  rename_i c sz bytes D;simp only[E6,cJ]at q;obtain⟨⟨⟨q,fM⟩,TN⟩,C⟩:=q;obtain⟨B,J⟩:=M _ q;obtain⟨x,y,R⟩:∃x y,c.args.toList=[x,y]:=zZ (by grind);rw[R]at B J;split at C
  ·rename_i t u uT Ti VR;simp only[E6]at C;obtain⟨wm,E2⟩:=C;split at wm
   ·rename_i e N;simp only[E6,aC]at wm;obtain⟨⟨⟨⟨T,W⟩,h3⟩,h4⟩,h5⟩:=wm;split at h5
    ·rename_i i hi;split at h5
     ·rename_i z hz;simp only[cJ]at h5;have hT:TE P t u e sz bytes i z:=by
       refine⟨N,hi,hz,?_,?_,h5,h3,h4,?_⟩;all_goals grind [oR,tR]
      have O:=H;unfold bD at H;simp only at H;split at H;obtain⟨v,w',G',F,L⟩:=aaS (ty:=o.type) hT E I hX B.1 B.2.1 (λb=>by grind [p8,dH]) O;refine⟨_,_,_,_,_,?_,.inl rfl,L,gX.refl _ _⟩;simp only[execOp,D,resolve,uT,cq,Sem.run_pure,dA,invoke,builtin,sW R,CQ TN Ti VR];simp[F];cases H
     cases h5
    cases h5
   cases wm
  cases C
 ·
  rename_i c sz bytes D;simp only[E6,cJ]at q;obtain⟨⟨⟨q,fM⟩,TN⟩,C⟩:=q;obtain⟨B,J⟩:=M _ q;obtain⟨x,y,R⟩:∃x y,c.args.toList=[x,y]:=zZ (by grind);rw[R]at B J;split at C
  ·rename_i t u uT Ti VR;simp only[E6]at C;obtain⟨wm,E2⟩:=C;split at wm
   ·rename_i e N;simp only[E6,aC]at wm;obtain⟨⟨⟨⟨T,W⟩,h3⟩,h4⟩,h5⟩:=wm;split at h5
    ·rename_i i hi;split at h5
     ·rename_i z hz;simp only[cJ]at h5;have hT:TE P t u e sz bytes i z:=by
       refine⟨N,hi,hz,?_,?_,h5,h3,h4,?_⟩;all_goals grind [oR,tR]
      have O:=H;unfold bD at H;simp only at H;split at H;obtain⟨v,w',G',F,L⟩:=Yg (ty:=o.type) hT E I hX B.1 B.2.1 O;refine⟨_,_,_,_,_,?_,.inl rfl,L,gX.refl _ _⟩;simp only[execOp,D,resolve,uT,cq,Sem.run_pure,dA,invoke,builtin,sW R,CQ TN Ti VR];simp[F];cases H
     cases h5
    cases h5
   cases wm
  cases C
 rename_i c sz D;simp only[E6,cJ]at q;obtain⟨⟨⟨q,fM⟩,TN⟩,C⟩:=q;obtain⟨B,J⟩:=M _ q;obtain⟨x,y,R⟩:∃x y,c.args.toList=[x,y]:=zZ (by grind);rw[R]at B J;split at C;rename_i t u uT Ti VR;simp only[E6]at C;obtain⟨wm,E2⟩:=C;split at wm;rename_i e N;have hk:(∃e',P.underlying u=Z (.slice e'))\/P.underlying u=Z .string:=by
  grind
 have O:=H;unfold bD at H;simp only at H;split at H;obtain⟨v,w',G',F,L⟩:=akY (ty:=o.type) N wm hk E I hX B.1 B.2.1 O;refine⟨_,_,_,_,_,?_,.inl rfl,L,gX.refl _ _⟩;simp only[execOp,D,resolve,uT,cq,Sem.run_pure,dA,invoke,builtin,sW R,CQ TN Ti VR];simp[F];cases H;cases wm;cases C
 grind [bD]
 grind [bD]
 rename_i t x y sz bytes zero D;simp only[E6]at q;obtain⟨q,C⟩:=q;obtain⟨B,J⟩:=M _ q;split at C;rename_i e N;simp only[E6,aC]at C;obtain⟨⟨⟨⟨T,W⟩,h3⟩,h4⟩,h5⟩:=C;unfold bD at H;simp only at H;split at H;rename_i n c;split at H;rename_i nZ;obtain⟨c1,c2,c3,c4,hpz⟩:=nZ;have oL:c<=9223372036854775807:=by
  have:c*1<=c*bytes:=ait (by omega) (by omega)
  grind [dj]
 obtain⟨cells,F,L,e3,e4⟩:=Qw (w:=w) (G:=G) D N T W h3 h4 c4 (bJ.jg B.1) (bJ.jg B.2.1) c1 c2 c3 oL;obtain⟨_,_,_,_,_,X9,hzc⟩:=pQ h3 w G;have hle:n.toNat*sz<=c.toNat*sz:=aeb _ (by omega);have cF:cy sz (aag n.toNat zero)=Y:=dx.2 λr hr=>by grind
 have lB:∀r∈aag n.toNat zero,AV.bG r=Y:=λr hr=>by grind
 have R:∀(k:Nat) x,(cells.toList.take (n.toNat*sz))[k]?=Z x->cells[k]?=Z x:=λk x hk=>by
  grind
 cases H;obtain⟨G',QO⟩:=af1 (sz:=sz) (cap:=c.toNat) (rows:=aag n.toNat zero) (c:=cells) (e:=e) (xs:=cells.toList.take (n.toNat*sz)) (w':=w.alloc (.cells cells e)) (cO:=cO) E I rfl rfl rfl cF lB
  (λr hr=>by grind [dG]) (λr hr=>by grind) e3 (by omega) (by simp;omega) R
 rw[ajE]at QO;exact⟨_,_,_,_,_,F,.inl rfl,QO,gX.refl _ _⟩;cases H;cases H;cases C;rename_i c sz bytes zero D;simp only[E6,cJ]at q;obtain⟨⟨⟨q,fM⟩,TN⟩,C⟩:=q;obtain⟨B,J⟩:=M _ q;obtain⟨x,y,R⟩:∃x y,c.args.toList=[x,y]:=zZ (by grind);rw[R]at B J;split at C;rename_i t u uT Ti VR;simp only[E6]at C;obtain⟨wm,E2⟩:=C;split at wm;rename_i e N;simp only[E6,aC]at wm;obtain⟨⟨⟨⟨T,W⟩,h3⟩,h4⟩,h5⟩:=wm;have hk:∃k,P.underlying u=Z (.int k):=by
  grind
 have O:=H;unfold bD at H;simp only at H;split at H;obtain⟨v,w',G',F,L⟩:=Yh (ty:=o.type) N hk T W h3 h4 h5 E I hX B.1 B.2.1 O;refine⟨_,_,_,_,_,?_,.inl rfl,L,gX.refl _ _⟩;simp only[execOp,D,resolve,uT,cq,Sem.run_pure,dA,invoke,builtin,sW R,CQ TN Ti VR];simp[F];cases H;cases wm;cases C;have h0:so.args=[]:=by grind
 have hv:=(M [] (by rw[h0];rfl)).1
 grind [bD,oz]
 cases q
end Ax
namespace Ax
open Go
variable {P:Program}{w w':World}{G G':bT}{β jE:List wj}
theorem BU(d e t):∀env:xJ,eG (BA env d e) t=if t=d then e else eG env t
 |[]=>by
  simp only[BA,eG];by_cases h:d=t;rw[af h,af h.symm];rw[U h,U (show ¬t=d from λe=>h e.symm)]
 |(k,x)::r=>by
  have I:=BU d e t r;unfold BA;split;simp only[eG];by_cases h:d=t;rw[af h,af h.symm];rw[U h,U (show ¬t=d from λe=>h e.symm)];split;rename_i m;subst m;simp only[eG];by_cases h:d=t;rw[af h,af h.symm];rw[U h,U (show ¬t=d from λe=>h e.symm),U h];simp only[eG,I];by_cases h:k=t;rw[af h,af h,ah];rw[U h,U h]
theorem J1(d t):∀env:xJ,eG (Ip env d) t=if t=d then .none else eG env t
 |[]=>by simp[Ip,eG]|(k,x)::r=>by
  have I:=J1 d t r;unfold Ip;split;rename_i h;rw[I];simp only[eG];by_cases H:t=d;rw[af H,af H];rw[U H,U H,ah];simp only[eG,I];by_cases H:t=d;rw[af H,af H];rw[ah];rw[U H,U H]
def vG:List Src->List Nat
 |[]=>[]
 |.tmp t Y::r=>t::vG r|_::r=>vG r
theorem y7(t):∀s env,eG (s.foldl qv env) t=if t∈vG s then .none else eG env t
 |[],env=>by simp[vG]|.tmp u Y::r,env=>by
  simp only[akj,qv,vG,y7 t r,J1,ac2];by_cases h:t∈vG r;simp[h];by_cases H:t=u;simp[H];simp[h,H]
 |.tmp u X::r,env=>by rw[akj,y7 t r];rfl|.const a::r,env=>by rw[akj,y7 t r];rfl
theorem Aa(t):∀l env,eG (lu l env) t=if t∈l then .none else eG env t
 |[],env=>by simp[lu]|u::l,env=>by
  simp only[lu,Aa t l,J1,ac2];by_cases h:t∈l;simp[h];by_cases H:t=u;simp[H];simp[h,H]
theorem My(t):∀k l,eG (Mn k l) t=if k<=t then (match l[t-k]? with|some v=>.val v|none=>.none) else .none
 |k,[]=>by simp[Mn,eG]|k,v::r=>by
  simp only[Mn,eG,My t (k+1) r];by_cases h:k=t;subst h;simp;rw[U h];by_cases H:k<=t;rw[af H,dM,show t-k=(t-(k+1))+1 by omega];simp;rw[U H,ah]
theorem J2{j}:∀{env:xJ},fP j env=Y->∀t,(eG env t).ue j=Y
 |[],_,_=>rfl|(k,x)::r,h,t=>by
  simp only[fP,ahd,E6]at h;simp only[eG];split;exact h.1;exact J2 (env:=r) (by simpa [fP] using h.2) t
def jy(f:Nat->Nat):Nat->Nat
 |0=>0|n+1=>jy f n+f n
theorem sY{f g}:∀{n:Nat},(∀t,t<n->f t=g t)->jy f n=jy g n
 |0,_=>rfl|n+1,h=>by simp only[jy];rw[sY λt H=>h t (by omega),h n (by omega)]
theorem IZ{f g}:∀{n:Nat},(∀t,t<n->f t<=g t)->jy f n<=jy g n
 |0,_=>aal _|n+1,h=>by
  simp only[jy];have H:=IZ (f:=f) (g:=g) (n:=n) λt k=>h t (by omega);have j:=h n (by omega);omega
theorem y8{f g d}:∀{n:Nat},d<n->(∀t,t≠d->f t=g t)->jy f n+g d=jy g n+f d
 |0,h,_=>by omega|n+1,h,B=>by
  simp only[jy];by_cases H:d=n;subst H;rw[sY (f:=f) (g:=g) λt j=>B t (by omega)];omega;have:=y8 (f:=f) (g:=g) (n:=n) (d:=d) (by omega) B;rw[B n λe=>H e.symm];omega
theorem BW{f t n}(h:t<n):f t<=jy f n:=by
 have:=y8 (f:=λu=>if u=t then 0 else f u) (g:=f) (d:=t) h λu H=>U H;simp only[bz]at this;omega
theorem Mz{n}:jy (λ_=>0) n=0:=by
 induction n with
 |zero=>rfl|succ n I=>simp[jy,I]
def uU(f:Nat->Nat):List Nat->Nat
 |[]=>0|t::l=>f t+uU f l
theorem E3{f n}(H:∀t,n<=t->f t=0):∀l,l.Nodup->uU f l+jy (λt=>if t∈l then 0 else f t) n<=jy f n
 |[],_=>by simp[uU]|t::l,h=>by
  have I:=E3 H l (ahK.1 h).2;have k:=(ahK.1 h).1;simp only[uU];by_cases m:t<n;have:=y8 (f:=λu=>if u∈t::l then 0 else f u) (g:=λu=>if u∈l then 0 else f u) (d:=t) m λu j=>by simp[j]
  simp only[ac2,true_or,bz,U k]at this;simp only[ac2];omega;rw[H t (by omega)];rw[sY (f:=λu=>if u∈t::l then 0 else f u) (g:=λu=>if u∈l then 0 else f u) λu j=>by simp[show u≠t by omega]];omega
mutual
def AV.under(n:Nat):AV->Bool
 |.mu i _|.ptr i _ _ _|.map i=>decide (i<n)|.agg C|.fC C=>AV.sZ n C|.fn _ a b=>AV.sZ n a&&AV.sZ n b|_=>Y
def AV.sZ(n:Nat):List AV->Bool
 |[]=>Y|v::r=>v.under n&&AV.sZ n r
end
theorem jG(n):∀C:List AV,AV.sZ n C=Y↔∀c∈C,c.under n=Y
 |[]=>by simp[AV.sZ]|c::C=>by simp[AV.sZ,jG n C]
mutual
theorem lC(n:Nat):∀a:AV,a.aH=Y->a.under n=Y
 |.mu _ _,h=>by simp[AV.aH]at h|.ptr _ _ _ _,h=>by simp[AV.aH]at h|.map _,h=>by simp[AV.aH]at h|.agg C,h=>by simp only[AV.aH,AV.under]at *;exact uv n C h|.fC C,h=>by simp only[AV.aH,AV.under]at *;exact uv n C h|.fn _ a b,h=>by simp only[AV.aH,AV.under,E6]at *;exact⟨uv n a h.1,uv n b h.2⟩|.undef,_|.gone,_|.bool _,_|.int _ _,_|.str _,_|.ff,_|.aF,_|.gR,_|.jx,_|.me,_|.eE _ _,_|.iY _ _,_|.raw _ _,_|.pP,_|.uL _ _ _ _,_=>by simp[AV.under]
theorem uv(n:Nat):∀C:List AV,AV.aD C=Y->AV.sZ n C=Y
 |[],_=>rfl|c::C,h=>by
  simp only[AV.aD,E6]at h;simp only[AV.sZ,lC n c h.1,uv n C h.2,afH]
end
mutual
theorem TO{m n:Nat}(H:m<=n):∀a:AV,a.under m=Y->a.under n=Y
 |.mu _ _,h|.ptr _ _ _ _,h|.map _,h=>by simp only[AV.under,aC]at *;omega|.agg C,h=>by simp only[AV.under]at *;exact uw H C h|.fC C,h=>by simp only[AV.under]at *;exact uw H C h|.fn _ a b,h=>by simp only[AV.under,E6]at *;exact⟨uw H a h.1,uw H b h.2⟩|.undef,_|.gone,_|.bool _,_|.int _ _,_|.str _,_|.ff,_|.aF,_|.gR,_|.jx,_|.me,_|.eE _ _,_|.iY _ _,_|.raw _ _,_|.pP,_|.uL _ _ _ _,_=>by simp[AV.under]
theorem uw{m n:Nat}(H:m<=n):∀C:List AV,AV.sZ m C=Y->AV.sZ n C=Y
 |[],_=>rfl|c::C,h=>by
  simp only[AV.sZ,E6]at *;exact⟨TO H c h.1,uw H C h.2⟩
end
theorem bJ.E4{a v}(h:bJ w G a v):a.under (Q G.ls)=Y:=by
 induction h with
 |agg C vs H h I=>
  simp only[AV.under];refine(jG _ C).2 λc g=>?_;obtain⟨i,j,rfl⟩:=aav.1 g;have l:i<vs.size:=by omega
  exact I i C[i] vs[i] (aae j) (by simp[l])
 |fC C vs H h I=>
  simp only[AV.under];refine(jG _ C).2 λc g=>?_;obtain⟨i,j,rfl⟩:=aav.1 g;have l:i<vs.size:=by omega
  exact I i C[i] vs[i] (aae j) (by simp[l])
 |mu id D v loc n H p B=>simpa [AV.under] using (aad.1 H).1|ptr id D i k v loc n H p B=>simpa [AV.under] using (aad.1 H).1|map id loc b H m s=>simpa [AV.under] using (aad.1 H).1|fn f first O L J H m t h k I q=>
  simp only[AV.under,E6];refine⟨(jG _ first).2 λc g=>?_,(jG _ O).2 λc g=>?_⟩;obtain⟨i,j,rfl⟩:=aav.1 g;have l:i<L.size:=by omega
  exact I i first[i] L[i] (aae j) (by simp[l])
  obtain⟨i,j,rfl⟩:=aav.1 g;have l:i<J.size:=by omega
  exact q i O[i] J[i] (aae j) (by simp[l])
 |_=>simp[AV.under]
def bT.cut(G:bT)(n:Nat):bT:=⟨G.ls.take n,G.qi⟩
theorem I5{n i loc}(h:G.ls[i]?=Z loc)(H:i<n):(G.cut n).ls[i]?=Z loc:=by
 simp only[bT.cut];rw[abv,af H];exact h
theorem bJ.J3{n a v}(h:bJ w G a v):a.under n=Y->bJ w (G.cut n) a v:=by
 induction h with
 |undef=>exact λ_=>.undef|gone v h=>exact λ_=>.gone v h|bool b=>exact λ_=>.bool b|int k n=>exact λ_=>.int k n|str l s h=>exact λ_=>.str l s h|ff=>exact λ_=>.ff|aF=>exact λ_=>.aF|gR=>exact λ_=>.gR|jx=>exact λ_=>.jx|me=>exact λ_=>.me|agg C vs p h I=>exact λm=>.agg C vs p λi c v H g=>I i c v H g ((jG n C).1 (by simpa [AV.under] using m) c (eL H))|fC C vs p h I=>exact λm=>.fC C vs p λi c v H g=>I i c v H g ((jG n C).1 (by simpa [AV.under] using m) c (eL H))|eE q rows a cap R O F x T D y U I=>
  exact λ_=>.eE q rows a cap R O F x T D y λi r j c v H g t=>I i r j c v H g t (lC n c ((js r).1 (T r (eL H)) c (eL g)))
 |iY q rows a cap R O F x T D y U N M I=>
  exact λ_=>.iY q rows a cap R O F x T D y (λi r j c v H g t=>I i r j c v H g t (lC n c ((js r).1 (T r (eL H)) c (eL g)))) N M
 |raw q rows a cap R O F x T D y U N M I=>
  exact λ_=>.raw q rows a cap R O F x T D y (λi r j c v H g t=>I i r j c v H g t (lC n c ((js r).1 (T r (eL H)) c (eL g)))) N M
 |pP a=>exact λ_=>.pP a|mu id z v loc J p L B=>exact λm=>.mu id z v loc J (I5 p (by simpa [AV.under] using m)) L B|ptr id z i k v loc J p L B=>exact λm=>.ptr id z i k v loc J (I5 p (by simpa [AV.under] using m)) L B|uL q rows i k a cap hs I=>exact λ_=>.uL q rows i k a cap (I (by simp[AV.under]))|map id loc b p E m=>exact λsP=>.map id loc b (I5 p (by simpa [AV.under] using sP)) E m|fn f first W vf vc p E hn h k I ik=>
  intro m;simp only[AV.under,E6]at m;exact .fn f first W vf vc p E hn (λi c v H g=>I i c v H g ((jG n first).1 m.1 c (eL H))) λi c v H g=>ik i c v H g ((jG n W).1 m.2 c (eL H))
def iW.under(n:Nat):iW->Bool
 |.rows _ _ rs=>rs.all (AV.sZ n)|.map E=>E.all λe=>e.1.under n&&e.2.under n
theorem uR.J3{n O loc}(h:uR w G O loc)(H:O.under n=Y):uR w (G.cut n) O loc:=by
 cases O with
 |rows F J rows=>
  obtain⟨m,p,l⟩:=h;simp only[iW.under,aam]at H;refine⟨m,p,l.zR,l.IU,l.len,l.size,l.yE,λi r D E g=>?_,l.uQ⟩;obtain⟨q,W⟩:=l.y5 i r D E g;exact⟨q,λj c v y z=>(W j c v y z).J3 ((jG n r).1 (H r (eL E)) c (eL y))⟩
 |map I=>
  obtain⟨m,p,b,B,clock,l,s,t,x,N⟩:=h;simp only[iW.under,aam,E6]at H;refine⟨m,p,b,B,clock,l,s,t,x,λi k v e E g=>?_⟩;obtain⟨y,z,C,L⟩:=N i k v e E g;have:=H (k,v) (eL E);exact⟨y.J3 this.1,z.J3 this.2,C,L⟩
theorem uR.E4{O loc}(h:uR w G O loc):O.under (Q G.ls)=Y:=by
 cases O with
 |rows D I rows=>
  obtain⟨k,m,l⟩:=h;simp only[iW.under,aam];intro r q;obtain⟨i,H,rfl⟩:=aav.1 q;have L:i<Q loc.vals:=by rw[l.yE];exact H
  obtain⟨t,W⟩:=l.y5 i rows[i] loc.vals[i] (aae H) (aae L);refine(jG _ _).2 λc n=>?_;obtain⟨j,p,rfl⟩:=aav.1 n;have g:j<Q loc.vals[i]:=by omega
  exact(W j _ _ (aae p) (aae g)).E4
 |map E=>
  obtain⟨k,m,b,B,clock,l,v,C,F,N⟩:=h;simp only[iW.under,aam,E6];intro x s;obtain⟨i,H,rfl⟩:=aav.1 s;have L:i<B.size:=by omega
  obtain⟨y,z,_,_⟩:=N i E[i].1 E[i].2 B[i] (aae H) (by simp[L]);exact⟨y.E4,z.E4⟩
def MA(l:Nat)(st:aO):Prop:=∀(id:Nat) O,id<l->st[id]?=Z O->O.under l=Y
theorem mH.aqE{st}(h:mH w G st):MA (Q st) st:=by
 intro id O _ H;obtain⟨loc,j,g⟩:=h.loc H;rw[<-h.len];exact g.E4
theorem mH.J3{st n}(h:mH w G st)(hl:MA n st):mH w (G.cut n) (st.take n) where
 len:=by simp[bT.cut,h.len]
 bX:=λid O loc H g=>by
  simp only[bT.cut]at g;rw[abv]at H g;split at H;rename_i I;rw[af I]at g;exact(h.bX id O loc H g).J3 (hl id O I H);cases H
 qT:=h.qT
theorem agl{n}(h:xO w G w' G')(hn:Q G.ls<=n):xO w G w' (G'.cut n) where
 imm:=h.imm
 gm:=λid loc hl=>by
  obtain⟨l,j,a2,g⟩:=h.gm id loc hl;exact⟨l,I5 j (by have:=(aad.1 hl).1;omega),a2,g⟩
theorem MB(b):∀n L (st:aO),dh b (L.take n) (st.take n)<=dh b L st
 |0,L,st=>by simp[dh]|n+1,[],st=>by simp[dh]|n+1,l::L,[]=>by simp[dh]|n+1,l::L,o::st=>by
  have:=MB b n L st;simp only[akd,dh];omega
end Ax
