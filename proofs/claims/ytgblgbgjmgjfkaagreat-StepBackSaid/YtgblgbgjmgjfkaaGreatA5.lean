/- Part of a proof. -/
import Derived.Test.YtgblgbgjmgjfkaaGreatA4
import Derived.Scope
import Derived.ChangeStays
import Derived.ChangeSame
import Derived.ChangeOld
import Derived.ChangeArms
import Derived.JoinedOf
import Derived.RowKit3
import Derived.ReadAgain
import Derived.Handed

open List renaming length->Q
open Option renaming some->Z,none->K
open Bool renaming true->Y,false->X
open Decidable renaming decide->V
open List renaming getElem?_eq_some_iff->aad,drop_eq_getElem_cons->aan,getElem?_eq_getElem->aae,getElem?_set->aaD,getElem?_take->abv,getElem?_drop->afw,mem_or_eq_of_mem_set->ae7,getElem?_append_left->aaj,getElem?_eq_none->afl,replicate->aag,mem_append->aaw,map_cons->aaZ,sum_cons->apY,all_eq_true->aam,contains_eq_mem->ahb,mem_iff_getElem->aav,append_nil->afB
open Option renaming bind_eq_some_iff->aaf,getD_some->afA
open Nat renaming le_refl->aal,le_trans->adX,lt_or_ge->agp,eq_zero_or_pos->agq
open Bool renaming and_eq_true->E6,not_eq_true'->afo
open Array renaming replicate->ako
namespace Ax
open Go
variable {S:Nat->Option aQ}{P:Program}{O:sN}{wl ai n:Nat}
variable {w w':World}{G G':bT}{β jE:List wj}{a:Act}{s s':St}
def Kh:Code->Code
 |.scope c=>Kh c|c=>c
def N9(S:Nat->Option aQ)(P:Program)(n:Nat)(dZ:Array Oper)(D:Bool)(m:List eN):Option (List (Nat×Nat))->Bool
 |none=>!D&&wP S P dZ n dZ.toList m|some C=>D&&VZ S P dZ n m C
def mm(S:Nat->Option aQ)(P:Program)(n:Nat):aW->Code->Bool
 |.skip,c=>match Kh c with|.skip=>Y|_=>X
 |.region m D _,c=>match Kh c with
  |.region _ dZ d=>N9 S P n dZ d m D|_=>X
 |.seq x y,c=>match x with
  |.frz _=>mm S P n y c|.Jv _ _=>mm S P n y c|.rN _ _=>mm S P n y c|x=>match Kh c with
   |.seq a b=>mm S P n x a&&mm S P n y b|_=>X
 |.cond t _ x _ y,c=>match Kh c with
  |.cond u a b=>Tv u t&&mm S P n x a&&mm S P n y b|_=>X
 |.block i x,c=>match Kh c with
  |.block j a=>i==j&&mm S P n x a|_=>X
 |.loop x,c=>match Kh c with
  |.loop a=>mm S P n x a|_=>X
 |.exit i,c=>match Kh c with
  |.exit j=>i==j|_=>X
 |.ret,c=>match Kh c with
  |.ret=>Y|_=>X
 |.frz _,_=>X|.Jv _ _,_=>X|.rN _ _,_=>X
def Ki:Ex->Exit
 |.normal=>.normal|.exit id=>.exit id|.ret _=>.ret
def Pst(n:Nat)(rs:List qg)(A:Nat->Nat)(w:World)(G:bT)(x:Ex)(s':St)(w':World)(G':bT)(jE:List wj)(h:Act):Prop:=
 ∃g,FT w' G' jE h g n/\Mv w G A w' G' (jH jE h g G' n)/\(match x with|.ret v=>Du g rs=Z v/\s'.st=g.st|_=>s'=g)
theorem Pst.trans{rs A A1 W g x j}(h:Mv w G A W g A1)(k:Pst n rs A1 W g x s' w' G' jE j):Pst n rs A w G x s' w' G' jE j:=by
 obtain⟨p,l,m,o⟩:=k;exact⟨p,l,h.trans m,o⟩
def Oa(P:Program)(c:Code)(q:Exit->Act->World->Prop)(a:Act)(w:World):Prop:=
 ∀(b:Frame) (k:List Item) (C:List Frame),∃e h w',q e h w'/\Arrives P (lone (b.at a (.code c::.inLoop c::k)) C w) b k C e h w'
theorem Q3{c q w}(h:c.wp P (Exit.then (Oa P c q) q) a w):Oa P c q a w:=by
 intro b k C;obtain⟨e,g,j,o,m⟩:=h b (.inLoop c::k) C;cases e with
 |normal=>
  obtain⟨t,v,y,r,p⟩:=o b k C;exact⟨t,v,y,r,.of_steps (Steps.trans m (.one step_inLoop)) p⟩
 |exit id=>exact⟨_,g,j,o,.pass (x:=.inLoop c) rfl (λ_ _=>.inl (by simp)) m⟩|goto l=>exact⟨_,g,j,o,.pass (x:=.inLoop c) rfl (λ_ _=>.inl (by simp)) m⟩|ret=>exact⟨_,g,j,o,.pass (x:=.inLoop c) rfl (λ_ _=>.inl (by simp)) m⟩|panic z=>exact⟨_,g,j,o,.pass (x:=.inLoop c) rfl (λ_ _=>.inl (by simp)) m⟩|outgrown=>exact⟨_,g,j,o,.pass (x:=.inLoop c) rfl (λ_ _=>.inl (by simp)) m⟩
theorem Q5{c Q w}(h:Oa P c Q a w):(Code.loop c).wp P Q a w:=by
 intro b k C;obtain⟨e,g,w',l,m⟩:=h b k C;exact⟨e,g,w',l,.of_steps (.one step_loop) m⟩
theorem vI{Q w}:∀{c:Code},(Kh c).wp P (Exit.noGoto Q) a w->c.wp P Q a w
 |.scope c,h=>wp_scope_straight (vI (c:=c) (wp_mono h λe _ _ B=>by cases e<;>exact B))|.skip,h|.region ..,h|.seq ..,h|.cond ..,h|.block ..,h|.loop ..,h|.rangeFunc ..,h|.exit _,h|.label _,h|.goto _,h|.refuse _,h|.ret,h=>wp_mono h λe _ _ B=>by
  cases e<;>first|exact B|exact B.elim
def CU(S:Nat->Option aQ)(P:Program)(O:sN):Prop:=
 ∀wl ai rs c s x s',O.loop wl ai rs c s=Z (x,s')->∀code n,mm S P n c code=Y->∀(w:World) (G:bT) (β:List wj) (a:Act),FT w G β a s n->(∀b,jH β a s G n b<=1)->
  ∀(Q:Exit->Act->World->Prop),(∀w' G' jE h,Pst n rs (jH β a s G n) w G x s' w' G' jE h->Q (Ki x) h w')->Oa P code Q a w
theorem FT.clear(h:FT w G β a s n)(l):FT w G β a { s with env:=lu l s.env } n/\∀b,jH β a { s with env:=lu l s.env } G n b<=jH β a s G n b:=
 FS.aba h λt=>by
  simp only[Aa];split;exact .inr rfl;exact .inl rfl
theorem FT.aqS(h:FT w G β a s n)(c l):FT w G β a { s with env:=lu l (qv s.env c) } n/\∀b,jH β a { s with env:=lu l (qv s.env c) } G n b<=jH β a s G n b:=
 FS.aba h λt=>by
  have g:=y7 t [c] s.env;simp only[List.foldl_cons,List.foldl_nil]at g;simp only[Aa,g];split;exact .inr rfl;split;exact .inr rfl;exact .inl rfl
theorem Mv.Ag{A p g}(h:Mv w G A w' G' p)(j:∀b,g b<=p b):Mv w G A w' G' g:=
 h.aa6 (λ_=>aal _) (λb l=>adX (j b) (h.iI b l)) λb=>adX (j b) (h.one b)
theorem CV(w G d):xO w G { w with drawn:=d } G:=⟨λ_ _ g=>⟨rfl,g⟩,λ_ loc h=>⟨loc,h,aal _,λ_=>rfl⟩⟩
theorem FT.drawn(h:FT w G β a s n)(d):FT { w with drawn:=d } G β a s n where
 QS:=h.QS
 size:=h.size
 yT:=λt=>(h.yT t).lY (CV w G d) λ_ _=>⟨rfl,rfl⟩
 lt:=h.lt
 inv:=BO h.inv (CV w G d) rfl (λ_ _=>⟨rfl,rfl⟩) h.inv.qT
 box:=rj h.box (CV w G d) λ_ _=>⟨rfl,rfl⟩
theorem Mv.drawn{A p d}(h:Mv { w with drawn:=d } G A w' G' p):Mv w G A w' G' p:=
 ⟨(CV w G d).trans h.lY,h.iI,h.one,λb l B=>h.BJ b l B,h.size,h.os,h.out⟩
theorem ala{t v k g}(j:FT w G β a s n)(q:∀b,jH β a s G n b<=1)(r:eG s.env t=.val v)(z:jN wl v s.st=Z (k,g)):
  ∃G',FT w G' β a ⟨BA s.env t (.val k),s.bx,g⟩ n/\Mv w G (jH β a s G n) w G' (jH β a ⟨BA s.env t (.val k),s.bx,g⟩ G' n):=by
 have W:t<n:=by
  rcases agp t n with h|h;exact h;rw[j.lt t h]at r;cases r
 have J:=j.yT t;rw[r]at J;obtain⟨G',l,C,E⟩:=Ej (w:=w) j.inv (λb=>by have:=q b;unfold jH Ba at this;omega) J z;have T:∀b,dH b (.val k) (oY a t)=0:=λb=>gW b _ _ E;have L:∀b,0<dH b (eG s.env t) (oY a t)\/True:=λ_=>.inr trivial;have F:∀b,jy (λu=>dH b (eG (BA s.env t (.val k)) u) (oY a u)) n<=jy (λu=>dH b (eG s.env u) (oY a u)) n:=λb=>IZ λu _=>by
  rw[BU];by_cases m:u=t;subst m;rw[af rfl,T b];omega;rw[U m];exact aal _
 have x:∀b,0<jy (λu=>dH b (eG s.env u) (oY a u)) n+ja b β s.bx->fY w G w G' b:=λb o=>⟨l.BJ b (by have:=q b;unfold jH Ba at this;omega),rfl⟩;have p:∀b,jH β a ⟨BA s.env t (.val k),s.bx,g⟩ G' n b<=jH β a s G n b:=λb=>by
  have D:=F b;have I:=l.iI b;show jy (λu=>dH b (eG (BA s.env t (.val k)) u) (oY a u)) n+ja b β s.bx+dh b G'.ls g<=jy (λu=>dH b (eG s.env u) (oY a u)) n+ja b β s.bx+dh b G.ls s.st;omega
 refine⟨G',⟨j.QS,j.size,λu=>?_,λu m=>?_,l.inv,rj (bx:=s.bx) j.box l.lY λb o=>x b (by omega)⟩,⟨l.lY,λb _=>p b,λb=>adX (p b) (q b),λb o B=>?_,aal _,rfl,rfl⟩⟩;show nX w G' β (eG (BA s.env t (.val k)) u) (oY a u);rw[BU];by_cases m:u=t;subst m;rw[af rfl];exact C;rw[U m];refine(j.yT u).lY l.lY λb o=>x b ?_;have y:u<n:=by
  rcases agp u n with h|h;exact h;rw[j.lt u h]at o;simp[dH]at o
 have:=BW (f:=λu=>dH b (eG s.env u) (oY a u)) y;omega;show eG (BA s.env t (.val k)) u=.none;rw[BU,ah];exact j.lt u m;have:dh b G.ls s.st=0:=by unfold jH Ba at B;omega
 exact⟨l.BJ b this,rfl⟩
theorem Fa{wl v j st g}(h:jN wl v st=Z (j,g)):j.cT=Y:=by
 unfold jN at h;split at h;split at h;split at h;split at h;cases h;rfl;cases h;cases h;cases h;cases h;rfl;cases h
theorem ER.put{m g k v u}(h:ER w G m g)(z:k<Q m)(o:g.vals[k]?=Z u)(B:bJ w G v u)(y:v.cT=Y):ER w G (aB m k [v]) g:=by
 have D:dm w G [v] [u]:=⟨rfl,λi c x j l=>by
  cases i with
  |zero=>simp at j l;subst j;subst l;exact B|succ i=>simp at j⟩
 have C:aB g.vals k [u]=g.vals:=by
  have U:k<Q g.vals:=(aad.1 o).1;have e:=zX g.vals k 1 (by omega);have r:(g.vals.drop k).take 1=[u]:=by
   rw[aan U];simp[(aad.1 o).2]
  rw[r]at e;exact e
 refine⟨?_,mU h.IU (by simp[AV.bG,y]) (by simp;omega),?_⟩;have:=h.yT.aB D (n:=k) (by simp;omega)
 rwa [C]at this
 rcases h.uQ with⟨j,l⟩|⟨b,c,e,j,l,p,q,t⟩;subst l;simp at z;exact .inr ⟨b,c,e,j,l,by rw[fQ];exact p,q,t⟩
theorem agw{j k l v o m}(p:FT w G β a s n)(I:∀b,jH β a s G n b<=1)(D:s.bx[j]?=Z l)(W:l[k]?=Z v)(T:jN wl v s.st=Z (o,m)):
  ∃G',FT w G' β a ⟨s.env,s.bx.set j (aB l k [o]),m⟩ n/\Mv w G (jH β a s G n) w G' (jH β a ⟨s.env,s.bx.set j (aB l k [o]),m⟩ G' n):=by
 have p9:=(aad.1 D).1;have R:=(aad.1 W).1;obtain⟨g,B⟩:∃g,β[j]?=Z g:=⟨_,aae (by rw[p.box.len];exact p9)⟩;have y:=p.box.box j l g D B;obtain⟨u,F⟩:∃u,g.vals[k]?=Z u:=⟨_,aae (by rw[<-y.yT.1];exact R)⟩;obtain⟨G',t,fR,eC⟩:=Ej (w:=w) p.inv (λb=>by have:=I b;unfold jH Ba at this;omega) (y.yT.2 k v u W F) T;have lB:=Fa T;have N:∀b,0<jy (λu=>dH b (eG s.env u) (oY a u)) n+ja b β s.bx->fY w G w G' b:=λb z=>⟨t.BJ b (by have:=I b;unfold jH Ba at this;omega),rfl⟩;have L:∀b,ja b β (s.bx.set j (aB l k [o]))<=ja b β s.bx:=λb=>by
  have E:=EP b β s.bx j g l g (aB l k [o]) B D;have q:β.set j g=β:=by
   obtain⟨hj,e⟩:=aad.1 B;rw[<-e];exact List.set_getElem_self _
  have Qc:aB g.vals k [u]=g.vals:=by
   have uy:k<Q g.vals:=(aad.1 F).1;have e:=zX g.vals k 1 (by omega);have q:(g.vals.drop k).take 1=[u]:=by
    rw[aan uy];simp[(aad.1 F).2]
   rw[q]at e;exact e
  have e3:=wF b l [o] g.vals [u] k y.yT.1 rfl (by simp;omega);rw[Qc]at e3;have e4:cV b [o] [u]=0:=by simp only[cV,gW b o u eC]
  rw[q]at E;omega
 have C:∀b,jH β a ⟨s.env,s.bx.set j (aB l k [o]),m⟩ G' n b<=jH β a s G n b:=λb=>by
  have E:=L b;have q:=t.iI b;show jy (λu=>dH b (eG s.env u) (oY a u)) n+ja b β (s.bx.set j (aB l k [o]))+dh b G'.ls m<=jy (λu=>dH b (eG s.env u) (oY a u)) n+ja b β s.bx+dh b G.ls s.st;omega
 have J:=rj (bx:=s.bx) p.box t.lY λb z=>N b (by omega);refine⟨G',⟨p.QS,p.size,λu=>?_,p.lt,t.inv,⟨by simpa using J.len,λi r x E q=>?_⟩⟩,⟨t.lY,λb _=>C b,λb=>adX (C b) (I b),λb z h0=>?_,aal _,rfl,rfl⟩⟩;refine(p.yT u).lY t.lY λb z=>N b ?_;have QB:u<n:=by
  rcases agp u n with h|h;exact h;rw[p.lt u h]at z;simp[dH]at z
 have:=BW (f:=λu=>dH b (eG s.env u) (oY a u)) QB;omega;simp only[aaD]at E;by_cases M:j=i;subst M;rw[af rfl,af p9]at E;cases E;rw[B]at q;cases q;exact(J.box j l g D B).put R F fR lB;rw[U M]at E;exact J.box i r x E q;have:dh b G.ls s.st=0:=by unfold jH Ba at h0;omega
 exact⟨t.BJ b this,rfl⟩
theorem abr{wl ai st qS qh id di i k off v m u}(hI:mH w G st)(hX:∀b,dh b G.ls st<=1)(hp:bJ w G (.ptr id di i k) u)(t:gP st (.ptr id di i (k+off)) 1=Z [v])(hf:jN wl v st=Z (m,qS))(l:gT wl ai qS (.ptr id di i (k+off)) [m]=Z qh):∃G',Qd w G st G' qh:=by
 unfold gP at t;simp only at t;split at t;rename_i ve sz rows iX;split at t;rename_i hve;subst hve;split at t;rename_i r iF;obtain⟨loc,b,o,c,e,xs,hl,Gy,HI,jT,QD,sX,iK,je,ir,hle,hlen,kJ,TH,Ei,fU⟩:=EU hI hp iX iF;obtain⟨mT,TK,mI⟩:=wG t;have Ql:k+off<Q r:=by omega
 have hv:r[k+off]?=Z v:=by
  have:((r.drop (k+off)).take 1)[0]?=Z v:=by rw[<-mT];rfl
  rw[abv,dM,afw]at this;exact this
 obtain⟨x,hx⟩:∃x,xs[k+off]?=Z x:=⟨_,aae (by rw[<-Ei.1];exact Ql)⟩;obtain⟨G',M,fR,eC⟩:=Ej hI hX (Ei.2 _ _ _ hv hx) hf;have lB:=Fa hf;have Yu:bJ w G' (.ptr id ve i k) u:=hp.GB M.lY rfl;unfold gT at l;simp only at l;split at l;rename_i T F D Iu;split at l;rename_i J;simp only[E6,aC]at J;obtain⟨rfl,_⟩:=J;split at l;rename_i R W;split at l;rename_i cF;cases l;obtain⟨p,b1,o1,c1,e1,g,HT,av8,av9,z,E,awa,aqU,aAg,alc,awb,aqV,aqW,q,C,V5⟩:=EU M.inv Yu Iu W;have hk1:k+off<Q R:=by simp only[List.length_singleton]at cF;omega
 obtain⟨B,y⟩:∃x,g[k+off]?=Z x:=⟨_,aae (by rw[<-C.1];exact hk1)⟩;rw[QD]at E;simp only[Value.pointer.injEq,bE,Addr.mk.injEq,and_true]at E;obtain⟨hb,ho⟩:=E;have hxx:B=x:=by
  have a1:=fU i xs (k+off) x TH hx;have a2:=V5 i g (k+off) B q y;rw[hb,show o+(i*sz+(k+off))=o1+(i*F+(k+off)) by omega,a2]at a1;cases a1;rfl
 subst hxx;have hs:aB g (k+off) [B]=g:=by
  have e:=zX g (k+off) 1 (by have:=(aad.1 y).1;omega);have e2:(g.drop (k+off)).take 1=[B]:=by
   rw[aan (aad.1 y).1];simp[(aad.1 y).2]
  rw[e2]at e;exact e
 have aqX:dm w G' (aB R (k+off) [m]) g:=by
  have hvc:dm w G' [m] [B]:=⟨rfl,λi c x j I=>by
   cases i with
   |zero=>simp at j I;subst j;subst I;exact fR|succ i=>simp at j⟩
  have:=C.aB hvc (n:=k+off) (by simp;omega)
  rwa [hs]at this
 have vE:uR w G' (.rows T F (D.set i (aB R (k+off) [m]))) p:=by
  refine⟨av8,av9,dx.2 λN DA=>?_,λN DA=>?_,by simp[z.len],z.size,by simp[z.yE],λi' N Th j I=>?_,.inr ⟨b1,o1,c1,e1,awa,aqU,alc,awb,by simpa using aqV,aqW,V5⟩⟩;rcases ae7 DA with h|h;exact dx.1 z.zR N h;rw[h,fQ];exact dx.1 z.zR R (eL W);rcases ae7 DA with h|h;exact z.IU N h;rw[h];exact mU (z.IU R (eL W)) (by simp[AV.bG,lB]) (by simpa using cF);rw[aaD]at j;by_cases TI:i=i';subst TI;rw[af rfl]at j;split at j;cases j;rw[q]at I;cases I;exact aqX;cases j;rw[U TI]at j;exact z.y5 i' N Th j I
 refine⟨G',M.trans ⟨xO.refl w G',IX M.inv (xO.refl w G') (kL _ _ _ HT).symm (λ_ _ _ _ _ _ _ _=>⟨rfl,rfl⟩) vE M.inv.qT,λL=>?_,λ_ _=>rfl⟩⟩;have j:=BI L G'.ls qS id p _ p (.rows T F (D.set i (aB R (k+off) [m]))) HT Iu;rw[kL _ _ _ HT]at j;have h4:=y6 L D p.vals i R g (aB R (k+off) [m]) g W q;rw[kL _ _ _ q]at h4;have e3:=wF L R [m] g [B] (k+off) C.1 rfl (by simp;omega);rw[hs]at e3;have e4:cV L [m] [B]=0:=by simp only[cV,gW L m B eC]
 simp only[kN]at j;omega;cases l;cases l;cases l;cases l;cases t;cases t;cases t
theorem Yx{wl ai st qS qh id D i k off v t u}(o:mH w G st)(L:∀b,dh b G.ls st<=1)(p:bJ w G (.ptr id D i k) u)(h:gP st (.ptr id D i (k+off)) 1=Z [v])(j:rO wl v st=Z (t,qS))(g:gT wl ai qS (.ptr id D i (k+off)) [t]=Z qh):∃G',Qd w G st G' qh:=by
 unfold rO at j;split at j;rename_i N l;cases j;unfold gP at h;simp only at h;split at h;rename_i C B rows I;split at h;rename_i m;subst m;split at h;rename_i r q;obtain⟨M,T,F⟩:=wG h;have E:k+off<Q r:=by omega
 have z:r[k+off]?=Z (.raw N l):=by
  have:((r.drop (k+off)).take 1)[0]?=Z (.raw N l):=by rw[<-M];rfl
  rw[abv,dM,afw]at this;exact this
 have x:id<Q st:=(aad.1 I).1;have y:(st++[iW.rows 0 N l])[id]?=Z (.rows C B rows):=by rw[aaj x];exact I
 unfold gT at g;simp only[y,q]at g;split at g;split at g;cases g;exact agf o p I q z;cases g;cases g;cases h;cases h;cases h;exact abr o L p h j g
theorem agz{wl ai t id D i k off v p qS qh}(j:FT w G β a s n)(o:∀b,jH β a s G n b<=1)(z:eG s.env t=.val (.ptr id D i k))(y:gP s.st (.ptr id D i (k+off)) 1=Z [v])(r:rO wl v s.st=Z (p,qS))(C:gT wl ai qS (.ptr id D i (k+off)) [p]=Z qh):
  ∃G',FT w G' β a ⟨s.env,s.bx,qh⟩ n/\Mv w G (jH β a s G n) w G' (jH β a ⟨s.env,s.bx,qh⟩ G' n):=by
 have J:nX w G β (eG s.env t) (oY a t):=j.yT t;rw[z]at J;obtain⟨G',l⟩:=Yx j.inv (λb=>by have:=o b;unfold jH Ba at this;omega) J y r C;have x:∀b,0<jy (λu=>dH b (eG s.env u) (oY a u)) n+ja b β s.bx->fY w G w G' b:=λb g=>⟨l.BJ b (by have:=o b;unfold jH Ba at this;omega),rfl⟩;have m:∀b,jH β a ⟨s.env,s.bx,qh⟩ G' n b<=jH β a s G n b:=λb=>by
  have E:=l.iI b;show jy (λu=>dH b (eG s.env u) (oY a u)) n+ja b β s.bx+dh b G'.ls qh<=jy (λu=>dH b (eG s.env u) (oY a u)) n+ja b β s.bx+dh b G.ls s.st;omega
 refine⟨G',⟨j.QS,j.size,λu=>?_,j.lt,l.inv,rj (bx:=s.bx) j.box l.lY λb g=>x b (by omega)⟩,⟨l.lY,λb _=>m b,λb=>adX (m b) (o b),λb g B=>?_,aal _,rfl,rfl⟩⟩;refine(j.yT u).lY l.lY λb g=>x b ?_;have q:u<n:=by
  rcases agp u n with h|h;exact h;rw[j.lt u h]at g;simp[dH]at g
 have:=BW (f:=λu=>dH b (eG s.env u) (oY a u)) q;omega;have:dh b G.ls s.st=0:=by unfold jH Ba at B;omega
 exact⟨l.BJ b this,rfl⟩
end Ax
namespace Ax
open Go
variable {S:Nat->Option aQ}{P:Program}{O:sN}{wl ai n:Nat}
theorem CW{Q x a w}(h:Q (Ki x) a w):Exit.noGoto Q (Ki x) a w:=by
 cases x<;>exact h
theorem Yy{x y c}(h:mm S P n (.seq x y) c=Y):(∃t,x=.frz t/\mm S P n y c=Y)\/(∃j k,x=.Jv j k/\mm S P n y c=Y)\/(∃j k,x=.rN j k/\mm S P n y c=Y)\/(∃a b,Kh c=.seq a b/\mm S P n x a=Y/\mm S P n y b=Y):=by
 unfold mm at h;split at h;exact .inl ⟨_,rfl,h⟩;exact .inr (.inl ⟨_,_,rfl,h⟩);exact .inr (.inr (.inl ⟨_,_,rfl,h⟩));split at h;rename_i a b B;simp only[E6]at h;exact .inr (.inr (.inr ⟨a,b,B,h.1,h.2⟩));cases h
theorem yH(M:mW S P O)(W:CU S P O)(hP:HW S O){rs}:∀c code s s' x w G β a Q,
  mm S P n c code=Y->FT w G β a s n->(∀b,jH β a s G n b<=1)->kG O wl ai rs c s=Z (x,s')->
  (∀w' G' jE z,Pst n rs (jH β a s G n) w G x s' w' G' jE z->Q (Ki x) z w')->code.wp P Q a w
 |.skip,code,s,s',x,w,G,β,a,Q,g,r,q,B,o=>by
  refine vI ?_;simp only[kG,bE,cR]at B;obtain⟨rfl,rfl⟩:=B;unfold mm at g;split at g;rename_i p;rw[p];exact wp_skip (o w G β a ⟨s,r,Mv.refl q,rfl⟩);cases g
 |.region m draw uf,code,s,s',x,w,G,β,a,Q,g,r,q,B,o=>by
  refine vI ?_;unfold mm at g;split at g;rename_i id dZ d p;rw[p];unfold kG at B;cases draw with
  |none=>
   simp only[N9,E6,afo]at g;obtain⟨rfl,g⟩:=g;simp only at B;split at B;rename_i s1 wm;cases B;refine wp_region ?_;have:=J9 (Q:=Exit.noGoto Q) M dZ.toList m 0 w G β a s rfl g r q wm λw' G' jE z T F=>by
    obtain⟨J,E⟩:=T.clear uf;exact o w' G' jE z ⟨_,J,F.Ag E,rfl⟩
   rw[List.range_eq_range'];simpa using this;cases B
  |some cI=>
   simp only[N9,E6]at g;obtain⟨rfl,g⟩:=g;simp only at B;split at B;rename_i s1 wm;cases B;exact Q2 (Q:=Exit.noGoto Q) g M hP r q wm (λd=>⟨r.drawn d,λ_ _ _ h=>h.drawn⟩) λw' G' jE z T F=>by
    obtain⟨J,E⟩:=T.clear uf;exact o w' G' jE z ⟨_,J,F.Ag E,rfl⟩
   cases B
  cases g
 |.seq c1 c2,code,s,s',x,w,G,β,a,Q,g,r,q,B,o=>by
  rcases Yy g with⟨t,rfl,R⟩|⟨j,k,rfl,R⟩|⟨t,off,rfl,R⟩|⟨a1,b1,p,L,R⟩;unfold kG at B;cases l:kG O wl ai rs (.frz t) s with
  |none=>rw[l]at B;cases B|some y=>
   obtain⟨x1,s1⟩:=y;rw[l]at B;unfold kG at l;cases N:eG s.env t with
   |none=>rw[N]at l;cases l|fp j k=>rw[N]at l;cases l|val v=>
    rw[N]at l;simp only at l;cases hf:jN wl v s.st with
    |none=>rw[hf]at l;cases l|some y=>
     obtain⟨v',st'⟩:=y;rw[hf]at l;cases l;obtain⟨G',T,F⟩:=ala r q N hf;exact yH M W hP c2 code _ s' x w G' β a Q R T F.one B λw' G2 D a2 p=>o w' G2 D a2 (p.trans F)
  unfold kG at B;cases l:kG O wl ai rs (.Jv j k) s with
  |none=>rw[l]at B;cases B|some y=>
   obtain⟨x1,s1⟩:=y;rw[l]at B;unfold kG at l;cases I:s.bx[j]? with
   |none=>rw[I]at l;cases l|some aK=>
    rw[I]at l;simp only at l;cases N:aK[k]? with
    |none=>rw[N]at l;cases l|some v=>
     rw[N]at l;simp only at l;cases hf:jN wl v s.st with
     |none=>rw[hf]at l;cases l|some y=>
      obtain⟨v',st'⟩:=y;rw[hf]at l;cases l;obtain⟨G',T,F⟩:=agw r q I N hf;exact yH M W hP c2 code _ s' x w G' β a Q R T F.one B λw' G2 D a2 p=>o w' G2 D a2 (p.trans F)
  unfold kG at B;cases l:kG O wl ai rs (.rN t off) s with
  |none=>rw[l]at B;cases B|some y=>
   obtain⟨x1,s1⟩:=y;rw[l]at B;obtain⟨rfl,id,di,i,k,v,v',qS,qh,J,E,g3,g4,rfl⟩:=JA l;simp only at B;obtain⟨G',T,F⟩:=agz r q J E g3 g4;exact yH M W hP c2 code _ s' x w G' β a Q R T F.one B λw' G2 D a2 p=>o w' G2 D a2 (p.trans F)
  refine vI ?_;rw[p];refine wp_seq ?_;unfold kG at B;cases l:kG O wl ai rs c1 s with
  |none=>rw[l]at B;cases B|some y=>
   obtain⟨x1,s1⟩:=y;rw[l]at B;refine yH M W hP c1 a1 s s1 x1 w G β a _ L r q l λw' G' jE z C=>?_;cases x1 with
   |normal=>
    obtain⟨sr,J,E,g3⟩:=C;simp only at g3;subst g3;exact yH M W hP c2 b1 s1 s' x w' G' jE z _ R J E.one B λw2 G2 D a2 zK=>CW (o w2 G2 D a2 (zK.trans E))
   |exit id=>cases B;exact o w' G' jE z C|ret v=>cases B;exact o w' G' jE z C
 |.cond t ca c1 cb c2,code,s,s',x,w,G,β,a,Q,g,r,q,B,o=>by
  refine vI ?_;unfold mm at g;split at g;rename_i u a1 b1 p;rw[p];simp only[E6]at g;obtain⟨⟨TW,L⟩,R⟩:=g;unfold kG at B;have L8:=(VS r.yT TW).1;have I:∀b,wD s.env t=Z b->a.eval u=.bool b:=λb I=>by
   unfold wD at I;rw[I6]at I;split at I;rename_i b' sP;cases I;rw[sP]at L8;exact bJ.mR L8;cases I
  split at B;rename_i hr;obtain⟨J,E⟩:=FT.aqS r t ca;refine wp_cond_true (I _ hr) (yH M W hP c1 a1 _ s' x w G β a _ L J (λb=>adX (E b) (q b)) B λw' G' jE z p=>CW (o w' G' jE z (p.trans ((Mv.refl q).Ag E))));rename_i hr;obtain⟨J,E⟩:=FT.aqS r t cb;refine wp_cond_false (I _ hr) (yH M W hP c2 b1 _ s' x w G β a _ R J (λb=>adX (E b) (q b)) B λw' G' jE z p=>CW (o w' G' jE z (p.trans ((Mv.refl q).Ag E))));cases B;cases g
 |.block id c1,code,s,s',x,w,G,β,a,Q,g,r,q,B,o=>by
  refine vI ?_;unfold mm at g;split at g;rename_i j a1 p;rw[p];simp only[E6,cJ]at g;obtain⟨rfl,L⟩:=g;refine wp_block ?_;unfold kG at B;cases l:kG O wl ai rs c1 s with
  |none=>rw[l]at B;cases B|some y=>
   obtain⟨x1,s1⟩:=y;rw[l]at B;refine yH M W hP c1 a1 s s1 x1 w G β a _ L r q l λw' G' jE z C=>?_;cases x1 with
   |normal=>cases B;exact o w' G' jE z C|exit i=>
    simp only at B;simp only[Ki,Exit.inBlock];split at B;rename_i hi;cases B;rw[af hi];exact o w' G' jE z C;rename_i hi;cases B;rw[U hi];exact o w' G' jE z C
   |ret v=>cases B;exact o w' G' jE z C
  cases g
 |.loop c1,code,s,s',x,w,G,β,a,Q,g,r,q,B,o=>by
  refine vI ?_;unfold mm at g;split at g;rename_i a1 p;rw[p];unfold kG at B;exact Q5 (W wl ai rs c1 s x s' B a1 n g w G β a r q _ λw' G' jE z p=>CW (o w' G' jE z p));cases g
 |.exit id,code,s,s',x,w,G,β,a,Q,g,r,q,B,o=>by
  refine vI ?_;simp only[kG,bE,cR]at B;obtain⟨rfl,rfl⟩:=B;unfold mm at g;split at g;rename_i j p;rw[p];simp only[cJ]at g;subst g;exact wp_exit (o w G β a ⟨s,r,Mv.refl q,rfl⟩);cases g
 |.ret,code,s,s',x,w,G,β,a,Q,g,r,q,B,o=>by
  refine vI ?_;unfold mm at g;split at g;rename_i p;rw[p];unfold kG at B;split at B;rename_i v N;cases B;exact wp_ret (o w G β a ⟨s,r,Mv.refl q,N,rfl⟩);cases B;cases g
 |.frz t,code,s,s',x,w,G,β,a,Q,g,r,q,B,o=>by
  simp[mm]at g
 |.Jv j k,code,s,s',x,w,G,β,a,Q,g,r,q,B,o=>by
  simp[mm]at g
 |.rN t off,code,s,s',x,w,G,β,a,Q,g,r,q,B,o=>by
  simp[mm]at g
def V6(S:Nat->Option aQ)(P:Program)(sf:aQ):Bool:=
 match P.funcs[sf.Te]? with
 |some fn=>match fn.body with
  |some code => !(fn.name == "runtime.NumGoroutine") && mm S P fn.ntmps sf.body code && Ek P fn.results.toList sf.results && BY (Bm sf.results) && BY (y9 sf.results) && decide (sf.tP ≤ fn.ntmps)
  |none=>false
 |none=>false
def Q7(S:Nat->Option aQ)(P:Program):Prop:=∀f g,S f=Z g->V6 S P g=Y/\(f<100000->g.Te=f)
def Iz(b:Nat)(args:List AV)(vs:List Value)(k t:Nat):Nat:=if k<=t then (match args[t-k]?,vs[t-k]? with|some v,Z u=>iI b v u|_,_=>0) else 0
theorem Q8{w:World}{G:bT}(b):∀args vs k N,Q args=Q vs->k+Q args<=N->
  jy (Iz b args vs k) N=cV b args vs
 |[],[],k,N,_,_=>by
  have:jy (Iz b [] [] k) N=jy (λ_=>0) N:=sY λt _=>by simp[Iz]
  rw[this,Mz];rfl
 |v::args,u::vs,k,N,p,l=>by
  have I:=Q8 (w:=w) (G:=G) b args vs (k+1) N (by simpa using p) (by simp at l;omega);have:=y8 (f:=Iz b (v::args) (u::vs) k) (g:=Iz b args vs (k+1)) (d:=k) (n:=N) (by simp at l;omega) λt q=>by
    unfold Iz;by_cases m:k<=t;have j:k+1<=t:=(by omega);have o:t-k=(t-(k+1))+1:=(by omega);simp only[m,j,bz,o,List.getElem?_cons_succ];have j:¬k+1<=t:=(by omega);simp only[m,j,bC]
  have E:Iz b (v::args) (u::vs) k k=iI b v u:=by simp[Iz]
  have r:Iz b args vs (k+1) k=0:=by unfold Iz;rw[ah]
  rw[E,r,I]at this;simp only[cV];omega
 |[],_::_,_,_,h,_=>by simp at h|_::_,[],_,_,h,_=>by simp at h
end Ax
namespace Ax
open Go
variable {S:Nat->Option aQ}{P:Program}{O:sN}{wl ai n:Nat}
variable {w w':World}{G G':bT}{β jE:List wj}{a:Act}{s s':St}
theorem agA{fn rs v}(p:FT w G β a s n)(x:Ek P fn.results.toList rs=Y)(q:BY (Bm rs)=Y)(r:BY (y9 rs)=Y)(l:Du s rs=Z v):
  ∃u,(results fn a.tmps).run P w=.ok u w/\bJ w G v u/\∀b,iI b v u+dh b G.ls s.st<=jH β a s G n b:=by
 unfold Du at l;cases J:Ea s rs with
 |none=>rw[J]at l;cases l|some vs=>
  obtain⟨U,y,j,z⟩:=MI p _ rs vs x J;have m:=QV y;rw[J]at l;have g:∀b,cV b vs U+dh b G.ls s.st<=jH β a s G n b:=λb=>by
   have E:=z b;have B:=E3 (f:=λt=>dH b (eG s.env t) (oY a t)) (n:=n) (λt o=>by rw[p.lt t o];rfl) _ (CT q);have C:=E3 (f:=zd b β s.bx) (n:=Q s.bx) (λt o=>by
    unfold zd;rw[afl o];split;rename_i h;cases h
    rfl) _ (CT r)
   have D:=QW b β s.bx;unfold jH Ba;omega
  match vs,U,j,g,l,m with
  |[v1],[u],j,g,l,m=>
   cases l;refine⟨u,m,j.2 0 _ u rfl rfl,λb=>?_⟩;have:=g b;simp only[cV]at this;omega
  |[],U,j,g,l,m=>
   have:U=[]:=by have:=j.1;simpa using this.symm
   subst this;cases l;exact⟨_,m,.fC _ _ rfl λi c v h=>by simp at h,λb=>by have:=g b;simpa [iI,Ys] using this⟩
  |v1::L::vs,U,j,g,l,m=>
   cases l;match U,j,g,m with
   |[],j,_,_=>have:=j.1;simp at this|[_],j,_,_=>have:=j.1;simp at this|F::I::U,j,g,m=>
    exact⟨_,m,.fC _ _ (by simpa using j.1) λi c v h k=>j.2 i c v h (by simpa using k),λb=>by have:=g b;simpa [iI,Ys] using this⟩
  |[_],[],j,_,_,_=>have:=j.1;simp at this|[_],_::_::_,j,_,_,_=>have:=j.1;simp at this
theorem Ob{m:Mode}{st qS k v z u A}(o:mH w G st)(x:eS (m.BC (Q st) wl) (m.uk (Q st) ai) st qS)(g:m.mJ st v qS=Z (z,k))(D:bJ w' G' v u)(B:mH w' G' qS)(p:Mv w G A w' G' (λb=>iI b v u+dh b G'.ls qS)):∃j,bJ w' j z u/\mH w' j k/\Mv w G A w' j (λb=>iI b z u+dh b j.ls k):=by
 have l:(m=.pure\/m=.nC)->MA (Q st) qS:=λh=>by
  have y:m.uk (Q st) ai=Q st:=by rcases h with rfl|rfl<;>rfl
  rw[y]at x;exact x.ai (Q st) (aal _) (aal _) o.aqE
 have cut:v.aH=Y->MA (Q st) qS->∃j,bJ w' j v u/\mH w' j (qS.take (Q st))/\Mv w G A w' j (λb=>iI b v u+dh b j.ls (qS.take (Q st))):=by
  intro q y;have C:∀b,iI b v u+dh b (G'.cut (Q st)).ls (qS.take (Q st))<=iI b v u+dh b G'.ls qS:=λb=>by
   have:=MB b (Q st) G'.ls qS;simp only[bT.cut];omega
  refine⟨G'.cut (Q st),D.J3 (lC _ v q),B.J3 y,?_⟩;exact⟨agl p.lY (by rw[o.len];exact aal _),λb r=>adX (C b) (p.iI b r),λb=>adX (C b) (p.one b),λb r E=>p.BJ b r E,p.size,p.os,p.out⟩
 cases m with
 |Bw=>
  simp only[Mode.mJ,bE,cR]at g;obtain⟨rfl,rfl⟩:=g;exact⟨G',D,B,p⟩
 |pure=>
  simp only[Mode.mJ]at g;split at g;rename_i q;cases g;obtain⟨j,c1,c2,c3⟩:=cut q (l (.inl rfl));have:qS.take (Q st)=st:=by
   apply List.ext_getElem?;intro i;rw[abv];split;rename_i t;exact x.low i (by simpa [Mode.BC] using t) t;rename_i t;rw[afl (by omega)]
  rw[this]at c2 c3;exact⟨j,c1,c2,c3⟩;cases g
 |nC=>
  simp only[Mode.mJ]at g;split at g;rename_i q;cases g;exact cut q (l (.inr rfl));cases g
theorem T6(w G k):ny w G (aag k ⟨K,[]⟩) (aag k []) where
 len:=by simp
 box:=λj p g l m=>by
  rw[List.getElem?_replicate]at l m;split at l;rename_i o;rw[af o]at m;cases l;cases m;exact⟨⟨rfl,λi c v h=>by simp at h⟩,rfl,.inl ⟨rfl,rfl⟩⟩;cases l
theorem Kk(b):∀k,ja b (aag k ⟨K,[]⟩) (aag k [])=0
 |0=>by simp[ja]|k+1=>by simp[List.replicate_succ,ja,Kk b k,cV]
theorem Fe(hT:Q7 S P)(hO:mW S P O)(hL:CU S P O)(hP:HW S O)(hK:wO O){f sf}(hf:S f=Z sf){args st g v}(k:eY O wl ai sf args st=Z (v,g)):
  Yp P sf.Te/\(f<100000->sf.Te=f)/\
  ∀w G vs,dm w G args vs->mH w G st->(∀b,cV b args vs+dh b G.ls st<=1)->
   Calls P sf.Te vs.toArray w λe w'=>∃u G',e=.returned u/\bJ w' G' v u/\mH w' G' g/\
    Mv w G (λb=>cV b args vs+dh b G.ls st) w' G' (λb=>iI b v u+dh b G'.ls g):=by
 obtain⟨o,F⟩:=hT f sf hf;unfold V6 at o;split at o;rename_i fn z;split at o;rename_i code q;simp only[E6,afo,aC]at o;obtain⟨⟨⟨⟨⟨E,vm⟩,Eo⟩,U⟩,T⟩,hnp⟩:=o;refine⟨⟨fn,z,E,by rw[q];rfl⟩,F,λw G vs hR hI h1=>?_⟩;unfold eY at k;split at k;rename_i hlen;split at k;rename_i x s y;split at k;rename_i v1 L;refine calls_of_wp z q ?_;have B:Q vs=Q args:=hR.1.symm;have fM:(vs.toArray++ako (fn.ntmps-vs.toArray.size) undef).size=fn.ntmps:=by
  simp only[Array.size_append,List.size_toArray,Array.size_replicate];omega
 let j:Act:={ tmps:=vs.toArray++ako (fn.ntmps-vs.toArray.size) undef,defers:=[] }
 have r:∀t u,vs[t]?=Z u->oY j t=u:=λt u l=>by
  have R:=(aad.1 l).1;have:j.tmps[t]?=Z u:=by
   show (vs.toArray++ako (fn.ntmps-vs.toArray.size) undef)[t]?=Z u;rw[Array.getElem?_append];simp[R,(aad.1 l).2]
  simp[oY,this]
 have p:∀t,eG (vz sf args st).env t=if t∈sf.uf then .none else (match args[t]? with|some v=>.val v|none=>.none):=λt=>by
  simp only[vz,Aa,My,Nat.zero_le,bz,Nat.sub_zero]
  rfl
 have M:FT w G (aag sf.BB ⟨K,[]⟩) j (vz sf args st) fn.ntmps:=by
  refine⟨rfl,by show fn.ntmps<=(vs.toArray++ako (fn.ntmps-vs.toArray.size) undef).size;omega,λt=>?_,λt ht=>?_,hI,T6 w G sf.BB⟩;rw[p];split
  trivial
  split;rename_i v0 h;have R:t<Q vs:=by rw[B];exact(aad.1 h).1
  have l:=aae R;rw[r t _ l];exact hR.2 t v0 _ h l
  trivial
  rw[p,afl (by omega)];simp
 have m:∀b,jH (aag sf.BB ⟨K,[]⟩) j (vz sf args st) G fn.ntmps b<=cV b args vs+dh b G.ls st:=λb=>by
  have e1:=Q8 (w:=w) (G:=G) b args vs 0 fn.ntmps B.symm (by omega);have e2:jy (λt=>dH b (eG (vz sf args st).env t) (oY j t)) fn.ntmps<=jy (Iz b args vs 0) fn.ntmps:=IZ λt _=>by
   rw[p];simp only[Iz,Nat.zero_le,bz,Nat.sub_zero];split;simp[dH];cases h:args[t]? with
   |none=>simp[dH]|some v0=>
    have R:t<Q vs:=(by rw[B];exact(aad.1 h).1);have l:=aae R;rw[r t _ l,l];exact aal _
  have e3:=Kk b sf.BB;unfold jH Ba;show jy (λt=>dH b (eG (vz sf args st).env t) (oY j t)) fn.ntmps+ja b (aag sf.BB ⟨K,[]⟩) (aag sf.BB [])+dh b G.ls st<=_;omega
 have h0:∀b,jH (aag sf.BB ⟨K,[]⟩) j (vz sf args st) G fn.ntmps b<=1:=λb=>adX (m b) (h1 b);refine yH hO hL hP sf.body code _ s x w G _ j _ vm M h0 y λw' G' jE a' hp=>?_;obtain⟨sr,J,g2,C⟩:=hp;have D:eS (sf.mode.BC (Q st) wl) (sf.mode.uk (Q st) ai) st s.st:=mV hK y;have mJ:Du sr sf.results=Z v1->s.st=sr.st->a'.defers=[]/\∃u,(results fn a'.tmps).run P w'=.ok u w'/\∃u' G',(Ending.returned u)=.returned u'/\bJ w' G' v u'/\mH w' G' g/\
   Mv w G (λb=>cV b args vs+dh b G.ls st) w' G' (λb=>iI b v u'+dh b G'.ls g):=by
  intro W iX;obtain⟨u,r1,r2,r3⟩:=agA J Eo U T W;have N:Mv w G (λb=>cV b args vs+dh b G.ls st) w' G' (λb=>iI b v1 u+dh b G'.ls s.st):=by
   rw[iX];have C:=g2.Ag r3;exact C.aa6 m (λb hb=>adX (C.iI b hb) (m b)) C.one
  have I:mH w' G' s.st:=by rw[iX];exact J.inv
  obtain⟨G2,c1,c2,c3⟩:=Ob hI D k r2 I N;exact⟨J.QS,u,r1,u,G2,rfl,c1,c2,c3⟩
 cases x with
 |normal=>
  simp only at C;subst C;exact mJ L rfl
 |exit id=>cases L|ret v2=>
  cases L;exact mJ C.1 C.2
 cases k;cases k;cases k;cases o;cases o
theorem Kl{j args st g v}(h:eY O wl ai j args st=Z (v,g))(k:j.mode=.pure):v.aH=Y/\g=st:=by
 unfold eY at h;split at h;split at h;split at h;rw[k]at h;simp only[Mode.mJ]at h;split at h;rename_i l;cases h;exact⟨l,rfl⟩;cases h;cases h;cases h;cases h
theorem xW(M:Q7 S P)(D:mW S P O)(W:CU S P O)(F:HW S O)(J:wO O){f sf}(R:S f=Z sf){args st st' v}(j:gu O wl ai sf args st=Z (v,st')):
  Yp P sf.Te/\(f<100000->sf.Te=f)/\
  ∀w G vs,dm w G args vs->mH w G st->(∀b,cV b args vs+dh b G.ls st<=1)->
   Calls P sf.Te vs.toArray w λe w'=>∃u G',e=.returned u/\bJ w' G' v u/\mH w' G' st'/\
    Mv w G (λb=>cV b args vs+dh b G.ls st) w' G' (λb=>iI b v u+dh b G'.ls st'):=by
 unfold gu at j;split at j;rename_i T;simp only[A7,E6,aC]at T;obtain⟨hm,y⟩:=T;simp only[Option.map_eq_some_iff]at j;obtain⟨⟨v0,st0⟩,N,hx⟩:=j;cases hx;obtain⟨QD,rfl⟩:=Kl N hm;obtain⟨h1,h2,h3⟩:=Fe M D W F J R N;refine⟨h1,h2,λw G vs I k z=>?_⟩;have m:∀(i:Nat) c,args[i]?=Z c->c.under 0=Y:=λi c j=>lC 0 c ((js args).1 y c (eL j));have p:mH w (G.cut 0) []:=by
  have:=k.J3 (n:=0) λid ob h=>by omega
  simpa using this
 have g:∀b,dh b (G.cut 0).ls []=0:=λb=>by simp[dh]
 refine(h3 w (G.cut 0) vs ⟨I.1,λi c v E e2=>(I.2 i c v E e2).J3 (m i c E)⟩ p λb=>by rw[g b];have:=z b;omega).mono λe w' he=>?_;obtain⟨u,G',rfl,r1,r2,r⟩:=he;have U:∀b,dh b G'.ls []=0:=λb=>by simp[dh]
 have L:xO w G w' ⟨G.ls,G'.qi⟩:=⟨λb o t=>r.lY.imm b o t,λid loc x=>⟨loc,x,aal _,λ_=>rfl⟩⟩;have C:∀b,b<w.heap.size->cV b args vs=0->fY w G w' ⟨G.ls,G'.qi⟩ b:=λb l B=>by
  have:=r.BJ b l (by rw[B,g b]);exact this
 have q:mH w' ⟨G.ls,G'.qi⟩ st:=BO k L rfl (λb l=>C b (k.held l) (by have:=z b;omega)) r2.qT;have fR:bJ w' ⟨G.ls,G'.qi⟩ v0 u:=by
  have B:=r1.J3 (n:=0) (lC 0 v0 QD);exact B.lY ⟨λb o t=>⟨rfl,t⟩,λid loc x=>by simp[bT.cut]at x⟩ λb _=>⟨rfl,rfl⟩
 refine⟨u,⟨G.ls,G'.qi⟩,rfl,fR,q,L,λb l=>?_,λb=>?_,λb l B=>C b l (by omega),r.size,r.os,r.out⟩;have:=r.iI b l;rw[U b,g b]at this;show iI b v0 u+dh b G.ls st<=_;omega;have h4:=r.one b;rw[U b]at h4;show iI b v0 u+dh b G.ls st<=1;by_cases l:b<w.heap.size;have h5:=r.iI b l;rw[U b,g b]at h5;have:=z b;omega;have:dh b G.ls st=0:=by
  rcases agq (dh b G.ls st) with h|h;exact h;exact bH (k.held h) l
 omega;exact Fe M D W F J R j
theorem MM(r:Q7 S P):∀n,mW S P (uP S n)/\CU S P (uP S n)
 |0=>⟨λwl ai f args st v p h=>by simp[uP]at h,λwl ai rs c s x s' h=>by simp[uP]at h⟩
 |n+1=>by
  obtain⟨D,I⟩:=MM r n;refine⟨λwl ai f args st v p h=>?_,λwl ai rs c s x s' h code m B w G β a N M q k=>?_⟩;simp only[uP]at h;split at h;rename_i R j;exact⟨R,j,xW r D I (QZ S n) (MD S n) j h⟩;cases h;simp only[uP]at h;refine Q3 ?_;cases l:kG (uP S n) wl ai rs c s with
  |none=>rw[l]at h;cases h|some y=>
   obtain⟨F,E⟩:=y;rw[l]at h;refine yH D I (QZ S n) c code s E F w G β a _ B N M l λw' G' jE g o=>?_;cases F with
   |normal=>
    obtain⟨sr,L,z,C⟩:=o;simp only at C;subst C;exact I wl ai rs c E x s' h code m B w' G' jE g L z.one q λT J t W U=>k T J t W (U.trans z)
   |exit id=>cases h;exact k w' G' jE g o|ret v=>cases h;exact k w' G' jE g o
end Ax
namespace Ax
open Go
variable {P:Program}{w w':World}{G G':bT}
def I9(P:Program)(ts:List TypeId):Bool:=ts.all λt=>decide (t<P.types.size)&&match P.underlying t with
 |some .bool|some (.int _)|some .string=>Y|some (.slice e)=>ts.contains e&&V (0<P.cellsOf e)|some (.struct fs)=>fs.toList.all λf=>ts.contains f.type|_=>X
mutual
inductive Ty (P:Program):TypeId->List AV->Prop
 |bool {t:TypeId} (h:P.underlying t=some .bool) (b:Bool):Ty P t [.bool b]
 |int {t:TypeId} {k:IntKind} (h:P.underlying t=some (.int k)) (n:Int) (h1:k.min<=n) (h2:n<=k.max):Ty P t [.int k n]
 |str {t:TypeId} (h:P.underlying t=some .string) (l:List UInt8) (hn:l.length<=maxLen):Ty P t [.str l]
 |aF {t e:TypeId} (h:P.underlying t=some (.slice e)):Ty P t [.aF]
 |pP {t e:TypeId} (h:P.underlying t=some (.slice e)):Ty P t [.pP]
 |eE {t e:TypeId} (h:P.underlying t=some (.slice e)) (rows:List (List AV)) (hn:rows.length<=maxLen) (hl:∀r∈rows,r.length=P.cellsOf e) (h2:∀r∈rows,Ty P e r):Ty P t [.eE (P.cellsOf e) rows]
 |abw {t:TypeId} {fs:Array Field} (h:P.underlying t=some (.struct fs)) (as:List AV) (h2:abx P fs.toList as):Ty P t as
inductive abx (P:Program):List Field->List AV->Prop
 |nil:abx P [] []
 |cons {f:Field} {fs:List Field} {as bs:List AV} (hl:as.length=P.cellsOf f.type) (h1:Ty P f.type as) (h2:abx P fs bs):abx P (f::fs) (as++bs)
end
abbrev G0:bT:=⟨[],λ_=>K⟩
def DY(as:List AV):Prop:=AV.fT as=Y/\AV.aD as=Y/\AV.bG as=Y
theorem wo{a}(h:a.dw=Y)(g:a.aH=Y)(l:a.cT=Y):DY [a]:=by
 refine⟨?_,?_,?_⟩<;>simp[AV.fT,AV.aD,AV.bG,h,g,l]
theorem Oc{as bs}(h:DY as)(k:DY bs):DY (as++bs):=by
 obtain⟨j,l,m⟩:=h;obtain⟨o,v,z⟩:=k;refine⟨(dG _).2 λc g=>?_,(js _).2 λc g=>?_,?_⟩;rcases aaw.1 g with h|h;exact(dG _).1 j c h;exact(dG _).1 o c h;rcases aaw.1 g with h|h;exact(js _).1 l c h;exact(js _).1 v c h;simp only[AV.bG,List.all_append,E6]at *;exact⟨m,z⟩
theorem ze{a v}(h:bJ w G a v):dm w G [a] [v]:=⟨rfl,λi c u g j=>by
 cases i with
 |zero=>simp at g j;subst g;subst j;exact h|succ i=>simp at g⟩
theorem agC{b o}(h:b<w.heap.size):Imm w G0 b o:=⟨h,λp j=>by cases j⟩
section
variable {H:Type}{enc:TypeId×Value->H}{ts:List TypeId}
theorem MN{cs:List Value}:∀fs o,(∀j f,fs[j]?=Z f->f.offset=o+((fs.take j).map λf=>P.cellsOf f.type).sum)->Q cs=o+(fs.map λf=>P.cellsOf f.type).sum->
  (∀f∈fs,∃as,dm w G0 as ((cs.drop f.offset).take (P.cellsOf f.type))/\Ty P f.type as/\DY as)->∃as,dm w G0 as (cs.drop o)/\abx P fs as/\DY as
 |[],o,_,k,_=>by
  simp at k;have:cs.drop o=[]:=List.drop_eq_nil_of_le (by omega);rw[this];exact⟨[],⟨rfl,λi c v h=>by simp at h⟩,.nil,rfl,rfl,rfl⟩
 |f::fs,o,z,k,p=>by
  have E:f.offset=o:=by have:=z 0 f rfl;simpa using this
  simp only[aaZ,apY]at k;obtain⟨bs,q,r,t⟩:=MN fs (o+P.cellsOf f.type) (λj g U=>by
   have:=z (j+1) g (by simpa using U);simp only[List.take_succ_cons,aaZ,apY]at this;omega) (by omega) (λg U=>p g (by simp[U]))
  obtain⟨as,l,x,y⟩:=p f (by simp);rw[E]at l;have m:Q as=P.cellsOf f.type:=by
   rw[l.1,List.length_take,List.length_drop];omega
  refine⟨as++bs,?_,.cons m x r,Oc y t⟩;have:cs.drop o=(cs.drop o).take (P.cellsOf f.type)++cs.drop (o+P.cellsOf f.type):=by
   rw[<-List.drop_drop,List.take_append_drop]
  rw[this];exact dm.append l q
theorem agD(hK:Kids P (· < P.types.size))(hp:I9 P ts=Y):∀n t cs x,t∈ts->DataW.trod enc P w 0 (λ_=>Y) Y n t cs=Z x->
  ∃as,dm w G0 as cs/\Ty P t as/\DY as:=by
 intro n;induction n with
 |zero=>intro t cs x _ h;simp[DataW.trod]at h|succ n ih=>
  intro t cs x ht h;have T:=aam.1 hp t ht;simp only[E6,aC]at T;obtain⟨bK,T⟩:=T;split at T;rename_i l;obtain⟨b,rfl,rfl⟩:=DataW.trod_bool l h;exact⟨[.bool b],ze (.bool b),.bool l b,wo rfl rfl rfl⟩;rename_i k l;obtain⟨m,rfl,rfl,hw⟩:=DataW.trod_int l h;simp only[Lit.wf,E6,aC]at hw;exact⟨[.int k m],ze (.int k m),.int l m hw.1 hw.2,wo rfl rfl rfl⟩;rename_i l;obtain⟨s,rfl,rfl,kO⟩:=DataW.trod_string l h;exact⟨[.str s.data.toList],ze (.str _ s rfl),.str l _ (by simpa using kO),wo rfl rfl rfl⟩;rename_i e l;simp only[E6,ahb,aC]at T;obtain⟨he,fM⟩:=T;rcases DataW.trod_slice l h with⟨rfl,rfl⟩|⟨a,len,cap,C,BS,m,W,rfl,rfl,_,hlc,oL,hel,aq3,aa4,_⟩;exact⟨[.aF],ze .aF,.aF l,wo rfl rfl rfl⟩;cases W;by_cases iK:cap=0;subst iK;have:len=0:=by omega
  subst this;exact⟨[.pP],ze (.pP a),.pP l,wo rfl rfl rfl⟩;have iF:∀i,i<cap->∃q y,w.cells? 0 (a.add (i*P.cellsOf e)) (P.cellsOf e)=Z q/\DataW.trod enc P w 0 (λ_=>Y) Y n e q=Z y:=by
   intro i p;by_cases hil:i<len;have o:=aq3 i hil;have z:∃y,C[i]?=Z y:=⟨_,aae (by omega)⟩;obtain⟨y,F⟩:=z;rw[F,aaf]at o;obtain⟨q,E,B⟩:=o;exact⟨q,y,E,B⟩;obtain⟨uq,g⟩:=aa4 rfl;have o:=g (i-len) (by omega);rw[show len+(i-len)=i by omega]at o;have z:∃y,BS[i-len]?=Z y:=⟨_,aae (by omega)⟩;obtain⟨y,F⟩:=z;rw[F,aaf]at o;obtain⟨q,E,B⟩:=o;exact⟨q,y,E,B⟩
  have J:a.spot=K:=by
   obtain⟨q,y,E,_⟩:=iF 0 (by omega);obtain⟨_,g2,g3⟩:=World.cells?_some E;have D:=g3 0 fM;have:∃v,q[0]?=Z v:=⟨_,aae (by omega)⟩;obtain⟨v,I⟩:=this;rw[I]at D;have:=World.cell?_spot D;simpa [Addr.add] using this
  obtain⟨lz,off,spot⟩:=a;simp only at J;subst J;have Yb:∀off k,Addr.add ⟨lz,off,K⟩ k=⟨lz,off+k,K⟩:=λoff k=>by
   unfold Addr.add;split;rename_i D;subst D;rfl
   rfl
  have Q9:∀i,i<len->∃r,(Q r=P.cellsOf e/\Ty P e r/\DY r)/\∀(j:Nat) c,r[j]?=Z c->∃v,w.cell? ⟨lz,off+(i*P.cellsOf e+j),K⟩=Z v/\bJ w G0 c v:=by
   intro i p;obtain⟨q,y,E,B⟩:=iF i (by omega);obtain⟨_,g2,g3⟩:=World.cells?_some E;obtain⟨r,r1,r2,r3⟩:=ih e q y he B;have uq:Q r=P.cellsOf e:=(by rw[r1.1,g2]);refine⟨r,⟨uq,r2,r3⟩,λj c hc=>?_⟩;have hj:j<P.cellsOf e:=(by rw[<-uq];exact(aad.1 hc).1);have D:=g3 j hj;have I:∃v,q[j]?=Z v:=⟨_,aae (by omega)⟩;obtain⟨v,I⟩:=I;rw[I,Yb,Yb]at D;refine⟨v,by rw[<-D];congr 2;omega,r1.2 j c v hc I⟩
  have key:∀m,m<=len->∃rows:List (List AV),Q rows=m/\∀(i:Nat) r,rows[i]?=Z r->(Q r=P.cellsOf e/\Ty P e r/\DY r)/\∀(j:Nat) c,r[j]?=Z c->∃v,w.cell? ⟨lz,off+(i*P.cellsOf e+j),K⟩=Z v/\bJ w G0 c v:=by
   intro m;induction m with
   |zero=>intro _;exact⟨[],rfl,λi r h=>by simp at h⟩|succ m ihm=>
    intro W;obtain⟨rows,l1,R⟩:=ihm (by omega);obtain⟨r,g⟩:=Q9 m (by omega);refine⟨rows++[r],by simp[l1],λi r' p=>?_⟩;by_cases him:i<m;rw[aaj (by omega)]at p;exact R i r' p;rw[List.getElem?_append_right (by omega)]at p;have:i-Q rows=0:=by
     rcases agq (i-Q rows) with h|h;exact h;rw[afl (by simp;omega)]at p;cases p
    rw[this]at p;simp at p;subst p;have:i=m:=by omega
    subst this;exact g
  obtain⟨rows,l1,R⟩:=key len (aal _);have L:∀r∈rows,Q r=P.cellsOf e/\Ty P e r/\DY r:=λr g=>by
   obtain⟨i,p,rfl⟩:=aav.1 g;exact(R i _ (aae p)).1
  have fR:bJ w G0 (.eE (P.cellsOf e) rows) (.slice (Z ⟨lz,off,K⟩) (Q rows) cap):=by
   refine .eE (P.cellsOf e) rows ⟨lz,off,K⟩ cap rfl (by omega) ?_ (λr g=>(L r g).2.2.1) (λr g=>(L r g).2.2.2.1) (λr g=>(L r g).2.2.2.2) (λi r j c o z=>?_) (λi r j c v o z U=>?_);simp only[cy,aam,cJ];exact λr g=>(L r g).1;obtain⟨v,E,_⟩:=(R i r o).2 j c z;exact⟨agC (World.block_lt_of_cell? w ⟨lz,off+(i*P.cellsOf e+j),K⟩ E:lz<w.heap.size),v,E⟩;obtain⟨v',E,B⟩:=(R i r o).2 j c z;rw[E]at U;cases U;exact B
  rw[l1]at fR;exact⟨[.eE (P.cellsOf e) rows],ze fR,(.eE l rows (by omega) (λr g=>(L r g).1) (λr g=>(L r g).2.1)),wo rfl rfl rfl⟩;rename_i fs l;simp only[aam,ahb,aC]at T;obtain⟨xs,m,W,rfl,hl,N,hf⟩:=DataW.trod_struct l h;cases W;obtain⟨_,k2,k3⟩:=hK.struct bK l;obtain⟨as,o,z,U⟩:=MN (P:=P) (w:=w) (cs:=cs) fs.toList 0 (λj f hf=>by rw[k3 j f hf];omega) (by rw[hl,k2];omega) λf M=>by
   obtain⟨i,p,rfl⟩:=aav.1 M;have hg:fs.toList[i]?=Z fs.toList[i]:=aae p;have o:=hf i fs.toList[i] (by simp);have F:∃y,xs[i]?=Z y:=⟨_,aae (by rw[N];simpa using p)⟩;obtain⟨y,F⟩:=F;rw[F]at o;exact ih _ _ y (T _ M) o
  exact⟨as,by simpa using o,.abw l as z,U⟩;cases T
def TyV(P:Program)(t:TypeId)(a:AV):Prop:=(∃fs as,P.underlying t=Z (.struct fs)/\a=.agg as/\Ty P t as)\/((∀fs,P.underlying t≠Z (.struct fs))/\Ty P t [a])
def agE(P:Program):List TypeId->List AV->Prop
 |[],[]=>True|t::ts,a::as=>TyV P t a/\agE P ts as|_,_=>False
theorem aby(J:Kids P (· < P.types.size))(x:I9 P ts=Y){r base t v d ps}(y:t∈ts)(q:Value.okWide P w r base t v)(h:DataW.Trod enc P w 0 (λ_=>Y) Y t v d ps):∃a,bJ w G0 a v/\TyV P t a/\a.dw=Y:=by
 obtain⟨n,B⟩:=h;obtain⟨as,j,m,o⟩:=agD J x n t _ _ y B;have one:v.cells = #[v]->(∀fs,P.underlying t≠Z (.struct fs))->∃a,bJ w G0 a v/\TyV P t a/\a.dw=Y:=by
  intro z D;rw[z]at j;obtain⟨p,E⟩:=j;match as,p,E,m,o with
  |[a],_,E,m,o=>exact⟨a,E 0 a v rfl rfl,.inr ⟨D,m⟩,by have:=o.1;simpa [AV.fT] using this⟩
 have T:=aam.1 x t y;simp only[E6,aC]at T;obtain⟨_,T⟩:=T;split at T;rename_i g;obtain⟨b,rfl⟩:=WideShapes.okWide_bool g q;exact one rfl λfs h=>by rw[g]at h;cases h
 rename_i k g;obtain⟨b,rfl⟩:=WideShapes.okWide_int g q;exact one rfl λfs h=>by rw[g]at h;cases h
 rename_i g;obtain⟨b,rfl⟩:=WideShapes.okWide_string g q;exact one rfl λfs h=>by rw[g]at h;cases h
 rename_i e g;obtain⟨a,l,c,rfl⟩:=WideShapes.okWide_slice g q;exact one rfl λfs h=>by rw[g]at h;cases h
 rename_i fs g;obtain⟨C,rfl,_⟩:=WideShapes.okWide_struct g q;refine⟨.agg as,.agg as C (by simpa [Value.cells] using j.1) λi c v p E=>j.2 i c v p (by simpa [Value.cells] using E),.inl ⟨fs,as,g,rfl,m⟩,?_⟩;simp only[AV.dw];exact o.1;cases T
theorem MO(J:Kids P (· < P.types.size))(g:I9 P ts=Y){r base}:∀{U:List TypeId}{vs:List Value}{D:List _}{ps:List MemPlace},(∀t∈U,t∈ts)->
  (∀(j:Nat) t v,U[j]?=Z t->vs[j]?=Z v->Value.okWide P w r base t v)->DataW.TrodAll enc P w 0 (λ_=>Y) Y U vs D ps->∃as,dm w G0 as vs/\agE P U as/\AV.fT as=Y
 |[],[],[],_,_,_,_=>⟨[],⟨rfl,λi c v h=>by simp at h⟩,trivial,rfl⟩
 |t::U,v::vs,d::D,ps,k,l,h=>by
  obtain⟨p,q,C,F,rfl⟩:=h;obtain⟨a,m,W,o⟩:=aby J g (k t (by simp)) (l 0 t v rfl rfl) C;obtain⟨as,B,x,y⟩:=MO J g (λt I=>k t (by simp[I])) (λj t v E z=>l (j+1) t v (by simpa using E) (by simpa using z)) F;exact⟨a::as,dm.cons m B,⟨W,x⟩,by simp[AV.fT,o,y]⟩
 |[],_::_,_,_,_,_,h=>h.elim|[],[],_::_,_,_,_,h=>h.elim|_::_,[],_,_,_,_,h=>h.elim|_::_,_::_,[],_,_,_,h=>h.elim
theorem DZ(J:Kids P (· < P.types.size))(o:∀t e,t<P.types.size->P.underlying t=Z (.slice e)->0<P.cellsOf e){F}(g:∀b,b<w.heap.size->w'.heap[b]?=w.heap[b]?):∀{U:List TypeId}{vs:List Value}{D:List _}{ps:List MemPlace},(∀t∈U,t<P.types.size)->
  DataW.TrodAll enc P w 0 (λ_=>Y) Y U vs D ps->(∀p∈ps,F p.block=Y)->DataW.TrodAll enc P w' 0 F Y U vs D ps
 |[],[],[],_,_,h,_=>h|t::U,v::vs,d::D,ps,m,h,k=>by
  obtain⟨p,q,⟨n,j⟩,r,rfl⟩:=h;refine⟨p,q,⟨n,DataW.trod_stays J (fun {t e}=>o t e) (λh=>by cases h) (m t (by simp)) j (λx l=>?_) λx l=>k x (by simp[l])⟩,DZ J o g (λt y=>m t (by simp[y])) r (λx l=>k x (by simp[l])),rfl⟩;have R:=DataW.trod_lt n t _ _ j x l;cases x with
  |cell b off=>simp only[World.sameAt,World.cell?,g b R]|map b=>exact g b R
 |[],_::_,_,_,_,h,_=>h.elim|[],[],_::_,_,_,h,_=>h.elim|_::_,[],_,_,_,h,_=>h.elim|_::_,_::_,[],_,_,h,_=>h.elim
theorem abA(w):mH w G0 []:=⟨rfl,λid o loc h=>by simp at h,λb p h=>by cases h⟩
theorem Od{m}(g:w'.os=w.os)(j:w'.output=w.output)(l:∀b,b<w.heap.size->w'.heap[b]?=w.heap[b]?):w.keptBut w' m:=by
 refine⟨g,j,λi h=>?_⟩;rw[l i h];have:=Array.getElem?_eq_getElem h;rw[this];cases w.heap[i] with
 |cells c t fr=>exact⟨rfl,rfl,rfl,λ_ _=>rfl⟩|map E clock=>exact .inr ⟨rfl,rfl⟩|_=>rfl
theorem Ra(_hsz:w.heap.size<=w'.heap.size)(l:∀b,b<w.heap.size->w'.heap[b]?=w.heap[b]?)(a)(h:a.block<w.heap.size):w'.frozen? a=w.frozen? a:=by
 simp only[World.frozen?,l a.block h]
end
end Ax
namespace Ax
open Go Go.ChangeShapes
variable {P:Program}{w w':World}{G G':bT}{H:Type}{enc:TypeId×Value->H}
theorem abB{f:Func}{s:ChangeSpec}{oB fresh h zf W g args D R jh tb}(hK:Kids P (· < P.types.size))(hz:∀t e,t<P.types.size->P.underlying t=Z (.slice e)->0<P.cellsOf e)(m:∀t∈f.params.toList,t<P.types.size)(I:DataW.Whole enc P f.params.toList s.vars oB W args.toList D R jh)(B:s.vars=[])(J:f.resultTypes = #[tb])(l:P.underlying tb=Z .bool)(hr:(s.fn H D).results=[.lit (.bool Y)])(ha:(s.fn H D).args=D)(Eb:(s.fn H D).vars=[])(h1:g.os=W.os)(h2:g.output=W.output)(h4:W.heap.size<=g.heap.size)(v:∀b,b<W.heap.size->g.heap[b]?=W.heap[b]?):
  s.post enc P f oB fresh h zf W args (.bool Y) g:=by
 have z:=I;obtain⟨p,q,T,y,rfl,M,hn⟩:=z;rw[B]at y;cases R with
 |cons _ _=>exact y.elim|nil=>
  have hq:q=[]:=y;subst hq;simp only[afB]at I M hn;have iX:∀F:Nat->Bool,(∀x∈p,F x.block=Y)->DataW.TrodAll enc P g 0 F Y f.params.toList args.toList D p:=λF oQ=>DZ hK hz v m T oQ;have N:∀x∈p,x.block<W.heap.size:=DataW.TrodAll.lt T;have k:∀x∈p,(λb=>decide (b<W.heap.size)) x.block=Y:=λx C=>by simpa using N x C
  have uq:(Value.bool Y).resultList f.resultTypes.size=[.bool Y]:=by rw[J];rfl
  have L:∀(b:Nat) (F:Nat->Bool) (U:Bool),DataW.TrodAll enc P g b F U f.resultTypes.toList ((Value.bool Y).resultList f.resultTypes.size) (s.fn H (D++[])).results []:=λb F U=>by
   rw[afB,hr,uq,J];exact⟨[],[],⟨1,by simp[DataW.trod,l,Value.cells]⟩,rfl,rfl⟩
  refine⟨D,[],p,[],p,[],I,L _ _ _,by rw[afB,ha];exact iX _ k,by rw[B,afB,Eb];rfl,Od h1 h2 v,λ_=>?_⟩;refine⟨λj t r E o=>?_,[DataW.lit (.bool Y)]++D,[],p,⟨p,[],?_,(by rw[B];exact(rfl:DataW.TrodVars enc P g (λ_=>Y) [] [] [])),by simp,?_,?_⟩,?_⟩;rw[J]at E;rw[uq]at o;cases j with
  |zero=>
   simp at E o;subst E;subst o;exact RowKit.okWide_bool_mk l Y
  |succ j=>simp at E
  have:=trodAll_append (iX _ (λ_ _=>rfl)) (L 0 (λ_=>Y) Y);simpa [hr] using this;intro b off hp;rw[Ra h4 v _ (N _ hp)];exact M b off hp;exact hn;intro x C _;exact C
theorem T8{S}(j:Q7 S P):mW S P (bh S):=λwl ai f args st v g h=>by
 obtain⟨n,k⟩:=(yX S).call _ _ _ _ _ _ h;exact(MM j n).1 wl ai f args st v g k
theorem YA{S}(o:Q7 S P){f:FuncId}(t:f<100000){as j}(q:(bh S).call 0 0 f as []=Z (.bool Y,j)){W args}(z:dm W G0 as args.toList)(x:AV.fT as=Y):
  Calls P f args W λe g=>e=.returned (.bool Y)/\g.os=W.os/\g.output=W.output/\W.heap.size<=g.heap.size/\∀b,b<W.heap.size->g.heap[b]?=W.heap[b]?:=by
 obtain⟨C,v,y,l,m⟩:=T8 o _ _ _ _ _ _ _ q;have k:∀b,cV b as args.toList+dh b G0.ls []=0:=λb=>by rw[fD b _ _ x];simp[dh]
 have:=m W G0 args.toList z (abA W) (λb=>by rw[k b];omega);rw[l t]at this;refine this.mono λe g h=>?_;obtain⟨u,G',rfl,R,B,r⟩:=h;refine⟨by rw[bJ.mR R],r.os,r.out,r.size,λb p=>(r.BJ b p (k b)).2⟩
structure aq4 (S:Nat->Option aQ)(C:Checked)(ts:List TypeId):Prop where
 iY:ownKnob C.prog.godebug=none
 tab:Q7 S C.prog
 aP:Kids C.prog (· < C.prog.types.size)
 awh:∀t e,t<C.prog.types.size->C.prog.underlying t=some (.slice e)->0<C.prog.cellsOf e
 plain:I9 C.prog ts=true
theorem law_lifted{S C ts}(N:aq4 S C ts){J}(l:J.Started){f fn}{s:ChangeSpec}{g oB fresh k zf tb}(z:C.prog.inits.idxOf? f=K)(F:C.prog.funcs[f]?=Z fn)(hf:f<100000)(m:∃(w:World) (T:Tape) (i:Input),w.os=J/\(w.forCall T i).Shaped C.prog/\i.vars=[]/\Input.okWide C.prog (w.forCall T i) .any w.heap.size f i/\
   s.pre6 enc C.prog fn g oB (w.forCall T i).memory i.args/\({}:Assume).holds C.prog (lone (Frame.enter C.prog f i.args .normal) [] (w.forCall T i)))(y:(fn.params.toList.all λt=>ts.contains t&&V (t<C.prog.types.size))=Y)(hv:s.vars=[])(J7:fn.resultTypes = #[tb])(I:C.prog.underlying tb=Z .bool)(B:∀D:List _,Q D=Q fn.params.toList->(s.fn H D).results=[.lit (.bool Y)]/\(s.fn H D).args=D/\(s.fn H D).vars=[])(fN:∀as,agE C.prog fn.params.toList as->∃x,(bh S).call 0 0 f as []=Z (.bool Y,x)):
  ReturnsInHanded {} C J f .any (s.pre6 enc C.prog fn g oB) (s.post enc C.prog fn oB fresh k zf):=by
 refine returnsInHanded_of_change N.iY l z F m ?_;intro W base args D gs jh sL L _ _;have R:∀t∈fn.params.toList,t∈ts/\t<C.prog.types.size:=λt r=>by
  have:=aam.1 y t r;simpa using this
 obtain⟨p,q,M,hV,hb,_,_⟩:=id L;obtain⟨as,a1,a2,a3⟩:=MO N.aP N.plain (λt r=>(R t r).1) (λj t v e1 e2=>sL j t v (by simpa using e1) (by simpa using e2)) M;obtain⟨x,hc⟩:=fN as a2;have o:∀(U:List TypeId) (vs:List Value) (D:List (DataW H)) (p:List MemPlace),DataW.TrodAll enc C.prog W 0 (λ_=>Y) Y U vs D p->Q D=Q U:=by
  intro U;induction U with
  |nil=>intro vs D p h;cases vs with
   |nil=>cases D with
    |nil=>rfl|cons _ _=>exact h.elim
   |cons _ _=>cases D<;>exact h.elim
  |cons t U ih=>intro vs D p h;cases vs with
   |nil=>cases D<;>exact h.elim|cons v vs=>cases D with
    |nil=>exact h.elim|cons d D=>
     obtain⟨_,_,_,E,_⟩:=h;simp[ih vs D _ E]
 obtain⟨s1,s2,s3⟩:=B D (o _ _ _ _ M);refine(YA N.tab hf hc a1 a3).mono λe W' h=>?_;obtain⟨rfl,h1,E,h3,h4⟩:=h;exact⟨_,rfl,abB N.aP N.awh (λt r=>(R t r).2) L hv J7 I s1 s2 s3 h1 E h3 h4⟩
end Ax
namespace Ax
open Go
def CX(S:Nat->Option aQ)(P:Program):Nat->List (Option aQ)->Bool
 |_,[]=>Y|k,K::l=>CX S P (k+1) l|k,Z g::l=>V6 S P g&&(V (100000<=k)||g.Te==k)&&CX S P (k+1) l
theorem Ah{S P}:∀{l:List _}{k:Nat},CX S P k l=Y->∀i g,l[i]?=Z (Z g)->V6 S P g=Y/\(k+i<100000->g.Te=k+i)
 |[],_,_,i,g,h=>by simp at h|none::l,k,h,i,g,j=>by
  cases i with
  |zero=>simp at j|succ i=>
   have:=Ah (l:=l) (k:=k+1) h i g (by simpa using j);rw[show k+1+i=k+(i+1) by omega]at this;exact this
 |some s::l,k,h,i,g,j=>by
  simp only[CX,E6,Bool.or_eq_true,aC,cJ]at h;obtain⟨⟨m,p⟩,o⟩:=h;cases i with
  |zero=>
   simp at j;subst j;exact⟨m,λq=>by omega⟩
  |succ i=>
   have:=Ah (l:=l) (k:=k+1) o i g (by simpa using j);rw[show k+1+i=k+(i+1) by omega]at this;exact this
theorem agF{tbl ND P}(k:CX (aaE tbl ND) P 0 tbl=Y)(l:CX (aaE tbl ND) P 100000 ND=Y):Q7 (aaE tbl ND) P:=by
 intro f j g;unfold aaE at g;split at g;cases U:tbl[f]? with
 |none=>rw[U]at g;cases g|some x=>
  rw[U]at g;simp only[afA]at g;subst g;have:=Ah k f j U;exact⟨this.1,λh=>by have:=this.2 (by omega);omega⟩
 rename_i R;cases U:ND[f-100000]? with
 |none=>rw[U]at g;cases g|some x=>
  rw[U]at g;simp only[afA]at g;subst g;have:=Ah l (f-100000) j U;exact⟨this.1,λh=>bH h R⟩
end Ax
