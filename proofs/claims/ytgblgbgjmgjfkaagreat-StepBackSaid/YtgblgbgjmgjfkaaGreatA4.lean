/- Part of a proof. -/
import Derived.Test.YtgblgbgjmgjfkaaGreatA3

open List renaming length->Q
open Option renaming some->Z
open Bool renaming true->Y
open Decidable renaming decide->V
open List renaming getElem?_append_left->aaj,getElem?_set->aaD,all_eq_true->aam,mem_append->aaw,mem_of_mem_take->afy,mem_of_mem_drop->afz,mem_cons->ac2,getElem?_take->abv,map_cons->aaZ,nodup_nil->apM,contains_eq_mem->ahb,map_congr_left->afj,length_cons->aaK,getElem?_eq_some_iff->aad,range->agb,mem_range->amq,getElem?_eq_getElem->aae,mem_map->aap,mem_filter->apI,getElem?_set_ne->aao
open Option renaming map_eq_some_iff->adM,getD_some->afA,mem_toList->akz
open Nat renaming le_refl->aal,le_trans->adX,lt_of_lt_of_le->aju,lt_or_ge->agp,eq_zero_or_pos->agq,strongRecOn->akm,lt_trichotomy->aoM,le_of_lt->al5,lt_trans->anF
open Bool renaming and_eq_true->E6,or_eq_true->abh,not_eq_true'->afo,false_eq_true->aai,and_eq_false_iff->ah8
open Array renaming getD->amR,getElem?_eq_some_iff->aaA
namespace Ax
open Go
structure eS (wl ai:Nat)(st st':aO):Prop where
 len:st.length<=st'.length
 low:∀id,id<wl->id<st.length->st'[id]?=st[id]?
 ai:∀l,l<=ai->l<=st.length->MA l st->MA l st'
variable {wl ai:Nat}{st st' XX:aO}
theorem eS.refl(wl ai st):eS wl ai st st:=⟨aal _,λ_ _ _=>rfl,λ_ _ _ h=>h⟩
theorem eS.trans(h:eS wl ai st st')(k:eS wl ai st' XX):eS wl ai st XX:=
 ⟨adX h.len k.len,λid H g=>(k.low id H (aju g h.len)).trans (h.low id H g),λl H g j=>k.ai l H (adX g h.len) (h.ai l H g j)⟩
theorem eS.push(wl ai st p):eS wl ai st (st++[p]) where
 len:=by simp
 low:=λid _ h=>by rw[aaj h]
 ai:=λl _ r H id q g j=>H id q g (by rwa [aaj (by omega)]at j)
theorem eS.set{id ob q}(I:st[id]?=Z ob)(v:wl<=id)(h:∀l,l<=ai->id<l->ob.under l=Y->q.under l=Y):eS wl ai st (st.set id q) where
 len:=by simp
 low:=λi p _=>by rw[aaD,ah]
 ai:=λl p t r i j g H=>by
  rw[aaD]at H;split at H;rename_i e;subst e;split at H;cases H;exact h l p g (r _ ob g I);cases H;exact r i j g H
theorem Ab{l g j rs}:(iW.rows g j rs).under l=Y↔∀r∈rs,∀c∈r,c.under l=Y:=by
 simp only[iW.under,aam];exact⟨λh r H=>(jG l r).1 (h r H),λh r H=>(jG l r).2 (h r H)⟩
theorem Ym{g as vs k}{x:g}(h:k+Q vs<=Q as)(l:x∈aB as k vs):x∈as\/x∈vs:=by
 rw[mS _ _ _ h]at l;rcases aaw.1 l with l|l;rcases aaw.1 l with l|l;exact .inl (afy l);exact .inr l;exact .inl (afz l)
theorem Ac{p cells}(h:gT wl ai st p cells=Z st')(E:∀id x i k,p=.ptr id x i k->True:=λ_ _ _ _ _=>trivial):eS wl ai st st':=by
 unfold gT at h;split at h;split at h;rename_i v J rows I;split at h;rename_i N;simp only[E6,aC,bw,abh]at N;obtain⟨_,z,H⟩:=N;split at h;rename_i r y;split at h;rename_i F;cases h;refine eS.set I z λl B C g=>?_;rw[Ab]at g ⊢;intro R t c L;rcases List.mem_or_eq_of_mem_set t with j|j;exact g R j c L;subst j;rcases Ym F L with q|q;exact g r (eL y) c q;rcases H with H|H;omega;exact lC l c ((js cells).1 H c q);cases h;cases h;cases h;cases h;cases h
theorem J4{v bytes s new bx iJ r}(h:uN wl ai v bytes s new st bx=Z (r,st',iJ)):eS wl ai st st':=by
 unfold uN at h;split at h;split at h;split at h;cases h;exact eS.refl _ _ _;split at h;cases h;exact eS.push _ _ _ _;cases h;split at h;cases h;exact eS.push _ _ _ _;cases h;split at h;rename_i I;split at h;rename_i j;simp only[E6,aC,abh,aam]at j;cases h;refine eS.set I j.1.2 λl x y p=>?_;rw[Ab]at p ⊢;intro r t c H;rcases aaw.1 t with g|g;exact p r g c H;rcases j.2 with q|q;omega;exact lC l c ((js r).1 (q r g) c H);cases h;cases h;cases h;cases h
theorem TR{op vals bx iJ r}(h:bD wl ai op vals st bx=Z (r,st',iJ)):eS wl ai st st':=by
 cases op
 case load agg n M=>
  unfold bD at h;simp only at h;split at h;split at h;split at h;split at h;rename_i z _;cases h;exact Ac z;cases h;split at h;cases h;exact eS.refl _ _ _;cases h;cases h;cases h
 case store n=>
  unfold bD at h;simp only at h;split at h;split at h;split at h;rename_i z;cases h;exact Ac z;cases h;cases h;cases h
 case wC F=>
  unfold bD at h;simp only at h;split at h;split at h;rename_i I;split at h;rename_i g;simp only[E6,aC]at g;cases h;refine eS.set I g.2 λl _ _ j=>?_;rw[Ab]at j ⊢;exact λr y=>j r (afy y);cases h;cases h;cases h
 case j8 F bytes=>
  unfold bD at h;simp only at h;split at h;split at h;cases h;exact J4 h;cases h
 case xK F bytes zero=>
  unfold bD at h;simp only at h;split at h;split at h;exact J4 h;cases h;cases h
 case copy F=>
  unfold bD at h;simp only at h;split at h;split at h;rename_i I vE;split at h;rename_i g;simp only[E6,aC,abh,aam]at g;cases h;refine eS.set I g.1.2 λl U W j=>?_;rw[Ab]at j ⊢;intro r y c q;rcases aaw.1 y with t|t;rcases g.2 with p|p;omega;exact lC l c ((js r).1 (p r t) c q);exact j r (afz t) c q;cases h;cases h;cases h
 case mapUpdate kk=>
  unfold bD at h;simp only at h;split at h;rename_i id k v;split at h;rename_i E I;split at h;rename_i g;simp only[E6,bw,aC,abh]at g;split at h;rename_i B R;cases h;refine eS.set I g.2.1 λl U W j=>?_;have J:k.under l=Y:=by
   have:=g.1;unfold Mm at this;split at this<;>first|rfl|cases this
  have L:v.aj.under l=Y:=by
   rcases g.2.2 with p|p;omega;simp only[AV.aD,Bool.and_true]at p;exact lC l _ (BQ v p)
  clear I;simp only[iW.under,aam,E6]at j ⊢;have key:∀(E B:List (AV×AV)),(∀x∈E,x.1.under l=Y/\x.2.under l=Y)->Jw kk k v.aj E=Z B->∀x∈B,x.1.under l=Y/\x.2.under l=Y:=by
   intro E;induction E with
   |nil=>intro B _ h x H;simp[Jw]at h;subst h;simp at H;subst H;exact⟨J,L⟩|cons c E ih=>
    intro B C h;obtain⟨a,u⟩:=c;simp only[Jw]at h;split at h;cases h;intro x H;rcases ac2.1 H with rfl|H;exact⟨J,L⟩;exact C x (by simp[H]);split at h;rename_i r' N;cases h;intro x H;rcases ac2.1 H with rfl|H;exact C _ (by simp);exact ih r' (λx H=>C x (by simp[H])) N x H;cases h;cases h
  exact key E B j R;cases h;cases h;cases h;cases h
 all_goals
  unfold bD at h;simp only at h;repeat' split at h
 all_goals first
  |(cases h;exact eS.refl _ _ _)
  |(cases h;exact eS.push _ _ _ _)
  |cases h
structure wO (O:sN):Prop where
 call:∀wl ai f args st v st',O.call wl ai f args st=some (v,st')->eS wl ai st st'
 loop:∀wl ai rs c s x s',O.loop wl ai rs c s=some (x,s')->eS wl ai s.st s'.st
variable {O:sN}
theorem Yn(H:wO O){op vals bx iJ r}(h:yB O wl ai op vals st bx=Z (r,st',iJ)):eS wl ai st st':=by
 have call:∀x,iS O wl ai x st bx=Z (r,st',iJ)->eS wl ai st st':=by
  intro x h;unfold iS at h;split at h;split at h;rename_i g;cases h;exact H.call _ _ _ _ _ _ _ g;cases h;cases h
 unfold yB at h;split at h;exact call _ h;exact call _ h;exact TR h
theorem E5(g:wO O){o s s'}(h:jS O wl ai o s=Z s'):eS wl ai s.st s'.st:=by
 unfold jS at h;split at h;cases h;cases h;exact eS.refl _ _ _;split at h;cases h;rename_i j;have H:=Yn g j;split at h;cases h;exact H;split at h;cases h;exact H;cases h
theorem DU(H:wO O):∀{l:List eN}{s s':St},iE O wl ai l s=Z s'->eS wl ai s.st s'.st
 |[],s,s',h=>by simp only[iE,bE]at h;subst h;exact eS.refl _ _ _|o::l,s,s',h=>by
  simp only[iE]at h;split at h;rename_i j g;exact(E5 H g).trans (DU H h);cases h
theorem DW(H:wO O):∀{l:List eN}{s s':St}{mQ:List St},cY O wl ai l s=Z (s',mQ)->eS wl ai s.st s'.st
 |[],s,s',mQ,h=>by simp only[cY,bE,cR]at h;obtain⟨rfl,_⟩:=h;exact eS.refl _ _ _|o::l,s,s',mQ,h=>by
  simp only[cY]at h;split at h;rename_i p g;split at h;rename_i j;cases h;exact(E5 H g).trans (DW H j);cases h;cases h
theorem J5(H:wO O){l cI s s'}(h:jd O wl ai l cI s=Z s'):eS wl ai s.st s'.st:=by
 unfold jd at h;split at h;cases h;rename_i g;split at h;cases h;exact DW H g;cases h
theorem L4{a g}(h:nH wl a st=Z (g,st')):eS wl ai st st':=by
 unfold nH at h;split at h;split at h;rename_i I;split at h;rename_i H;simp only[E6,aC]at H;cases h;exact eS.set I H.2 λl _ _ _=>by simp[iW.under]
 cases h;cases h;split at h;cases h;exact eS.refl _ _ _;cases h
theorem DX:∀{l g:List AV}{st st':aO},mg wl l st=Z (g,st')->eS wl ai st st'
 |[],g,st,st',h=>by simp only[mg,bE,cR]at h;obtain⟨_,rfl⟩:=h;exact eS.refl _ _ _|a::l,g,st,st',h=>by
  simp only[mg]at h;split at h;rename_i H;split at h;rename_i j;cases h;exact(L4 H).trans (DX j);cases h;cases h
theorem BX:∀{l g:List _}{st st':aO},kI wl l st=Z (g,st')->eS wl ai st st'
 |[],g,st,st',h=>by simp only[kI,bE,cR]at h;obtain⟨_,rfl⟩:=h;exact eS.refl _ _ _|a::l,g,st,st',h=>by
  simp only[kI]at h;split at h;rename_i H;split at h;rename_i j;cases h;exact(DX H).trans (BX j);cases h;cases h
theorem yG{a g}(h:jN wl a st=Z (g,st')):eS wl ai st st':=by
 unfold jN at h;split at h;split at h;rename_i I;split at h;rename_i H;simp only[E6,aC]at H;split at h;rename_i j;cases h;exact(eS.set (ai:=ai) I H.2 λl _ _ _=>by simp[iW.under]).trans (BX j);cases h;cases h;cases h;cases h;exact eS.refl _ _ _;cases h
theorem L5{a g}(h:rO wl a st=Z (g,st')):eS wl ai st st':=by
 unfold rO at h;split at h;cases h;exact eS.push _ _ _ _;exact yG h
theorem mV(H:wO O){rs}:∀{c:aW}{s:St}{x:Ex}{s':St},kG O wl ai rs c s=Z (x,s')->eS wl ai s.st s'.st
 |.skip,s,x,s',h=>by simp only[kG,bE,cR]at h;obtain⟨_,rfl⟩:=h;exact eS.refl _ _ _|.region dZ l U,s,x,s',h=>by
  simp only[kG]at h;split at h;rename_i q g;cases h;show eS wl ai s.st q.st;cases l with
  |none=>exact DU H (by simpa only using g)|some cI=>exact J5 H (by simpa only using g)
  cases h
 |.seq a b,s,x,s',h=>by
  simp only[kG]at h;split at h;rename_i q g;exact(mV H g).trans (mV H h);exact mV H h
 |.cond c r a y b,s,x,s',h=>by
  simp only[kG]at h;split at h;have:=mV (c:=a) H h;exact this;have:=mV (c:=b) H h;exact this;cases h
 |.block id c,s,x,s',h=>by
  simp only[kG]at h;split at h;rename_i g;split at h<;>(cases h;exact mV H g);exact mV H h
 |.loop c,s,x,s',h=>by simp only[kG]at h;exact H.loop _ _ _ _ _ _ _ h|.exit id,s,x,s',h=>by simp only[kG,bE,cR]at h;obtain⟨_,rfl⟩:=h;exact eS.refl _ _ _|.ret,s,x,s',h=>by
  simp only[kG]at h;split at h;cases h;exact eS.refl _ _ _;cases h
 |.frz t,s,x,s',h=>by
  simp only[kG]at h;split at h;split at h;rename_i p;cases h;exact yG p;cases h;cases h
 |.Jv j k,s,x,s',h=>by
  simp only[kG]at h;split at h;split at h;split at h;rename_i p;cases h;exact yG p;cases h;cases h;cases h
 |.rN t off,s,x,s',h=>by
  obtain⟨_,id,z,i,k,v,B,qS,qh,_,_,C,L,rfl⟩:=JA h;exact(L5 C).trans (Ac L)
theorem TS:∀m:Mode,m=.pure\/m=.nC\/m=.Bw:=by
 intro m;cases m<;>simp
theorem Iy(z:wO O){r args v}(h:eY O wl ai r args st=Z (v,st')):eS wl ai st st':=by
 unfold eY at h;split at h;split at h;rename_i x s B;split at h;rename_i u E;have H:=mV z B;simp only[vz]at H;rcases TS r.mode with j|j|j;rw[j]at h;simp only[Mode.mJ]at h;split at h;cases h;exact eS.refl _ _ _;cases h;rw[j]at h H;simp only[Mode.mJ]at h;simp only[Mode.BC,Mode.uk]at H;split at h;cases h;refine⟨by rw[List.length_take];have:=H.len;omega,λid q g=>?_,λl q g t id C y p=>?_⟩;rw[abv,af g];exact H.low id q g;rw[abv]at p;split at p;exact H.ai l g g t id C y p;cases p;cases h;rw[j]at h H;simp only[Mode.mJ]at h;cases h;exact H;cases h;cases h;cases h
theorem J6(H:wO O){g args v}(h:gu O wl ai g args st=Z (v,st')):eS wl ai st st':=by
 unfold gu at h;split at h;simp only[adM]at h;obtain⟨x,_,l⟩:=h;cases l;exact eS.refl _ _ _;exact Iy H h
theorem MD(S):∀n,wO (uP S n)
 |0=>⟨λ_ _ _ _ _ _ _ h=>by simp[uP]at h,λ_ _ _ _ _ _ _ h=>by simp[uP]at h⟩
 |n+1=>by
  have I:=MD S n;refine⟨λwl ai f args st v st' h=>?_,λwl ai rs c s x s' h=>?_⟩;simp only[uP]at h;split at h;exact J6 I h;cases h;simp only[uP]at h;split at h;rename_i j H;exact(mV I H).trans (I.loop _ _ _ _ _ _ _ h);exact mV I h
end Ax
namespace Ax
open Go
variable {P:Program}{w w':World}{G G':bT}{β jE:List wj}
abbrev oY(a:Act)(t:Nat):Value:=a.tmps.getD t undef
structure FS (w:World)(G:bT)(β:List wj)(a:Act)(η:Nat->kz)(bx:jM)(st:aO)(n:Nat):Prop where
 QS:a.defers=[]
 size:n<=a.tmps.size
 yT:∀t,nX w G β (η t) (oY a t)
 lt:∀t,n<=t->η t=.none
 inv:mH w G st
 box:ny w G β bx
def Ba(β:List wj)(a:Act)(η:Nat->kz)(bx:jM)(st:aO)(G:bT)(n:Nat)(b:Nat):Nat:=
 jy (λt=>dH b (η t) (oY a t)) n+ja b β bx+dh b G.ls st
structure Mv (w:World)(G:bT)(A:Nat->Nat)(w':World)(G':bT)(A':Nat->Nat):Prop where
 lY:xO w G w' G'
 iI:∀b,b<w.heap.size->A' b<=A b
 one:∀b,A' b<=1
 BJ:∀b,b<w.heap.size->A b=0->fY w G w' G' b
 size:w.heap.size<=w'.heap.size
 os:w'.os=w.os
 out:w'.output=w.output
theorem Mv.refl{A}(h:∀b,A b<=1):Mv w G A w G A:=⟨xO.refl w G,λ_ _=>aal _,h,λ_ _ _=>⟨rfl,rfl⟩,aal _,rfl,rfl⟩
theorem fY.trans{W p q g j l b}(h:fY W g p j b)(k:fY p j q l b):fY W g q l b:=⟨k.1.trans h.1,k.2.trans h.2⟩
theorem Mv.trans{A p g W j}(h:Mv w G A w' G' p)(k:Mv w' G' p W j g):Mv w G A W j g where
 lY:=h.lY.trans k.lY
 iI:=λb l=>adX (k.iI b (aju l h.size)) (h.iI b l)
 one:=k.one
 BJ:=λb l B=>(h.BJ b l B).trans (k.BJ b (aju l h.size) (by have:=h.iI b l;omega))
 size:=adX h.size k.size
 os:=k.os.trans h.os
 out:=k.out.trans h.out
theorem Mv.aa6{A p B g}(h:Mv w G A w' G' p)(H:∀b,A b<=B b)(j:∀b,b<w.heap.size->g b<=B b)(z:∀b,g b<=1):Mv w G B w' G' g:=
 ⟨h.lY,j,z,λb l q=>h.BJ b l (by have:=H b;omega),h.size,h.os,h.out⟩
theorem ME{e v b}(h:nX w G β e v)(l:0<dH b e v):b<w.heap.size:=by
 cases e with
 |none=>simp[dH]at l|fp j k=>simp[dH]at l|val a=>exact bJ.held h l
section
variable {a:Act}{η:Nat->kz}{bx:jM}{st:aO}{n:Nat}
theorem FS.held(h:FS w G β a η bx st n){b}(j:0<Ba β a η bx st G n b):b<w.heap.size:=by
 unfold Ba at j;by_cases H:0<ja b β bx;exact h.box.held H;by_cases g:0<dh b G.ls st;exact h.inv.held g;have l:0<jy (λt=>dH b (η t) (oY a t)) n:=by omega
 have key:∀n,0<jy (λt=>dH b (η t) (oY a t)) n->∃t,0<dH b (η t) (oY a t):=by
  intro n;induction n with
  |zero=>intro h;simp[jy]at h|succ n I=>
   intro h;simp only[jy]at h;by_cases B:0<dH b (η n) (oY a n);exact⟨n,B⟩;exact I (by omega)
 obtain⟨t,p⟩:=key n l;exact ME (h.yT t) p
end
theorem nX.bx{e v nb}(h:nX w G β e v)(r:gX nb β jE)(t:∀j,nb=Z j->e.ue j=Y):nX w G jE e v:=by
 cases e with
 |none=>trivial|val a=>exact h|fp j k=>
  obtain⟨g,b,H,p,q⟩:=h;obtain⟨g',l,W⟩:=r j g H;refine⟨g',b,l,(W λe=>?_).trans p,q⟩;have:=t j e;simp[kz.ue]at this
theorem nX.lY{e v}(h:nX w G β e v)(H:xO w G w' G')(g:∀b,0<dH b e v->fY w G w' G' b):nX w' G' β e v:=by
 cases e with
 |none=>trivial|val a=>exact bJ.lY h H g|fp j k=>exact h
def Gr(η:Nat->kz):Src->kz
 |.tmp t Y=>η t|.tmp t false=>(η t).aj|.const a=>.val a
theorem I6(env s):P9 env s=Gr (eG env) s:=by
 cases s with
 |tmp t M=>cases M<;>rfl|const a=>rfl
def Ad(η:Nat->kz):Option (Nat×Bool)->Option Bool
 |none=>Z Y|some (t,b)=>match η t with
  |.val (.bool c)=>Z (c==b)|.val .undef=>Z false|_=>none
theorem MF(env g):qJ env g=Ad (eG env) g:=by
 cases g with
 |none=>rfl|some x=>rfl
def nJ(η:Nat->kz)(dst:Option Nat)(e:kz):Nat->kz:=λt=>if dst=Z t then e else η t
def mM(η:Nat->kz)(l:List Nat):Nat->kz:=λt=>if t∈l then .none else η t
theorem VS{a η}(H:∀t,nX w G β (η t) (oY a t)):∀{x:Operand}{s:Src},Tv x s=Y->nX w G β (Gr η s) (a.eval x)/\∀b,dH b (Gr η s) (a.eval x)<=uU (λt=>dH b (η t) (oY a t)) (vG [s])
 |.tmp t,.tmp u Y,h=>by
  simp only[Tv,cJ]at h;subst h;exact⟨H t,λb=>by simp only[vG,uU,Gr];exact aal _⟩
 |.tmp t,.tmp u false,h=>by
  simp only[Tv,cJ]at h;subst h;exact⟨(H t).aj,λb=>by simp only[Gr,Mp];omega⟩
 |.const v,.const c,h=>by
  simp only[Tv]at h;obtain⟨j,l,_⟩:=Ec h w G;exact⟨j,λb=>by simp only[Gr,dH,gW b c _ l];omega⟩
 |.func f,.const (.fn g [] []),h=>by
  simp only[Tv,E6,cJ,aC]at h;obtain⟨rfl,p⟩:=h;exact⟨bJ.fn f [] [] #[] #[] rfl rfl ⟨rfl,rfl,p⟩ (λi c v h=>by simp at h) (λi c v h=>by simp at h),λb=>by simp[Gr,dH,iI]⟩
theorem aa7(s r):vG (s::r)=vG [s]++vG r:=by
 cases s with
 |tmp t M=>cases M<;>rfl|const a=>rfl
theorem HU(f):∀l m,uU f (l++m)=uU f l+uU f m
 |[],m=>by simp[uU]|t::l,m=>by simp only[List.cons_append,uU,HU f l m];omega
theorem QT{a η}(H:∀t,nX w G β (η t) (oY a t)):∀{j:List Operand}{g:List Src},jf j g=Y->oz w G β (g.map (Gr η)) (j.map a.eval)/\
  ∀b,p8 b (g.map (Gr η)) (j.map a.eval)<=uU (λt=>dH b (η t) (oY a t)) (vG g)
 |[],[],_=>⟨trivial,λb=>by simp[p8]⟩
 |x::j,s::g,h=>by
  simp only[jf,E6]at h;obtain⟨l,p⟩:=VS H h.1;obtain⟨q,r⟩:=QT H h.2;refine⟨⟨l,q⟩,λb=>?_⟩;have E:=p b;have v:=r b;rw[aa7,HU];simp only[aaZ,p8];omega
 |[],_::_,h=>by simp[jf]at h|_::_,[],h=>by simp[jf]at h
def TT(dZ:Array Oper)(o:Oper)(so:eN):Bool:=
 match o.guard,so.guard with
 |none,none=>Y|some (j,b),Z (t,c)=>b==c&&(match dZ[j]? with|some q=>q.dst==Z t|none=>false)|_,_=>false
def BY:List Nat->Bool
 |[]=>Y|t::l=>!(l.contains t)&&BY l
theorem CT:∀{l:List Nat},BY l=Y->l.Nodup
 |[],_=>apM|t::l,h=>by
  simp only[BY,E6,afo,ahb,decide_eq_false_iff_not]at h;exact List.nodup_cons.2 ⟨h.1,CT h.2⟩
def MG(S:Nat->Option aQ)(P:Program)(dZ:Array Oper)(n:Nat)(o:Oper)(so:eN):Bool:=
 mOp S P o so&&TT dZ o so&&(match so.dst with|some d=>decide (d<n)|none=>Y)&&BY (vG so.args)
theorem Yo{dZ o so a η n}(U:TT dZ o so=Y)(C:∀t,nX w G β (η t) (oY a t))(R:∀t,n<=t->η t=.none)(I:n<=a.tmps.size){b}(H:Ad η so.guard=Z b):Region.wanted o (yielded dZ a.tmps)=b:=by
 unfold TT at U;split at U;rename_i r x;rw[x]at H;simp only[Ad]at H;cases H;simp[Region.wanted,r];rename_i j F t c r x;simp only[E6,cJ]at U;obtain⟨rfl,U⟩:=U;split at U;rename_i q B;simp only[cJ]at U;rw[x]at H;simp only[Ad]at H;have z:yielded dZ a.tmps j=match a.tmps[t]? with|some (.bool b)=>Z b|_=>none:=by
  simp only[yielded,B,Option.bind_some,U]
  rfl
 have J:=C t;split at H;rename_i c g;cases H;have E:t<n:=by
  rcases agp t n with h|h;exact h;rw[R t h]at g;cases g
 rw[g]at J;have y:=bJ.mR J;have l:a.tmps[t]?=Z (.bool c):=by
  have p:t<a.tmps.size:=by omega
  have:a.tmps.getD t undef=a.tmps[t]:=by simp[amR,p]
  rw[<-y,oY,this];simp[p]
 simp only[Region.wanted,r,z,l]
 rfl
 rename_i g;cases H;have E:t<n:=by
  rcases agp t n with h|h;exact h;rw[R t h]at g;cases g
 rw[g]at J;have y:oY a t=undef:=by
  generalize oY a t=v at J;cases J;rfl
 have l:a.tmps[t]?=Z undef:=by
  have p:t<a.tmps.size:=by omega
  have:a.tmps.getD t undef=a.tmps[t]:=by simp[amR,p]
  rw[<-y,oY,this];simp[p]
 simp only[Region.wanted,r,z,l]
 rfl
 cases H;cases U;cases U
end Ax
namespace Ax
open Go
variable {P:Program}{w w':World}{G G':bT}{β jE:List wj}
def Yp (P : Program) (f : FuncId) : Prop := ∃ fn, P.funcs[f]? = some fn ∧ (fn.name == "runtime.NumGoroutine") = false ∧ fn.body.isNone = false
def mW(S:Nat->Option aQ)(P:Program)(O:sN):Prop:=
 ∀wl ai f args st v st',O.call wl ai f args st=Z (v,st')->∃g,S f=Z g/\Yp P g.Te/\(f<100000->g.Te=f)/\
  ∀(w:World) (G:bT) (vs:List Value),dm w G args vs->mH w G st->(∀b,cV b args vs+dh b G.ls st<=1)->
   Calls P g.Te vs.toArray w λe w'=>∃u G',e=.returned u/\bJ w' G' v u/\mH w' G' st'/\
    Mv w G (λb=>cV b args vs+dh b G.ls st) w' G' (λb=>iI b v u+dh b G'.ls st')
theorem J8{f}(h:Yp P f)(args w):(callFunc f args).run P w=.ok (.enter f args) w:=by
 obtain⟨fn,h1,h2,h3⟩:=h;have h4 : ¬ fn.name = "runtime.NumGoroutine" := by simpa using h2
 have h5:¬fn.body=none:=by intro h;rw[h]at h3;simp at h3
 simp[callFunc,h1,h4,h5]
theorem MH{ρ o c f L J x}(z:o.op=.call c)(H:c.callee=.value x)(l:ρ x=.func (.func f) L J)(h:Yp P f)(w):
  (execOp ρ o).run P w=.ok (.enter f (L++c.args.map ρ++J)) w:=by
 simp only[execOp,z,resolve,H,l,Deferred.ofValue,cq,Sem.run_pure,dA,invoke,J8 h]
theorem Yq{l x}(h:qw .xL l=Z x):∃f first j g vs,l=.val (.fn f first j)::g/\lQ g=Z vs/\x=(f,first++vs++j):=by
 unfold qw at h;split at h;rename_i heq;cases heq;rename_i f first j g _
 split at h;rename_i vs E;cases h;exact⟨f,first,j,g,vs,rfl,E,rfl⟩;cases h;cases h
section
variable {S:Nat->Option aQ}{O:sN}{dZ:Array Oper}{n:Nat}{o:Oper}{so:eN}{a:Act}{η:Nat->kz}{bx iJ:jM}{st st':aO}{wl ai:Nat}{e:kz}
theorem FS.after(p:FS w G β a η bx st n)(E:∀b,Ba β a η bx st G n b<=1){cO}(N:∀b,cO b=uU (λt=>dH b (η t) (oY a t)) (vG so.args))(TU:(vG so.args).Nodup)(B:∀d,so.dst=Z d->d<n){v}(M:mj w G β st bx cO w' G' jE st' iJ e v)(hB:gX so.op.aX β jE)(X8:∀j,so.op.aX=Z j->∀t,so.dst≠Z t->t ∉ vG so.args->(η t).ue j=Y):
  FS w' G' jE (a.put so.dst v) (nJ (mM η (vG so.args)) so.dst e) iJ st' n/\Mv w G (Ba β a η bx st G n) w' G' (Ba jE (a.put so.dst v) (nJ (mM η (vG so.args)) so.dst e) iJ st' G' n):=by
 have Yj:∀t,oY (a.put so.dst v) t=if so.dst=Z t then (if t<n then v else oY (a.put so.dst v) t) else oY a t:=by
  intro t;cases r:so.dst with
  |none=>simp[Act.put]|some d=>
   have C:=B d r;have R:d<a.tmps.size:=aju C p.size;by_cases q:d=t;subst q;simp[Act.put,oY,C,R];simp[q,Act.put,oY]
 have y:∀t,t<n->so.dst=Z t->oY (a.put so.dst v) t=v:=λt E H=>by rw[Yj t,af H,af E]
 have z:∀t,so.dst≠Z t->oY (a.put so.dst v) t=oY a t:=λt h=>by rw[Yj t,U h]
 have F:∀b,cO b+jy (λt=>if t∈vG so.args then 0 else dH b (η t) (oY a t)) n<=jy (λt=>dH b (η t) (oY a t)) n:=λb=>by
  rw[N];exact E3 (λt q=>by rw[p.lt t q];rfl) _ TU
 have qj:∀b t,so.dst≠Z t->t ∉ vG so.args->0<dH b (η t) (oY a t)->cO b+ja b β bx+dh b G.ls st=0:=by
  intro b t H l I;have W:t<n:=by
   rcases agp t n with h|h;exact h;rw[p.lt t h]at I;simp[dH]at I
  have J:=BW (f:=λt=>if t∈vG so.args then 0 else dH b (η t) (oY a t)) W;simp only[U l]at J;have h6:=F b;have h7:=E b;unfold Ba at h7;omega
 have fR:∀t,so.dst≠Z t->t ∉ vG so.args->nX w' G' jE (η t) (oY a t):=λt H l=>
  ((p.yT t).lY M.lY λb x=>M.BJ b (qj b t H l x) (ME (p.yT t) x)).bx hB λj hj=>X8 j hj t H l
 have L:FS w' G' jE (a.put so.dst v) (nJ (mM η (vG so.args)) so.dst e) iJ st' n:=by
  refine⟨?_,?_,λt=>?_,λt q=>?_,M.inv,M.box⟩;cases r:so.dst<;>simp[Act.put,p.QS];cases r:so.dst<;>simp[Act.put,p.size];simp only[nJ,mM];by_cases H:so.dst=Z t;rw[af H,y t (B t H) H];exact M.yT;rw[U H,z t H];by_cases l:t∈vG so.args;rw[af l];trivial;rw[U l];exact fR t H l;simp only[nJ,mM];rw[U (λh=>by have:=B t h;omega)];rw[p.lt t q];simp
 have TB:∀b,Ba jE (a.put so.dst v) (nJ (mM η (vG so.args)) so.dst e) iJ st' G' n b<=Ba β a η bx st G n b+(if w.heap.size<=b then 1 else 0):=by
  intro b;have H:=M.iI b;have l:=F b;have I:jy (λt=>dH b (nJ (mM η (vG so.args)) so.dst e t) (oY (a.put so.dst v) t)) n<=jy (λt=>if t∈vG so.args then 0 else dH b (η t) (oY a t)) n+dH b e v:=by
   cases r:so.dst with
   |none=>
    rw[r]at z;have:jy (λt=>dH b (nJ (mM η (vG so.args)) none e t) (oY (a.put none v) t)) n=jy (λt=>if t∈vG so.args then 0 else dH b (η t) (oY a t)) n:=sY λt _=>by
     rw[z t (by simp)];simp only[nJ,mM];rw[U (by simp)];split<;>rfl
    rw[this];omega
   |some d=>
    rw[r]at z y;have J:=y8 (f:=λt=>dH b (nJ (mM η (vG so.args)) (Z d) e t) (oY (a.put (Z d) v) t)) (g:=λt=>if t∈vG so.args then 0 else dH b (η t) (oY a t)) (d:=d) (B d r) λt q=>by
     rw[z t (by simpa using λh=>q h.symm)];simp only[nJ,mM];rw[U (by simpa using λh=>q h.symm)];split<;>rfl
    have h6:dH b (nJ (mM η (vG so.args)) (Z d) e d) (oY (a.put (Z d) v) d)=dH b e v:=by
     rw[y d (B d r) rfl];simp[nJ]
    rw[h6]at J;omega
  unfold Ba;omega
 refine⟨L,M.lY,λb x=>?_,λb=>?_,λb x h0=>M.BJ b ?_ x,M.size,M.os,M.out⟩;have:=TB b;rw[ah]at this;exact this;have H:=TB b;by_cases x:w.heap.size<=b;rw[af x]at H;have l:Ba β a η bx st G n b=0:=by
  rcases agq (Ba β a η bx st G n b) with h|h;exact h;have:=p.held h;omega
 omega;rw[U x]at H;have:=E b;omega;have H:=F b;unfold Ba at h0;omega
theorem aa9{v u args vs cO}(H:ny w G β bx)(L:∀b,cO b+ja b β bx+dh b G.ls st<=1)(hc:∀b,cV b args vs<=cO b)(hr:bJ w' G' v u)(g:mH w' G' st')(hM:Mv w G (λb=>cV b args vs+dh b G.ls st) w' G' (λb=>iI b v u+dh b G'.ls st')):mj w G β st bx cO w' G' β st' bx (.val v) u where
 lY:=hM.lY
 inv:=g
 box:=rj H hM.lY λb l=>hM.BJ b (H.held l) (by have j:=L b;have p:=hc b;omega)
 yT:=hr
 iI:=λb=>by
  simp only[dH];by_cases l:w.heap.size<=b;rw[af l];have j:=hM.one b;have p:ja b β bx=0:=by
   rcases agq (ja b β bx) with h|h;exact h;have:=H.held h;omega
  omega;rw[U l];have j:=hM.iI b (by omega);have p:=hc b;omega
 BJ:=λb B l=>hM.BJ b l (by have:=hc b;omega)
 size:=hM.size
 os:=hM.os
 out:=hM.out
theorem VT{q i}(hi:dZ[i]?=Z o)(H:MG S P dZ n o so=Y)(hO:mW S P O)(r:FS w G β a η bx st n)(g:∀b,Ba β a η bx st G n b<=1){K b}(hw:Ad η so.guard=Z b)(eC:b=false->∀z,FS w G β z (nJ η so.dst (.val .undef)) bx st n->Mv w G (Ba β a η bx st G n) w G (Ba β z (nJ η so.dst (.val .undef)) bx st G n)->K z w)(ak4:b=Y->∃e st' iJ,yB O wl ai so.op (so.args.map (Gr η)) st bx=Z (e,st',iJ)/\(∀j,so.op.aX=Z j->∀t,so.dst≠Z t->t ∉ vG so.args->(η t).ue j=Y)/\
   ∀w' G' jE z,FS w' G' jE z (nJ (mM η (vG so.args)) so.dst e) iJ st' n->Mv w G (Ba β a η bx st G n) w' G' (Ba jE z (nJ (mM η (vG so.args)) so.dst e) iJ st' G' n)->K z w'):
  wpOp P dZ q i K a w:=by
 unfold MG at H;simp only[E6]at H;obtain⟨⟨⟨H,hg⟩,hd0⟩,U⟩:=H;have hd:∀d,so.dst=Z d->d<n:=λd hd=>by rw[hd]at hd0;simpa using hd0
 have U:=CT U;have GF:o.dst=so.dst:=by
  unfold mOp at H;rw[E6]at H;have:=H.1;split at this;rename_i g h;simp only[cJ]at this;rw[g,h,this];rename_i g h;rw[g,h];cases this
 have aqH:=Yo hg r.yT r.lt r.size hw;unfold wpOp;rw[hi];simp only[aqH];cases b with
 |false=>
  simp only[aai,bC];rw[GF];have hA:mj w G β st bx (λb=>uU (λt=>dH b (η t) (oY a t)) (vG ([]:List Src))) w G β st bx (.val .undef) undef:=mj.ri r.inv r.box .undef λb=>by simp[dH,iI]
  obtain⟨F,I⟩:=FS.after (so:=⟨so.dst,.move,[],none⟩) r g (λb=>rfl) apM hd hA (gX.refl _ _) (λj hj=>by simp[eu.aX]at hj);have L:mM η (vG ([]:List Src))=η:=by funext t;simp[mM,vG]
  simp only[L]at F I;exact eC rfl _ F I
 |true=>
  obtain⟨e,st',iJ,p,X8,hK⟩:=ak4 rfl;simp only[bz];refine .inl ?_;have hX:∀b,uU (λt=>dH b (η t) (oY a t)) (vG so.args)+ja b β bx+dh b G.ls st<=1:=λb=>by
   have h:=E3 (f:=λt=>dH b (η t) (oY a t)) (n:=n) (λt ht=>by rw[r.lt t ht];rfl) _ U;have h3:=g b;unfold Ba at h3;omega
  have hA:∀xs,jf xs so.args=Y->oz w G β (so.args.map (Gr η)) (xs.map a.eval)/\∀b,p8 b (so.args.map (Gr η)) (xs.map a.eval)<=uU (λt=>dH b (η t) (oY a t)) (vG so.args):=λxs hxs=>QT r.yT hxs;have plain:bD wl ai so.op (so.args.map (Gr η)) st bx=Z (e,st',iJ)->o.wp P a w K q:=by
   intro p;obtain⟨nx,v,w',G',jE,W,e2,e3,e4⟩:=ak2 H r.inv r.box hX hA p;obtain⟨F,I⟩:=FS.after r g (λb=>rfl) U hd e3 e4 X8;have L:=hK w' G' jE _ F I;unfold Oper.wp;rw[W];rcases e2 with rfl|⟨rfl,rfl⟩;rw[Oper.upon_value,GF];exact L;rw[Oper.upon_skip,GF];exact L
  have call:∀(f i:Nat) (vs:List AV) (us:List Value) (G0:Prop),iS O wl ai (Z (i,vs)) st bx=Z (e,st',iJ)->dm w G vs us->(∀b,cV b vs us<=uU (λt=>dH b (η t) (oY a t)) (vG so.args))->so.op.aX=none->
    (∀E,S i=Z E->(i<100000->E.Te=i)->E.Te=f)->(Yp P f->(execOp a.eval o).run P w=.ok (.enter f us.toArray) w)->o.wp P a w K q:=by
   intro f i vs us _ hc fR LW hnb hsf hex;unfold iS at hc;simp only at hc;split at hc;rename_i v qS fN;cases hc;obtain⟨E,s1,s2,s3,s4⟩:=hO _ _ _ _ _ _ _ fN;have hf:=hsf E s1 s3;rw[hf]at s2 s4;have ak5:=s4 w G us fR r.inv λb=>by have h:=hX b;have h3:=LW b;omega
   unfold Oper.wp;rw[hex s2,Oper.upon_enter];refine ak5.mono λen w' hen=>?_;obtain⟨u,G',rfl,R,r2,r3⟩:=hen;have hA1:=aa9 r.box hX LW R r2 r3;obtain⟨F,I⟩:=FS.after r g (λb=>rfl) U hd hA1 (gX.refl _ _) X8;have L:=hK w' G' β _ F I;simp only;rw[GF];exact L;cases hc
  unfold yB at p;split at p;rename_i i M;unfold mOp at H;rw[E6]at H;replace H:=H.2;rw[M]at H;simp only[qw]at p;cases N:lQ (so.args.map (Gr η)) with
  |none=>rw[N]at p;simp[iS]at p|some vs=>
   rw[N]at p;split at H<;>first|(rename_i g h;cases h;done)|(rename_i h;cases h;done)|(rename_i g h;cases g;done)|skip
   rename_i c i' C heq;cases heq;split at H;rename_i f uT;simp only[E6]at H;obtain⟨TW,hmf⟩:=H;obtain⟨hR,J⟩:=hA _ TW;obtain⟨R,r2⟩:=hR.Yl N;refine call f i vs _ True p R (λb=>by rw[<-r2];exact J b) (by rw[M];rfl) (λE g h=>?_) λhF=>?_;rw[g]at hmf;simpa using hmf;have:=MH (ρ:=a.eval) C uT (show a.eval (.func f)=.func (.func f) #[] #[] from rfl) hF w;rw[this];congr 2;apply Array.ext';simp;cases H;cases H
  ·rename_i M;unfold mOp at H;rw[E6]at H;replace H:=H.2;rw[M]at H;split at H<;>first|(rename_i g h;cases h;done)|(rename_i h;cases h;done)|(rename_i g h;cases g;done)|skip
   ·rename_i c C heq;split at H
    ·rename_i x uT;obtain⟨hR,J⟩:=hA _ H;cases EW:qw .xL (so.args.map (Gr η)) with
     |none=>rw[EW]at p;simp[iS]at p|some y=>
      rw[EW]at p;obtain⟨f,first,oM,l,vs,VO,N,rfl⟩:=Yq EW;rw[VO]at hR J;simp only[aaZ]at hR J;obtain⟨B,hRl⟩:=hR;obtain⟨R,r2⟩:=oz.Yl hRl N;simp only[nX]at B;generalize Qo:a.eval x=xv at B J;cases B with
      |fn _ _ _ vf vc hl hm' hn hh uS=>
      refine call f f (first++vs++oM) (vf.toList++c.args.toList.map a.eval++vc.toList) True p ((dm.append ⟨by simpa using hl,λi c v W e2=>hh i c v W (by simpa using e2)⟩ R).append ⟨by simpa using hm',λi c v W e2=>uS i c v W (by simpa using e2)⟩) (λb=>?_) (by rw[M];rfl) (λE g h=>h hn.2.2) λhF=>?_;rw[iL b _ _ _ _ (by simp only[List.length_append,hl,R.1];simp),iL b _ _ _ _ (by simpa using hl),fD b _ _ hn.1,fD b _ _ hn.2.1];have h:=J b;have h3:=r2 b;simp only[p8]at h;omega;have:=MH (ρ:=a.eval) C uT Qo hF w;rw[this];congr 2;apply Array.ext';simp
    cases H
   cases H
  exact plain p
end
end Ax
namespace Ax
open Go
variable {P:Program}{w w':World}{G G':bT}{β jE:List wj}
variable {S:Nat->Option aQ}{O:sN}{a:Act}{bx:jM}{st:aO}{n wl ai:Nat}{s s':St}{η:Nat->kz}
abbrev FT(w:World)(G:bT)(β:List wj)(a:Act)(s:St)(n:Nat):Prop:=FS w G β a (eG s.env) s.bx s.st n
abbrev jH(β:List wj)(a:Act)(s:St)(G:bT)(n:Nat):Nat->Nat:=Ba β a (eG s.env) s.bx s.st G n
theorem FS.congr{g}(h:FS w G β a η bx st n)(B:∀t,g t=η t):FS w G β a g bx st n:=by
 have:g=η:=funext B;rw[this];exact h
theorem FS.aba{j}(h:FS w G β a η bx st n)(B:∀t,j t=η t\/j t=.none):FS w G β a j bx st n/\∀b,Ba β a j bx st G n b<=Ba β a η bx st G n b:=by
 refine⟨⟨h.QS,h.size,λt=>?_,λt H=>?_,h.inv,h.box⟩,λb=>?_⟩;rcases B t with e|e;rw[e];exact h.yT t;rw[e];trivial;rcases B t with e|e;rw[e];exact h.lt t H;exact e;unfold Ba;have:=IZ (f:=λt=>dH b (j t) (oY a t)) (g:=λt=>dH b (η t) (oY a t)) (n:=n) λt _=>by
  rcases B t with e|e;rw[e];exact aal _;rw[e];simp[dH]
 omega
theorem nF(env dst e):eG (Dt env dst e)=nJ (eG env) dst e:=by
 funext t;cases dst with
 |none=>simp[Dt,nJ]|some d=>
  simp only[Dt,nJ,BU,bE];by_cases h:t=d;rw[af h,af h.symm];rw[U h,U λe=>h e.symm]
theorem Ae(env g):eG (g.foldl qv env)=mM (eG env) (vG g):=by
 funext t;rw[y7]
 rfl
theorem Yr{dZ o so q i}(z:dZ[i]?=Z o)(C:MG S P dZ n o so=Y)(y:mW S P O)(E:FT w G β a s n)(v:∀b,jH β a s G n b<=1){K}(B:jS O wl ai so s=Z s')(J:∀w' G' jE g,FT w' G' jE g s' n->Mv w G (jH β a s G n) w' G' (jH jE g s' G' n)->K g w'):wpOp P dZ q i K a w:=by
 unfold jS at B;rw[MF]at B;split at B;cases B;rename_i r;cases B;refine VT (wl:=wl) (ai:=ai) z C y E v r (λ_ g F l=>?_) (λh=>by cases h);refine J w G β g ?_ ?_;rw[FT,nF];exact F;rw[show jH β g { s with env:=Dt s.env so.dst (.val .undef) } G n=Ba β g (nJ (eG s.env) so.dst (.val .undef)) s.bx s.st G n by rw[jH,nF]];exact l;rename_i r;have N:so.args.map (P9 s.env)=so.args.map (Gr (eG s.env)):=afj λx _=>I6 s.env x;rw[N]at B;split at B;cases B;rename_i e st' iJ L;have M:∀(w':World) (G':bT) (jE:List wj) (g:Act),s'=⟨Dt (so.args.foldl qv s.env) so.dst e,iJ,st'⟩->FS w' G' jE g (nJ (mM (eG s.env) (vG so.args)) so.dst e) iJ st' n->
   Mv w G (Ba β a (eG s.env) s.bx s.st G n) w' G' (Ba jE g (nJ (mM (eG s.env) (vG so.args)) so.dst e) iJ st' G' n)->K g w':=by
  intro w' G' jE g R F l;subst R;refine J w' G' jE g ?_ ?_;rw[FT,nF,Ae];exact F;rw[show jH jE g ⟨Dt (so.args.foldl qv s.env) so.dst e,iJ,st'⟩ G' n=Ba jE g (nJ (mM (eG s.env) (vG so.args)) so.dst e) iJ st' G' n by rw[jH,nF,Ae]];exact l
 split at B;rename_i H;cases B;exact VT z C y E v r (λh=>by cases h) λ_=>⟨e,st',iJ,L,(λj p=>by rw[H]at p;cases p),λw' G' jE g F l=>M w' G' jE g rfl F l⟩;rename_i j H;split at B;rename_i X8;cases B;refine VT z C y E v r (λh=>by cases h) λ_=>⟨e,st',iJ,L,λj' p t W I=>?_,λw' G' jE g F l=>M w' G' jE g rfl F l⟩;rw[H]at p;cases p;have:=J2 X8 t;rw[nF,Ae]at this;simp only[nJ,mM]at this;rw[U W,U I]at this;exact this;cases B
def wP(S:Nat->Option aQ)(P:Program)(dZ:Array Oper)(n:Nat):List Oper->List eN->Bool
 |[],[]=>Y|o::l,so::m=>MG S P dZ n o so&&wP S P dZ n l m|_,_=>false
theorem J9{dZ Q}(v:mW S P O):∀l m k w G β a s,dZ.toList.drop k=l->wP S P dZ n l m=Y->
  FT w G β a s n->(∀b,jH β a s G n b<=1)->iE O wl ai m s=Z s'->(∀w' G' jE h,FT w' G' jE h s' n->Mv w G (jH β a s G n) w' G' (jH jE h s' G' n)->Q .normal h w')->
  wpOps P dZ Q (List.range' k l.length) a w
 |[],[],k,w,G,β,a,s,p,H,q,g,B,j=>by
  simp only[iE,bE]at B;subst B;simp only[List.length_nil,List.range'_zero,wpOps];exact j w G β a q (Mv.refl g)
 |o::l,so::m,k,w,G,β,a,s,p,H,q,g,B,j=>by
  simp only[wP,E6]at H;simp only[iE]at B;split at B;rename_i L R;simp only[aaK,List.range'_succ];rw[wpOps_cons];have J:dZ[k]?=Z o:=by
   have:(dZ.toList.drop k)[0]?=Z o:=by rw[p];rfl
   rw[List.getElem?_drop]at this;simpa using this
  refine Yr J H.1 v q g R λM x r z C F=>?_;refine J9 v l m (k+1) M x r z L ?_ H.2 C F.one B λN y t W E I=>j N y t W E (F.trans I);rw[show k+1=k+1 from rfl,<-List.drop_drop,p]
  rfl
  cases B
 |[],_::_,_,_,_,_,_,_,_,H,_,_,_,_=>by simp[wP]at H|_::_,[],_,_,_,_,_,_,_,H,_,_,_,_=>by simp[wP]at H
def Ek(P:Program):List ResultVar->List qg->Bool
 |[],[]=>Y|.tmp t::l,.tmp u _::m=>t==u&&Ek P l m|.cell t g::l,.box u _ n agg::m=>t==u&&dD P g n&&rQ P g==Z agg&&(agg||n==1)&&Ek P l m|.cell t g::l,.cell u n agg::m=>t==u&&dD P g n&&rQ P g==Z agg&&(agg||n==1)&&Ek P l m|_,_=>false
def Bm:List qg->List Nat
 |[]=>[]
 |.tmp t Y::l=>t::Bm l|_::l=>Bm l
def y9:List qg->List Nat
 |[]=>[]
 |.box _ j _ _::l=>j::y9 l|_::l=>y9 l
end Ax
namespace Ax
open Go
variable {P:Program}{w w':World}{G G':bT}{β jE:List wj}
variable {a:Act}{bx:jM}{st:aO}{n:Nat}{s:St}
def Ka(tmps:Array Value):ResultVar->Sem Value
 |.tmp t=>pure (tmps.getD t undef)|.cell c t=>do loadVar t (<-asAddr (tmps.getD c undef))
def Ys(U:List Value):Value:=match U with | [u]=>u|_=>.tuple U.toArray
theorem QV{fn tmps U}(h:(fn.results.toList.mapM (Ka tmps)).run P w=.ok U w):(results fn tmps).run P w=.ok (Ys U) w:=by
 have H:(fn.results.mapM (Ka tmps)).run P w=.ok U.toArray w:=by
  have e:fn.results.mapM (Ka tmps)=List.toArray <$> fn.results.toList.mapM (Ka tmps):=by
   rw[Array.mapM_eq_mapM_toList]
  rw[e,map_eq_pure_bind,cq,h]
  rfl
 have l:results fn tmps=(fn.results.mapM (Ka tmps)).bind λvs=>Pure.pure (if h:vs.size=1 then vs[0] else .tuple vs):=rfl;rw[l];show Sem.run P (fn.results.mapM (Ka tmps) >>= λvs=>Pure.pure (if h:vs.size=1 then vs[0] else .tuple vs)) w=_;rw[cq,H];simp only[dA,Sem.run_pure];congr 1;match U with
 |[]=>simp[Ys]|[u]=>simp[Ys]|_::_::_=>simp[Ys]
def zd(b:Nat)(β:List wj)(bx:jM)(j:Nat):Nat:=match β[j]?,bx[j]? with|some g,Z r=>cV b r g.vals|_,_=>0
theorem QW(b):∀β bx,jy (zd b β bx) (Q bx)<=ja b β bx
 |β,[]=>by simp[jy]|[],r::bx=>by
  have:jy (zd b [] (r::bx)) (Q (r::bx))=jy (λ_=>0) (Q (r::bx)):=sY λt _=>by simp[zd]
  rw[this,Mz];omega
 |g::β,r::bx=>by
  have I:=QW b β bx;have h:∀m,jy (zd b (g::β) (r::bx)) (m+1)=zd b (g::β) (r::bx) 0+jy (zd b β bx) m:=by
   intro m;induction m with
   |zero=>simp[jy]|succ m I=>
    have:jy (zd b (g::β) (r::bx)) (m+1+1)=jy (zd b (g::β) (r::bx)) (m+1)+zd b (g::β) (r::bx) (m+1):=rfl;rw[this,I];have e:zd b (g::β) (r::bx) (m+1)=zd b β bx m:=(by simp[zd]);rw[e];simp only[jy];omega
  simp only[aaK];rw[h];have e:zd b (g::β) (r::bx) 0=cV b r g.vals:=by simp[zd]
  rw[e];simp only[ja];omega
theorem dm.cons{a as x xs}(h:bJ w G a x)(k:dm w G as xs):dm w G (a::as) (x::xs):=
 ⟨by simp[k.1],λi c v E r=>by
  cases i with
  |zero=>simp at E r;subst E;subst r;exact h|succ i=>exact k.2 i c v (by simpa using E) (by simpa using r)⟩
theorem HV{t n agg}(l:dD P t n=Y)(z:rQ P t=Z agg){b off}{g:List Value}(h:Q g=n)(q:agg=false->n=1)(H:∀j x,g[j]?=Z x->w.cell? ⟨b,off+j,none⟩=Z x):(loadVar t ⟨b,off,none⟩).run P w=.ok (if agg then .agg g.toArray else g.headD undef) w:=by
 have:=JK (P:=P) l z h q H;simpa [Instr.loadAt,Instr.sureAddr] using this
theorem MI(B:FT w G β a s n):∀l rs vs,Ek P l rs=Y->Ea s rs=Z vs->
  ∃U,(l.mapM (Ka a.tmps)).run P w=.ok U w/\dm w G vs U/\∀b,cV b vs U<=uU (λt=>dH b (eG s.env t) (oY a t)) (Bm rs)+uU (zd b β s.bx) (y9 rs)
 |[],[],vs,_,z=>by
  simp only[Ea,bE]at z;subst z;exact⟨[],rfl,⟨rfl,λi c v h=>by simp at h⟩,λb=>by simp[cV]⟩
 |x::l,r::rs,vs,H,z=>by
  simp only[Ea]at z;split at z;rename_i v vs' q R;cases z;have one:∃u,(Ka a.tmps x).run P w=.ok u w/\bJ w G v u/\Ek P l rs=Y/\∀b,iI b v u+(uU (λt=>dH b (eG s.env t) (oY a t)) (Bm rs)+uU (zd b β s.bx) (y9 rs))<=
    uU (λt=>dH b (eG s.env t) (oY a t)) (Bm (r::rs))+uU (zd b β s.bx) (y9 (r::rs)):=by
   cases x with
   |tmp t=>
    cases r with
    |tmp u mv=>
     simp only[Ek,E6,cJ]at H;obtain⟨rfl,H⟩:=H;simp only[Jx]at q;rw[I6]at q;split at q;rename_i v' y;cases q;have L:=B.yT t;refine⟨oY a t,by simp[Ka],?_,H,λb=>?_⟩;cases mv with
     |true=>simp only[Gr]at y;rw[y]at L;exact L|false=>have:=L.aj;simp only[Gr]at y;rw[y]at this;exact this
     cases mv with
     |true=>simp only[Gr]at y;simp only[Bm,y9,uU,y,dH];omega|false=>
      simp only[Gr]at y;have h0:=Mp b (eG s.env t) (oY a t);rw[y]at h0;simp only[dH]at h0;simp only[Bm,y9];omega
     cases q
    |box u j m agg=>simp[Ek]at H|cell u m agg=>simp[Ek]at H
   |cell t ty=>
    cases r with
    |tmp u mv=>simp[Ek]at H|box u j m agg=>
     simp only[Ek,E6,cJ]at H;obtain⟨⟨⟨⟨rfl,N⟩,zT⟩,qj⟩,H⟩:=H;simp only[Jx]at q;split at q;rename_i i aK X8 iF;split at q;rename_i Is;simp only[E6,aC]at Is;obtain⟨rfl,C⟩:=Is;have E:=B.yT t;rw[X8]at E;obtain⟨g,J,c,e,hg,je,QD,Iv,ir,hle,kJ,fU⟩:=NU B.box E iF;obtain⟨u,W,F,I,_⟩:=IV q Iv.yT;have M:=HV (P:=P) N zT (by rw[<-Iv.yT.1];exact C) (λh=>by subst h;simpa using qj) (b:=J) (off:=0) (λj x hx=>by rw[Nat.zero_add];exact fU j x hx);refine⟨u,?_,F,H,λb=>?_⟩;simp only[Ka,cq];rw[show a.tmps.getD t undef=.pointer (Z ⟨J,0,none⟩) from QD];simp only[asAddr,Sem.run_pure,dA,M,W];rw[I b];simp only[Bm,y9,uU,zd,hg,iF];omega;cases q;cases q
    |cell u m agg=>
     simp only[Ek,E6,cJ]at H;obtain⟨⟨⟨⟨rfl,N⟩,zT⟩,qj⟩,H⟩:=H;simp only[Jx]at q;split at q;rename_i p VH;split at q;rename_i cs JV;have E:=B.yT t;rw[VH]at E;obtain⟨J,off,xs,g1,g2,g3,g4⟩:=Qr B.inv JV E;obtain⟨u,W,F,I,_⟩:=IV q g3.aj;have M:=HV (P:=P) N zT g2 (λh=>by subst h;simpa using qj) g4;refine⟨u,?_,F,H,λb=>?_⟩;simp only[Ka,cq];rw[show a.tmps.getD t undef=.pointer (Z ⟨J,off,none⟩) from g1];simp only[asAddr,Sem.run_pure,dA,M,W];rw[I b,fD b _ _ (jr cs)];simp only[Bm,y9];omega;cases q;cases q
  obtain⟨u,h1,h2,h3,h4⟩:=one;obtain⟨U,F,I,k3⟩:=MI B l rs vs' h3 R;refine⟨u::U,?_,dm.cons h2 I,λb=>?_⟩;rw[List.mapM_cons];simp only[cq,h1,dA,F,Sem.run_pure];have e1:=h4 b;have e2:=k3 b;simp only[cV];omega;cases z
 |[],_::_,_,H,_=>by simp[Ek]at H|x::_,[],_,H,_=>by cases x<;>simp[Ek]at H
end Ax
namespace Ax
open Go
section
variable {K V:Type}
def ux(init:K->V)(EE:Nat->K->Option V)(D:Nat->Bool):Nat->K->V
 |0,x=>init x|k+1,x=>if D k then (EE k x).getD (ux init EE D k x) else ux init EE D k x
variable {init:K->V}{EE:Nat->K->Option V}
theorem rm{D D' x}:∀{N:Nat},(∀k,k<N->D k≠D' k->EE k x=none)->ux init EE D N x=ux init EE D' N x
 |0,_=>rfl|N+1,h=>by
  have I:=rm (N:=N) λk l=>h k (by omega);have j:=h N (by omega);simp only[ux,I];cases H:D N<;>cases g:D' N
  rfl
  rw[j (by rw[H,g];simp)];simp;rw[j (by rw[H,g];simp)];simp
  rfl
theorem GH{D x j}:∀{N:Nat},j<=N->(∀k,j<=k->k<N->D k=Y->EE k x=none)->ux init EE D N x=ux init EE D j x
 |0,p,_=>by
  have:j=0:=by omega
  subst this;rfl
 |N+1,p,h=>by
  by_cases H:j=N+1;subst H;rfl;have I:=GH (N:=N) (j:=j) (by omega) λk g q=>h k g (by omega);simp only[ux];cases l:D N;simpa using I;rw[h N (by omega) (by omega) l];simpa using I
theorem QX{D D' x j N}(y:j<N)(t:D j=false)(H:∀k,D' k=if k=j then Y else D k)(h:∀k,j<k->k<N->D k=Y->EE j x≠none->EE k x=none):
  ux init EE D' N x=(EE j x).getD (ux init EE D N x):=by
 cases B:EE j x with
 |none=>
  simp only[Option.getD_none];refine rm λk z r=>?_;have:=H k;by_cases g:k=j;subst g;exact B;rw[U g]at this;exact bH this r
 |some v=>
  simp only[afA];have l:ux init EE D' N x=ux init EE D' (j+1) x:=GH (by omega) λk l p q=>by
   refine h k (by omega) p ?_ (by rw[B];simp);have:=H k;rw[ah]at this;rw[<-this];exact q
  rw[l];have I:D' j=Y:=by rw[H j,af rfl]
  simp only[ux,I,bz,B,afA]
theorem GI{st:Nat->K->V}{N}(B:∀x,st 0 x=init x)(g:∀k,k<N->∀x,st (k+1) x=(EE k x).getD (st k x)):∀{j:Nat},j<=N->∀x,ux init EE (λk=>decide (k<j)) N x=st j x:=by
 have key:∀m,m<=N->∀x,ux init EE (λ_=>Y) m x=st m x:=by
  intro m;induction m with
  |zero=>intro _ x;exact(B x).symm|succ m p=>
   intro t x;simp only[ux,bz];rw[p (by omega) x,g m (by omega) x]
 intro j h x;rw[GH (j:=j) h λk q r l=>by simp at l;omega];rw[rm (D':=λ_=>Y) λk H I=>by simp[H]at I];exact key j h x
end
def eu.uM(S:Nat->Option aQ):eu->Bool
 |.Ts .. | .alloc _|.box _|.store _|.j8 .. | .xK .. | .makeMap|.mapUpdate _|.wC _|.copy _|.xL=>Y|.load _ _ t=>t|.zN _ _ _ mt=>mt|.call f=>match S f with|some g=>(match g.mode with|.pure=>false|_=>Y)|none=>Y
 |_=>false
def eu.TX:eu->Bool
 |.move|.pick|.bin _|.eqv .. | .un _|.conv _|.Gu _|.nilCheck|.extract _|.field .. | .build .. | .lit .. | .fieldAddr _|.index|.yV .. | .yz .. | .yA .. | .LP .. | .append .. | .makeFunc .. | .EI .. | .afK=>Y|.zN _ _ _ mt=>!mt|_=>false
def eu.bA:eu->Option Nat
 |.yV j _ _ _|.yz j _|.yA j _|.LP j _=>Z j|_=>none
def eu.bW:eu->Option Nat
 |.yV j _ _ t=>if t then Z j else none
 |.yz j _|.yA j _|.LP j _=>Z j|_=>none
variable {wl ai:Nat}{st st':aO}{bx iJ:jM}{vals:List kz}{e:kz}{S:Nat->Option aQ}{O:sN}{op:eu}
theorem abd(H:op.uM S=false)(h:bD wl ai op vals st bx=Z (e,st',iJ)):st'=st:=by
 cases op
 case load agg n t=>
  simp only[eu.uM]at H;subst H;unfold bD at h;simp only[aai,bC]at h;repeat' split at h
  all_goals first|(cases h;rfl)|cases h
 case zN g bytes zero mt=>
  simp only[eu.uM]at H;subst H;unfold bD at h;simp only[aai,bC]at h;repeat' split at h
  all_goals first|(cases h;rfl)|cases h
 all_goals first
  |(simp[eu.uM]at H;done)
  |(unfold bD at h;simp only at h;repeat' split at h)
 all_goals first|(cases h;rfl)|cases h
theorem abe(g:op.TX=Y)(qh):bD wl ai op vals qh bx=(bD wl ai op vals st bx).map λx=>(x.1,qh,x.2.2):=by
 cases op
 case zN h bytes zero mt=>
  simp only[eu.TX,afo]at g;subst g;unfold bD;simp only[aai,bC];repeat' split
  all_goals rfl
 all_goals first
  |(simp[eu.TX]at g;done)
  |(unfold bD;(try unfold uN);simp only;repeat' split)
 all_goals first|rfl|simp_all
theorem QY(l:op.bA=none)(E):bD wl ai op vals st E=(bD wl ai op vals st bx).map λx=>(x.1,x.2.1,E):=by
 cases op;all_goals first
  |(simp[eu.bA]at l;done)
  |(unfold bD;(try unfold uN);simp only;repeat' split)
 all_goals first|rfl|simp_all
structure HW (S:Nat->Option aQ)(O:sN):Prop where
 call:∀wl ai f args st v st' sf,O.call wl ai f args st=some (v,st')->S f=some sf->sf.mode=.pure->st'=st
theorem QZ(S n):HW S (uP S n):=by
 refine⟨λwl ai f args st v st' j h H g=>?_⟩;cases n with
 |zero=>simp[uP]at h|succ n=>
  simp only[uP,H]at h;unfold gu at h;split at h;simp only[adM]at h;obtain⟨x,_,l⟩:=h;cases l
  rfl
  unfold eY at h;split at h;split at h;split at h;rw[g]at h;simp only[Mode.mJ]at h;split at h;cases h;rfl;cases h;cases h;cases h;cases h
theorem VU(l:HW S O)(H:op.uM S=false)(h:yB O wl ai op vals st bx=Z (e,st',iJ)):st'=st:=by
 unfold yB at h;split at h;rename_i f;simp only[eu.uM]at H;split at H;rename_i r j;split at H;rename_i q;unfold iS at h;split at h;rename_i B vs g;have p:B=f:=by
  simp only[qw]at g;split at g;cases g;rfl;cases g
 subst p;split at h;rename_i F;cases h;exact l.call _ _ _ _ _ _ _ _ F j q;cases h;cases h;cases H;cases H;simp[eu.uM]at H;exact abd H h
theorem agm(g:op.TX=Y)(qh)(h:yB O wl ai op vals st bx=Z (e,st',iJ)):yB O wl ai op vals qh bx=Z (e,qh,iJ):=by
 unfold yB at h ⊢;split at h;simp[eu.TX]at g;simp[eu.TX]at g;rename_i H j;rw[abe g qh,h];rfl
theorem N6(l:op.bA=none)(El)(h:yB O wl ai op vals st bx=Z (e,st',iJ)):iJ=bx/\yB O wl ai op vals st El=Z (e,st',El):=by
 have call:∀x,iS O wl ai x st bx=Z (e,st',iJ)->iJ=bx/\iS O wl ai x st El=Z (e,st',El):=by
  intro x h;unfold iS at h ⊢;split at h;rename_i f vs;cases H:O.call wl ai f vs st with
  |none=>rw[H]at h;cases h|some y=>rw[H]at h;cases h;exact⟨rfl,rfl⟩
  cases h
 unfold yB at h ⊢;split at h;exact call _ h;exact call _ h;rename_i g j;have E:=QY (wl:=wl) (ai:=ai) (vals:=vals) (st:=st) (bx:=bx) l bx;rw[h]at E;simp only[Option.map_some,bE,cR,true_and]at E;refine⟨E,?_⟩;rw[QY l El,h];rfl
theorem Q0{El}(hl:Q El=Q bx)(ha:∀b,op.bA=Z b->El[b]?=bx[b]?)(h:yB O wl ai op vals st bx=Z (e,st',iJ)):
  ∃p,yB O wl ai op vals st El=Z (e,st',p)/\Q iJ=Q bx/\Q p=Q El/\(∀b,op.bW=Z b->p[b]?=iJ[b]?)/\(∀b,op.bW≠Z b->p[b]?=El[b]?)/\(∀b,op.bW≠Z b->iJ[b]?=bx[b]?):=by
 cases l:op.bA with
 |none=>
  obtain⟨rfl,N⟩:=N6 l El h;refine⟨El,N,rfl,rfl,λb h=>?_,λ_ _=>rfl,λ_ _=>rfl⟩;cases op<;>simp_all [eu.bA,eu.bW]
 |some j=>
  have C:=ha j l;have B:∀(g:List AV),j<Q bx->Q (bx.set j g)=Q bx/\Q (El.set j g)=Q El/\(El.set j g)[j]?=(bx.set j g)[j]?/\(∀b,j≠b->(El.set j g)[b]?=El[b]?)/\(∀b,j≠b->(bx.set j g)[b]?=bx[b]?):=by
   intro g R;refine⟨by simp,by simp,?_,λb l=>?_,λb l=>?_⟩;rw[aaD,aaD,af rfl,af rfl,af R,dM];rw[aaD,U l];rw[aaD,U l]
  cases op<;>simp only[eu.bA]at l<;>try cases l
  case some.yV.refl agg n z=>
   simp only[yB]at h ⊢;unfold bD at h ⊢;simp only at h ⊢;split at h;rename_i J k;split at h;rename_i I;subst I;split at h;rename_i g y;have R:=(aad.1 y).1;rw[af rfl,C,y];simp only;split at h;rename_i M E;cases z with
   |true=>
    simp only[bz]at h ⊢;split at h;rename_i v hv;cases h;obtain⟨q,W,r,t,x⟩:=B (aB g k (M.map AV.gK)) R;exact⟨_,rfl,q,W,λb l=>by simp[eu.bW]at l;subst l;exact r,λb l=>t b (by simpa [eu.bW] using l),λb l=>x b (by simpa [eu.bW] using l)⟩;cases h
   |false=>
    simp only[aai,bC]at h ⊢;split at h;rename_i v hv;cases h;exact⟨_,rfl,rfl,rfl,λb l=>by simp[eu.bW]at l,λ_ _=>rfl,λ_ _=>rfl⟩;cases h
   cases h;cases h;cases h;cases h
  case some.yz.refl n=>
   simp only[yB]at h ⊢;unfold bD at h ⊢;simp only at h ⊢;split at h;rename_i J k v;split at h;rename_i H;have I:j=J:=(by simp only[E6,aC]at H;exact H.1.1);split at h;rename_i g y;have R:=(aad.1 y).1;rw[af H,C,y];simp only;split at h;rename_i F;cases h;rw[af F];obtain⟨q,W,r,t,x⟩:=B (aB g k v.cells) R;exact⟨_,rfl,q,W,λb l=>by simp[eu.bW]at l;subst l;exact r,λb l=>t b (by simpa [eu.bW] using l),λb l=>x b (by simpa [eu.bW] using l)⟩;cases h;cases h;cases h;cases h
  case some.yA.refl zero=>
   simp only[yB]at h ⊢;unfold bD at h ⊢;simp only at h ⊢;split at h;split at h;rename_i R;cases h;rw[dM];obtain⟨q,W,r,t,x⟩:=B zero R;exact⟨_,rfl,q,W,λb l=>by simp[eu.bW]at l;subst l;exact r,λb l=>t b (by simpa [eu.bW] using l),λb l=>x b (by simpa [eu.bW] using l)⟩;cases h;cases h
  case some.LP.refl n=>
   simp only[yB]at h ⊢;unfold bD at h ⊢;simp only at h ⊢;split at h;rename_i v;split at h;rename_i H;have L:=H;simp only[E6,aC]at L;cases h;rw[af (by simp only[E6,aC];exact⟨⟨by omega,L.1.2⟩,L.2⟩)];obtain⟨q,W,r,t,x⟩:=B v.cells L.1.1;exact⟨_,rfl,q,W,λb l=>by simp[eu.bW]at l;subst l;exact r,λb l=>t b (by simpa [eu.bW] using l),λb l=>x b (by simpa [eu.bW] using l)⟩;cases h;cases h
theorem ak6{b}(h:yB O wl ai op vals st bx=Z (e,st',iJ))(p:∀x∈vals,x.ue b=Y)(g:op.aX≠Z b):e.ue b=Y:=by
 have call:∀x,iS O wl ai x st bx=Z (e,st',iJ)->e.ue b=Y:=by
  intro x h;unfold iS at h;repeat' split at h
  all_goals first|(cases h;rfl)|cases h
 have val:∀a:AV,(kz.val a).ue b=Y:=λ_=>rfl;unfold yB at h;split at h;exact call _ h;exact call _ h
 ·cases op
  case move=>
   unfold bD at h;simp only at h;split at h;cases h;exact p _ (by simp);cases h
  case pick=>
   unfold bD at h;simp only at h;split at h;rename_i c x y;cases h;cases c;exact p _ (by simp);exact p _ (by simp);cases h
  case nilCheck=>
   unfold bD at h;simp only at h;split at h;cases h;exact p _ (by simp);split at h<;>first|(cases h;rfl)|cases h
   cases h
  case fieldAddr off=>
   unfold bD at h;simp only at h;split at h;rename_i j k;cases h;have:=p (.fp j k) (by simp);simpa [kz.ue] using this;cases h;rfl;cases h;rfl;cases h
  case yA j zero=>
   unfold bD at h;simp only at h;split at h;split at h;cases h;simp only[eu.aX,ne_eq,bE]at g;simpa [kz.ue] using g;cases h;cases h
  case LP j n=>
   unfold bD at h;simp only at h;split at h;split at h;cases h;simp only[eu.aX,ne_eq,bE]at g;simpa [kz.ue] using g;cases h;cases h
  all_goals
   unfold bD at h
   (try unfold uN at h)
   simp only at h;repeat' split at h
  all_goals first|(cases h;rfl)|cases h
end Ax
namespace Ax
open Go
def s7(o:Oper):List Nat:=(o.after.toList.filter (Region.binds .any)).map (·.on)
def bms:List Oper->List Nat->List Nat
 |[],g=>g|o::l,g=>bms l (g++[(s7 o).foldl (λm p=>m ||| (1 <<< p) ||| g.getD p 0) 0])
def bef(B:List Nat)(i j:Nat):Bool:=(B.getD j 0).testBit i
def wQ(so:eN):List Nat:=so.dst.toList++vG so.args
def ago:List Src->List Nat
 |[]=>[]
 |.tmp t _::l=>t::ago l|_::l=>ago l
def En(so:eN):List Nat:=ago so.args++(match so.guard with|some (t,_)=>[t]|none=>[])
def oB(S:Nat->Option aQ)(cI:List (Nat×Nat))(i j:Nat)(a b:eN):Bool:=
 (wQ a).all (λt=>!(En b).contains t && !(wQ b).contains t)&&(wQ b).all (λt=>!(En a).contains t) &&
 (match a.op.bW with|some x=>b.op.bA != Z x|none=>Y)&&(match b.op.bW with|some x=>a.op.bA != Z x|none=>Y) &&
 (!(a.op.uM S&&b.op.uM S)||cI.contains (100000+i,j))&&(a.op.TX || !(b.op.uM S)||a.op.uM S||cI.contains (i,j))&&(b.op.TX || !(a.op.uM S)||b.op.uM S||cI.contains (j,i))
def Kc(n:Nat)(f:Nat->Nat->Bool):Bool:=(agb n).all λj=>(agb j).all λi=>f i j
def I7:eu->Bool
 |.store _=>Y|_=>false
def ajG(S:Nat->Option aQ)(m:List eN)(cI:List (Nat×Nat)):Nat×Nat->Bool
 |(c,q)=>if 100000<=c&&V (c<200000) then
   let p:=c-100000
   (match m[p]?,m[q]? with|some a,Z b=>I7 a.op&&I7 b.op&&a.guard.isNone&&b.guard.isNone|_,_=>false) &&
   V (p<q)&&(agb (q-p-1)).all (λd=>match m[p+1+d]? with|some o=>!(o.op.uM S)|none=>false) &&
   cI.all (λx=>decide (100000<=x.1) || !(x.2==p||x.2==q)||cI.contains (100000*(x.1+2)+p,q)) &&
   cI.all (λx=>!(V (100000<=x.1)&&V (x.1<200000))||(x.1==c&&x.2==q))
  else Y
def VZ(S:Nat->Option aQ)(P:Program)(dZ:Array Oper)(n:Nat)(m:List eN)(cI:List (Nat×Nat)):Bool:=
 let B:=bms dZ.toList []
 P.follows .mixedOrders&&wP S P dZ n dZ.toList m&&(V (dZ.size<100000)&&cI.all (ajG S m cI)) &&
 (agb dZ.size).all (λj=>match dZ[j]? with
  |some o=>(s7 o).all (λp=>decide (p<j))&&(agb dZ.size).all λi=>!bef B i j||(s7 o).any λp=>i==p||bef B i p
  |none=>Y) &&
 Kc dZ.size (λi j=>match m[i]?,m[j]? with
  |some a,Z b=>(bef B i j||oB S cI i j a b)&&(match a.op.aX,b.op.aX with|some x,Z y=>x != y|_,_=>Y)|_,_=>Y)
theorem BZ{n f}(h:Kc n f=Y){i j}(H:i<j)(g:j<n):f i j=Y:=by
 simp only[Kc,aam,amq]at h;exact h j g i H
variable {S:Nat->Option aQ}{P:Program}{dZ:Array Oper}{n:Nat}{m:List eN}{cI:List (Nat×Nat)}
theorem Ke:∀{l:List Oper}{m:List eN},wP S P dZ n l m=Y->Q l=Q m/\∀(i:Nat) o so,l[i]?=Z o->m[i]?=Z so->MG S P dZ n o so=Y
 |[],[],_=>⟨rfl,λi o so h=>by simp at h⟩
 |o::l,so::m,h=>by
  simp only[wP,E6]at h;obtain⟨E,r⟩:=Ke h.2;refine⟨by simp[E],λi p j H g=>?_⟩;cases i with
  |zero=>simp at H g;subst H;subst g;exact h.1|succ i=>exact r i p j (by simpa using H) (by simpa using g)
 |[],_::_,h=>by simp[wP]at h|_::_,[],h=>by simp[wP]at h
def abf(dZ:Array Oper)(D:Nat->Bool):Prop:=∀(j:Nat) o,dZ[j]?=Z o->D j=Y->∀p∈s7 o,D p=Y
structure ajH (S:Nat->Option aQ)(P:Program)(dZ:Array Oper)(n:Nat)(m:List eN)(cI:List (Nat×Nat)):Prop where
 fol:P.follows .mixedOrders=true
 len:m.length=dZ.size
 get:∀(i:Nat) o so,dZ[i]?=some o->m[i]?=some so->MG S P dZ n o so=true
 lt:∀(j:Nat) o,dZ[j]?=some o->∀p∈s7 o,p<j
 apA:∀(D:Nat->Bool),abf dZ D->∀(j:Nat) o,dZ[j]?=some o->(∀p∈s7 o,D p=true)->∀(k:Nat) a b,k<j->D k=false->m[k]?=some a->m[j]?=some b->oB S cI k j a b=true
 apB:∀(D:Nat->Bool),abf dZ D->∀(j k:Nat) a b,j<k->D j=false->D k=true->m[j]?=some a->m[k]?=some b->oB S cI j k a b=true
 MJ:m.length<100000
 xt:∀p q,p<100000->(100000+p,q)∈cI->p<q/\(∃a b,m[p]?=some a/\m[q]?=some b/\I7 a.op=true/\I7 b.op=true/\a.guard=none/\b.guard=none)/\(∀(j:Nat) o,p<j->j<q->m[j]?=some o->o.op.uM S=false)/\
  (∀k w,(k,w)∈cI->k<100000->w=p\/w=q->(100000*(k+2)+p,q)∈cI)/\∀i j,i<100000->(100000+i,j)∈cI->i=p/\j=q
 ajI:∀(i j:Nat) a b x,i<j->m[i]?=some a->m[j]?=some b->a.op.aX=some x->b.op.aX≠some x
theorem abg(h:VZ S P dZ n m cI=Y):ajH S P dZ n m cI:=by
 unfold VZ at h;simp only[E6,aam,amq]at h;obtain⟨⟨⟨⟨h1,h2⟩,H,F⟩,h3⟩,L⟩:=h;obtain⟨e1,e2⟩:=Ke h2;have g:Q m=dZ.size:=by rw[<-e1];simp
 have bK:∀(j:Nat) o,dZ[j]?=Z o->∀p∈s7 o,p<j:=λj o z p v=>by
  have:=h3 j (aaA.1 z).1;rw[z]at this;simp only[E6,aam,aC]at this;exact this.1 p v
 have Tf:∀(D:Nat->Bool),abf dZ D->∀(j:Nat) o,dZ[j]?=Z o->(∀p∈s7 o,D p=Y)->∀i,i<dZ.size->bef (bms dZ.toList []) i j=Y->D i=Y:=by
  intro D C j;induction j using akm with
  |_ j ih=>
   intro o z v i M l;have:=h3 j (aaA.1 z).1;rw[z]at this;simp only[E6,aam,amq,abh,afo,List.any_eq_true,cJ]at this;rcases this.2 i M with H|⟨p,y,F⟩;rw[l]at H;cases H;rcases F with rfl|F;exact v i y;have R:=bK j o z p y;have U:p<dZ.size:=(by have:=(aaA.1 z).1;omega);have DC:dZ[p]?=Z dZ[p]:=(by simp[U]);exact ih p R dZ[p] DC (λq hq=>C p dZ[p] DC (v p y) q hq) i M F
 refine⟨h1,g,λi o so z W=>e2 i o so (by simpa using z) W,bK,λD C j o z v k a b E r t l=>?_,λD C j k a b tU I r t l=>?_,by rw[g];simpa using H,λp q v Qy=>?_,λi j a b x J t l hx hy=>?_⟩;have N:=(aaA.1 z).1;have:=BZ L E N;rw[t,l]at this;simp only[E6,abh]at this;rcases this.1 with H|H;rw[Tf D C j o z v k (by omega) H]at r;cases r;exact H;have E:k<dZ.size:=by rw[<-g];exact(aad.1 l).1
 have:=BZ L tU E;rw[t,l]at this;simp only[E6,abh]at this;have Kf:dZ[k]?=Z dZ[k]:=by simp[E]
 rcases this.1 with H|H;rw[Tf D C k dZ[k] Kf (C k dZ[k] Kf r) j (by omega) H]at I;cases I;exact H;have:=F _ Qy;simp only[ajG]at this;rw[af (by simp;omega)]at this;simp only[Nat.add_sub_cancel_left,E6,aC,aam,amq,abh,afo,Bool.or_eq_false_iff,ahb,Prod.forall,ah8,cJ,beq_eq_false_iff_ne,decide_eq_false_iff_not]at this;obtain⟨⟨⟨⟨B,t2⟩,t3⟩,t4⟩,t5⟩:=this;refine⟨t2,?_,λj o EF Bn z=>?_,λk w E rI hw=>?_,λi j M J=>?_⟩;split at B;rename_i a b t l;simp only[E6,Option.isNone_iff_eq_none]at B;exact⟨a,b,t,l,B.1.1.1,B.1.1.2,B.1.2,B.2⟩;cases B;have:=t3 (j-p-1) (by omega);rw[show p+1+(j-p-1)=j by omega,z]at this;simpa using this;rcases t4 k w E with (h|h)|h;omega;exfalso;rcases hw with e|e
 exact h.1 e;exact h.2 e;exact h;rcases t5 _ _ J with h|h;omega;exact⟨by omega,h.2⟩;have N:j<dZ.size:=by rw[<-g];exact(aad.1 l).1
 have:=BZ L J N;rw[t,l]at this;simp only[E6]at this;have H:=this.2;rw[hx,hy]at H;simp at H
end Ax
namespace Ax
open Go
variable {S:Nat->Option aQ}{P:Program}{O:sN}{wl ai:Nat}
theorem HX:∀{m:List eN}{s e:St}{mQ:List St},cY O wl ai m s=Z (e,mQ)->
  (Q mQ)=Q m+1/\mQ[0]?=Z s/\mQ[Q m]?=Z e/\∀i so,m[i]?=Z so->∃x y,mQ[i]?=Z x/\mQ[i+1]?=Z y/\jS O wl ai so x=Z y
 |[],s,e,mQ,h=>by
  simp only[cY,bE,cR]at h;obtain⟨rfl,rfl⟩:=h;exact⟨rfl,rfl,rfl,λi so h=>by simp at h⟩
 |o::m,s,e,mQ,h=>by
  simp only[cY]at h;split at h;rename_i v R;split at h;rename_i E L t;cases h;obtain⟨l,p,q,r⟩:=HX t;refine⟨by simp[l],rfl,by simpa using q,λi so H=>?_⟩;cases i with
  |zero=>simp at H;subst H;exact⟨s,v,rfl,by simpa using p,R⟩|succ i=>
   obtain⟨x,y,j,W,g⟩:=r i so (by simpa using H);exact⟨x,y,by simpa using j,by simpa using W,g⟩
  cases h;cases h
structure ak7 (S:Nat->Option aQ)(O:sN)(wl ai:Nat)(so:eN)(s t:St):Prop where
 BJ:∀u,u ∉ wQ so->eG t.env u=eG s.env u
 avT:∀b,so.op.bW≠some b->t.bx[b]?=s.bx[b]?
 agr:t.bx.length=s.bx.length
 ak8:so.op.uM S=false->t.st=s.st
 non:qJ s.env so.guard=some false->eG t.env=nJ (eG s.env) so.dst (.val .undef)/\t.bx=s.bx/\t.st=s.st
 yes:qJ s.env so.guard=some true->∃e,yB O wl ai so.op (so.args.map (P9 s.env)) s.st s.bx=some (e,t.st,t.bx)/\eG t.env=nJ (mM (eG s.env) (vG so.args)) so.dst e
 wan:qJ s.env so.guard≠none
theorem avU{so s t}(q:HW S O)(h:jS O wl ai so s=Z t):ak7 S O wl ai so s t:=by
 unfold jS at h;split at h;cases h;rename_i H;cases h;refine⟨λu g=>?_,λ_ _=>rfl,rfl,λ_=>rfl,λ_=>⟨nF _ _ _,rfl,rfl⟩,λh=>(by rw[H]at h;cases h),(by rw[H];simp)⟩;simp only[wQ,aaw,akz,not_or]at g;rw[nF];simp only[nJ];rw[U g.1];rename_i H;split at h;cases h;rename_i e st' iJ j;have M:t=⟨Dt (so.args.foldl qv s.env) so.dst e,iJ,st'⟩->ak7 S O wl ai so s t:=by
  intro r;subst r;have B:eG (Dt (so.args.foldl qv s.env) so.dst e)=nJ (mM (eG s.env) (vG so.args)) so.dst e:=by rw[nF,Ae]
  have l:(∀b,so.op.bW≠Z b->iJ[b]?=s.bx[b]?)/\Q iJ=Q s.bx:=by
   obtain⟨El,v,p,x,y,z,C⟩:=Q0 (El:=s.bx) rfl (λ_ _=>rfl) j;exact⟨C,p⟩
  refine⟨λu g=>?_,l.1,l.2,λI=>VU q I j,λh=>(by rw[H]at h;cases h),λ_=>⟨e,j,B⟩,(by rw[H];simp)⟩;simp only[wQ,aaw,akz,not_or]at g;show eG (Dt (so.args.foldl qv s.env) so.dst e) u=_;rw[B];simp only[nJ,mM];rw[U g.1,U g.2]
 split at h;cases h;exact M rfl;split at h;cases h;exact M rfl;cases h
structure Text (S:Nat->Option aQ)(O:sN)(wl ai:Nat)(m:List eN)(T:Nat->St):Prop where
 one:∀(i:Nat) so,m[i]?=some so->ak7 S O wl ai so (T i) (T (i+1))
def TY(m:List eN)(T:Nat->St)(k:Nat)(t:Nat):Option kz:=match m[k]? with
 |some so=>if t∈wQ so then Z (eG (T (k+1)).env t) else none
 |none=>none
def TZ(m:List eN)(T:Nat->St)(k:Nat)(b:Nat):Option (Option (List AV)):=match m[k]? with
 |some so=>if so.op.bW=Z b then Z ((T (k+1)).bx[b]?) else none
 |none=>none
def T1(S:Nat->Option aQ)(m:List eN)(T:Nat->St)(k:Nat)(_:Unit):Option aO:=match m[k]? with
 |some so=>if so.op.uM S=Y then Z (T (k+1)).st else none
 |none=>none
abbrev vT(m:List eN)(T:Nat->St)(D:Nat->Bool)(t:Nat):kz:=ux (eG (T 0).env) (TY m T) D (Q m) t
abbrev vB(m:List eN)(T:Nat->St)(D:Nat->Bool)(b:Nat):Option (List AV):=ux (λb=>(T 0).bx[b]?) (TZ m T) D (Q m) b
abbrev vS(S:Nat->Option aQ)(m:List eN)(T:Nat->St)(D:Nat->Bool):aO:=ux (λ_=>(T 0).st) (T1 S m T) D (Q m) ()
section
variable {m:List eN}{T:Nat->St}
theorem abi(h:Text S O wl ai m T){j}(g:j<=Q m)(t):vT m T (λk=>decide (k<j)) t=eG (T j).env t:=by
 refine GI (st:=λk t=>eG (T k).env t) (λ_=>rfl) (λk l x=>?_) g t;have H:m[k]?=Z m[k]:=aae l;simp only[TY,H];split
 rfl
 rename_i p;exact(h.one k _ H).BJ x p
theorem abj(h:Text S O wl ai m T){j}(g:j<=Q m)(b):vB m T (λk=>decide (k<j)) b=(T j).bx[b]?:=by
 refine GI (st:=λk b=>(T k).bx[b]?) (λ_=>rfl) (λk l x=>?_) g b;have H:m[k]?=Z m[k]:=aae l;simp only[TZ,H];split
 rfl
 rename_i p;exact(h.one k _ H).avT x p
theorem abk(h:Text S O wl ai m T){j}(g:j<=Q m):vS S m T (λk=>decide (k<j))=(T j).st:=by
 refine GI (st:=λk (_:Unit)=>(T k).st) (λ_=>rfl) (λk l x=>?_) g ();have H:m[k]?=Z m[k]:=aae l;simp only[T1,H];split
 rfl
 rename_i p;exact(h.one k _ H).ak8 (by simpa using p)
theorem V1(D):∀N,N<=Q m->∃p,p<=N/\ux (λ_=>(T 0).st) (T1 S m T) D N ()=(T p).st/\
  (p=0\/∃q so,p=q+1/\m[q]?=Z so/\D q=Y/\so.op.uM S=Y)/\∀j so,p<=j->j<N->m[j]?=Z so->so.op.uM S=Y->D j=false
 |0,_=>⟨0,aal _,rfl,.inl rfl,λj so y r=>by omega⟩
 |N+1,F=>by
  obtain⟨p,y,r,z,B⟩:=V1 D N (by omega);have g:m[N]?=Z m[N]:=aae (by omega);by_cases l:D N=Y/\(m[N]).op.uM S=Y;refine⟨N+1,aal _,?_,.inr ⟨N,m[N],rfl,g,l.1,l.2⟩,λj so v C=>by omega⟩;simp only[ux,l.1,T1,g,bz,l.2,afA];refine⟨p,by omega,?_,z,λj so v C t x=>?_⟩;simp only[ux];cases H:D N with
  |false=>simpa using r|true=>
   have:¬(m[N]).op.uM S=Y:=λh=>l ⟨H,h⟩;simp only[T1,g,bz];rw[U this];simpa using r
  by_cases E:j=N;subst E;rw[g]at t;cases t;cases H:D j with
  |false=>rfl|true=>exact bH ⟨H,x⟩ l
  exact B j so v (by omega) t x
theorem E7(h:Text S O wl ai m T){p}:∀d,p+d<=Q m->(∀j so,p<=j->j<p+d->m[j]?=Z so->so.op.uM S=false)->(T (p+d)).st=(T p).st
 |0,_,_=>rfl|d+1,r,g=>by
  have H:m[p+d]?=Z m[p+d]:=aae (by omega);have e:=(h.one (p+d) _ H).ak8 (g (p+d) _ (by omega) (by omega) H);rw[show p+(d+1)=p+d+1 by omega,e];exact E7 h d (by omega) λj so l q=>g j so l (by omega)
theorem V2(S)(m:List eN)(p):∀d,p+d<=Q m->(∀j so,p<=j->j<p+d->m[j]?=Z so->so.op.uM S=false)\/
  ∃(w:Nat) (so:eN),p<=w/\w<p+d/\m[w]?=Z so/\so.op.uM S=Y/\∀j so,p<=j->j<w->m[j]?=Z so->so.op.uM S=false
 |0,_=>.inl λj so H t=>by omega|d+1,B=>by
  rcases V2 S m p d (by omega) with h|⟨w,so,H,t,v,x,y⟩;have q:m[p+d]?=Z m[p+d]:=aae (by omega);cases r:(m[p+d]).op.uM S with
  |true=>exact .inr ⟨p+d,_,by omega,by omega,q,r,λj so g W=>h j so g W⟩|false=>
   refine .inl λj so g W l=>?_;by_cases z:j=p+d;subst z;rw[q]at l;cases l;exact r;exact h j so g (by omega) l
  exact .inr ⟨w,so,H,by omega,v,x,y⟩
end
end Ax
namespace Ax
open Go
variable {S:Nat->Option aQ}{P:Program}{O:sN}{wl ai n:Nat}
variable {dZ:Array Oper}{m:List eN}{cI:List (Nat×Nat)}{T:Nat->St}{xp:Option (Nat×Nat×aO)}
structure Spc (S:Nat->Option aQ)(O:sN)(wl ai:Nat)(m:List eN)(cI:List (Nat×Nat))(T:Nat->St)(p q:Nat)(X:aO):Prop where
 lt:p<q
 ql:q<m.length
 mem:(100000+p,q)∈cI
 wp:∀a,m[p]?=some a->a.op.uM S=true/\a.guard=none
 wq:∀a,m[q]?=some a->a.op.uM S=true/\a.guard=none
 gap:∀(j:Nat) o,p<j->j<q->m[j]?=some o->o.op.uM S=false
 un:∀i j,i<100000->(100000+i,j)∈cI->i=p/\j=q
 cl:∀k w,(k,w)∈cI->k<100000->w=p\/w=q->(100000*(k+2)+p,q)∈cI
 x1:∀a,m[q]?=some a->∀e bx iJ,yB O wl ai a.op (a.args.map (P9 (T q).env)) (T q).st bx=some (e,(T (q+1)).st,iJ)->yB O wl ai a.op (a.args.map (P9 (T q).env)) (T p).st bx=some (e,X,iJ)
 x2:∀a,m[p]?=some a->∀e bx iJ,yB O wl ai a.op (a.args.map (P9 (T p).env)) (T p).st bx=some (e,(T (p+1)).st,iJ)->yB O wl ai a.op (a.args.map (P9 (T p).env)) X bx=some (e,(T (q+1)).st,iJ)
 rd:∀k,(100000*(k+2)+p,q)∈cI->∀o,m[k]?=some o->cA O wl ai o (T k) (T (k+1)) X=true
structure Tj (S:Nat->Option aQ)(P:Program)(O:sN)(wl ai n:Nat)(dZ:Array Oper)(m:List eN)(cI:List (Nat×Nat))(T:Nat->St)(xp:Option (Nat×Nat×aO)):Prop where
 dr:ajH S P dZ n m cI
 tx:Text S O wl ai m T
 pr:∀q w,q<100000->(q,w)∈cI->∀o,m[q]?=some o->cA O wl ai o (T q) (T (q+1)) (T w).st=true/\cA O wl ai o (T q) (T (q+1)) (T (w+1)).st=true
 sn:xp=none->∀i j,i<100000->(100000+i,j) ∉ cI
 sp:∀p q X,xp=some (p,q,X)->Spc S O wl ai m cI T p q X
 bo:∀(i:Nat) so j,m[i]?=some so->so.op.aX=some j->fP j (T 0).env=true
 pu:HW S O
theorem I8{i j a b}(h:oB S cI i j a b=Y):(∀t,t∈wQ a->t ∉ En b/\t ∉ wQ b)/\(∀t,t∈wQ b->t ∉ En a):=by
 simp only[oB,E6,aam,afo,ahb,decide_eq_false_iff_not]at h;exact⟨h.1.1.1.1.1.1,h.1.1.1.1.1.2⟩
theorem N8{i j a b}(h:oB S cI i j a b=Y):(∀x,a.op.bW=Z x->b.op.bA≠Z x)/\(∀x,b.op.bW=Z x->a.op.bA≠Z x):=by
 simp only[oB,E6]at h;obtain⟨⟨⟨⟨⟨_,H⟩,g⟩,_⟩,_⟩,_⟩:=h;refine⟨λx l=>?_,λx l=>?_⟩;rw[l]at H;simpa using H;rw[l]at g;simpa using g
theorem E8{i j a b}(h:oB S cI i j a b=Y):(a.op.uM S=Y/\b.op.uM S=Y->(100000+i,j)∈cI)/\(a.op.TX=Y\/b.op.uM S=false\/a.op.uM S=Y\/(i,j)∈cI)/\(b.op.TX=Y\/a.op.uM S=false\/b.op.uM S=Y\/(j,i)∈cI):=by
 simp only[oB,E6,abh,afo,ah8,ahb,aC]at h;obtain⟨⟨⟨_,l⟩,H⟩,g⟩:=h;refine⟨λ⟨x,y⟩=>?_,by rcases H with ((h|h)|h)|h<;>simp[h],by rcases g with ((h|h)|h)|h<;>simp[h]⟩;rcases l with (h|h)|h;rw[x]at h;cases h;rw[y]at h;cases h;exact h
theorem ajJ{op:eu}{x}(h:op.bW=Z x):op.bA=Z x:=by
 cases op<;>simp[eu.bW]at h<;>simp[eu.bA,h]
structure LH (dZ:Array Oper)(m:List eN)(D:Nat->Bool)(k:Nat)(o:Oper)(so:eN):Prop where
 down:abf dZ D
 ho:dZ[k]?=some o
 hs:m[k]?=some so
 pre:∀p∈s7 o,D p=true
 new:D k=false
theorem LH.oB(z:Tj S P O wl ai n dZ m cI T xp){D k o so}(h:LH dZ m D k o so){j b}(l:m[j]?=Z b)(g:D j≠V (j<k)):
  (j<k/\D j=false/\oB S cI j k b so=Y)\/(k<j/\D j=Y/\oB S cI k j so b=Y):=by
 rcases aoM j k with H|H|H;have:D j=false:=by rw[cH H]at g;simpa using g
 exact .inl ⟨H,this,z.dr.apA D h.down k o h.ho h.pre j b so H this l h.hs⟩;subst H;exact bH (h.new.trans (by simp)) g;have:D j=Y:=by rw[eX (by omega)]at g;simpa using g
 exact .inr ⟨H,this,z.dr.apB D h.down k j so b H h.new this h.hs l⟩
section
variable {D:Nat->Bool}{k:Nat}{o:Oper}{so:eN}
theorem LH.lt(h:LH dZ m D k o so):k<Q m:=(aad.1 h.hs).1
theorem LH.ags(z:Tj S P O wl ai n dZ m cI T xp)(h:LH dZ m D k o so){t}(H:t∈wQ so\/t∈En so):vT m T D t=eG (T k).env t:=by
 rw[<-abi z.tx (al5 h.lt)];refine rm λj q p=>?_;have l:m[j]?=Z m[j]:=aae q;simp only[TY,l];rw[U];intro y;rcases h.oB z l p with⟨_,_,g⟩|⟨_,_,g⟩;have:=(I8 g).1 t y;rcases H with H|H;exact this.2 H;exact this.1 H;rcases H with H|H;exact((I8 g).1 t H).2 y;exact(I8 g).2 t y H
theorem LH.box(z:Tj S P O wl ai n dZ m cI T xp)(h:LH dZ m D k o so){b}(l:so.op.bA=Z b):vB m T D b=(T k).bx[b]?:=by
 rw[<-abj z.tx (al5 h.lt)];refine rm λj r q=>?_;have g:m[j]?=Z m[j]:=aae r;simp only[TZ,g];rw[U];intro p;rcases h.oB z g q with⟨_,_,H⟩|⟨_,_,H⟩;exact(N8 H).1 b p l;exact(N8 H).2 b p l
def vX(S:Nat->Option aQ)(m:List eN)(T:Nat->St)(xp:Option (Nat×Nat×aO))(D:Nat->Bool):aO:=match xp with
 |some (p,q,g)=>if D q && !D p then g else vS S m T D
 |none=>vS S m T D
theorem wR{D}(h:∀p q g,xp=Z (p,q,g)->D q=Y->D p=Y):vX S m T xp D=vS S m T D:=by
 unfold vX;cases xp with
 |none=>rfl|some x=>
  obtain⟨p,q,g⟩:=x;simp only;rw[U];intro H;simp only[E6,afo]at H;rw[h p q g rfl H.1]at H;cases H.2
theorem Kg{D p q g}(l:xp=Z (p,q,g))(h:D q=Y)(H:D p=false):vX S m T xp D=g:=by
 unfold vX;rw[l];simp[h,H]
theorem Tj.two(z:Tj S P O wl ai n dZ m cI T xp){i j a b}(v:m[i]?=Z a)(h:oB S cI i j a b=Y)(r:a.op.uM S=Y)(t:b.op.uM S=Y):∃g,xp=Z (i,j,g):=by
 have H:=(E8 h).1 ⟨r,t⟩;have L:i<100000:=anF (aad.1 v).1 z.dr.MJ;cases l:xp with
 |none=>exact bH H (z.sn l i j L)|some x=>
  obtain⟨p,q,g⟩:=x;obtain⟨rfl,rfl⟩:=(z.sp p q g l).un i j L H;exact⟨g,rfl⟩
theorem LH.abl(z:Tj S P O wl ai n dZ m cI T xp)(h:LH dZ m D k o so)(t:so.op.uM S=Y){j b}(r:m[j]?=Z b)(q:b.op.uM S=Y)(v:D j≠V (j<k)):
  (j<k/\D j=false/\∃g,xp=Z (j,k,g))\/(k<j/\D j=Y/\∃g,xp=Z (k,j,g)):=by
 rcases h.oB z r v with⟨H,l,p⟩|⟨H,l,p⟩;exact .inl ⟨H,l,z.two r p q t⟩;exact .inr ⟨H,l,z.two h.hs p t q⟩
theorem Tj.at(z:Tj S P O wl ai n dZ m cI T xp){D t}(q:t<=Q m)(h:∀j b,m[j]?=Z b->b.op.uM S=Y->D j=V (j<t)):vS S m T D=(T t).st:=by
 rw[<-abk z.tx q];refine rm λj p l=>?_;have g:m[j]?=Z m[j]:=aae p;simp only[T1,g];rw[U];intro H;exact l (h j _ g H)
def ou(D:Nat->Bool)(k:Nat):Nat->Bool:=λj=>if j=k then Y else D j
theorem vH{j}(h:j≠k):ou D k j=D j:=by simp[ou,h]
theorem E9:ou D k k=Y:=by simp[ou]
theorem LH.ajK(J:Tj S P O wl ai n dZ m cI T xp)(h:LH dZ m D k o so)(hw:so.op.uM S=Y):
  (vX S m T xp D=(T k).st/\vX S m T xp (ou D k)=(T (k+1)).st)\/
  (∃p l,xp=Z (p,k,l)/\vX S m T xp D=(T p).st/\vX S m T xp (ou D k)=l)\/
  (∃q l,xp=Z (k,q,l)/\vX S m T xp D=l/\vX S m T xp (ou D k)=(T (q+1)).st):=by
 have hk:=h.lt;have plain:(∀(j:Nat) b,m[j]?=Z b->b.op.uM S=Y->D j=V (j<k))->vS S m T D=(T k).st/\vS S m T (ou D k)=(T (k+1)).st:=λM=>by
  refine⟨J.at (al5 hk) M,J.at hk λj b r H=>?_⟩;by_cases I:j=k;subst I;rw[E9];simp;rw[vH I,M j b r H];exact decide_eq_decide.2 ⟨λh=>by omega,λh=>by omega⟩
 cases t:xp with
 |none=>
  refine .inl ?_;have:=plain λj b r H=>Classical.byContradiction λy=>by
   rcases h.abl J hw r H y with⟨_,_,l,e⟩|⟨_,_,l,e⟩<;>rw[t]at e<;>cases e
  exact this
 |some x=>
  obtain⟨p,q,l⟩:=x;have F:=J.sp p q l t;have Tl:q<Q m:=F.ql;have Qa:p<Q m:=anF F.lt Tl;have hpm:m[p]?=Z m[p]:=aae Qa;have hqm:m[q]?=Z m[q]:=aae Tl;have hpw:=(F.wp _ hpm).1;have hqw:=(F.wq _ hqm).1;have Qy:=F.lt;rw[<-t];have other:∀(j:Nat) b,m[j]?=Z b->b.op.uM S=Y->D j≠V (j<k)->(j=p/\k=q/\D p=false)\/(k=p/\j=q/\D q=Y):=λj b r H y=>by
   rcases h.abl J hw r H y with⟨_,g,B,e⟩|⟨_,g,B,e⟩;rw[t]at e;cases e;exact .inl ⟨rfl,rfl,g⟩;rw[t]at e;cases e;exact .inr ⟨rfl,rfl,g⟩
  by_cases E:k=q;subst E;cases z:D p with
  |true=>
   refine .inl ?_;have M:∀(j:Nat) b,m[j]?=Z b->b.op.uM S=Y->D j=V (j<k):=λj b r H=>Classical.byContradiction λy=>by
    rcases other j b r H y with⟨_,_,g⟩|⟨g,_,_⟩;rw[z]at g;cases g;omega
   rw[wR λN R B e v=>?_,wR λN R B e v=>?_];exact plain M;rw[t]at e;cases e;rw[vH (by omega)];exact z;rw[t]at e;cases e;exact z
  |false=>
   refine .inr (.inl ⟨p,l,t,?_,?_⟩);rw[wR λN R B e v=>by rw[t]at e;cases e;rw[h.new]at v;cases v];refine J.at (by omega) λj b r H=>?_;by_cases hjp:j=p;subst hjp;rw[z];simp;by_cases I:j=k;subst I;rw[h.new];symm;rw[decide_eq_false_iff_not];omega;by_cases U:p<j/\j<k;have:=F.gap j b U.1 U.2 r;rw[this]at H;cases H;have:D j=V (j<k):=Classical.byContradiction λy=>by
    rcases other j b r H y with⟨g,_,_⟩|⟨g,_,_⟩;exact hjp g;omega
   rw[this];exact decide_eq_decide.2 ⟨λh=>by omega,λh=>by omega⟩;exact Kg t E9 (by rw[vH (by omega)];exact z)
  by_cases L:k=p;subst L;cases C:D q with
  |false=>
   refine .inl ?_;have M:∀(j:Nat) b,m[j]?=Z b->b.op.uM S=Y->D j=V (j<k):=λj b r H=>Classical.byContradiction λy=>by
    rcases other j b r H y with⟨_,g,_⟩|⟨_,_,g⟩;exact E g;rw[C]at g;cases g
   rw[wR λN R B e v=>?_,wR λN R B e v=>?_];exact plain M;rw[t]at e;cases e;exact E9;rw[t]at e;cases e;rw[C]at v;cases v
  |true=>
   refine .inr (.inr ⟨q,l,t,Kg t C h.new,?_⟩);rw[wR λN R B e v=>by rw[t]at e;cases e;exact E9];refine J.at F.ql λj b r H=>?_;by_cases I:j=k;subst I;rw[E9];symm;rw[decide_eq_true_iff];omega;rw[vH I];by_cases hjq:j=q;subst hjq;rw[C];simp;by_cases U:k<j/\j<q;have:=F.gap j b U.1 U.2 r;rw[this]at H;cases H;have:D j=V (j<k):=Classical.byContradiction λy=>by
    rcases other j b r H y with⟨g,_,_⟩|⟨_,g,_⟩;exact I g;exact hjq g
   rw[this];exact decide_eq_decide.2 ⟨λh=>by omega,λh=>by omega⟩
  refine .inl ?_;have M:∀(j:Nat) b,m[j]?=Z b->b.op.uM S=Y->D j=V (j<k):=λj b r H=>Classical.byContradiction λy=>by
   rcases other j b r H y with⟨_,g,_⟩|⟨g,_,_⟩;exact E g;exact L g
  have W:D q=Y->D p=Y:=λv=>Classical.byContradiction λhp=>by
   have Yu:D p=false:=(by simpa using hp);have g1:=M p _ hpm hpw;have g2:=M q _ hqm hqw;rw[Yu]at g1;rw[v]at g2;have g1:=of_decide_eq_false g1.symm;have g2:=of_decide_eq_true g2.symm;omega
  rw[wR λN R B e v=>?_,wR λN R B e v=>?_];exact plain M;rw[t]at e;cases e;rw[vH (λe=>E e.symm)]at v;rw[vH (λe=>L e.symm)];exact W v;rw[t]at e;cases e;exact W v
theorem LH.still(h:LH dZ m D k o so)(z:Tj S P O wl ai n dZ m cI T xp)(H:so.op.uM S=false):vX S m T xp (ou D k)=vX S m T xp D:=by
 have e:vS S m T (ou D k)=vS S m T D:=by
  refine rm λj y l=>?_;by_cases I:j=k;subst I;simp[T1,h.hs,H];rw[vH I]at l;exact bH rfl l
 cases v:xp with
 |none=>simp only[vX];exact e|some x=>
  obtain⟨p,q,g⟩:=x;have F:=z.sp p q g v;have r:p≠k:=λB=>by subst B;have:=(F.wp _ h.hs).1;rw[H]at this;cases this
  have t:q≠k:=λB=>by subst B;have:=(F.wq _ h.hs).1;rw[H]at this;cases this
  simp only[vX,vH r,vH t,e]
theorem LH.avX(z:Tj S P O wl ai n dZ m cI T xp)(h:LH dZ m D k o so)(J:so.op.TX=false)(L:so.op.uM S=false):
  vX S m T xp D=(T k).st\/cA O wl ai so (T k) (T (k+1)) (vX S m T xp D)=Y:=by
 have B:k<100000:=anF h.lt z.dr.MJ;by_cases v:∃p q g,xp=Z (p,q,g)/\D q=Y/\D p=false;obtain⟨p,q,g,M,l,H⟩:=v;right;have F:=z.sp p q g M;rw[Kg M l H];refine F.rd k ?_ so h.hs;have Tl:q<Q m:=F.ql;have Qa:p<Q m:=anF F.lt Tl;have y:m[p]?=Z m[p]:=aae Qa;have x:m[q]?=Z m[q]:=aae Tl;rcases aoM k q with E|E|E;have r:=z.dr.apB D h.down k q so _ E h.new l h.hs x;rcases (E8 r).2.1 with e|e|e|e;rw[J]at e;cases e;rw[(F.wq _ x).1]at e;cases e;rw[L]at e;cases e;exact F.cl k q e B (.inr rfl);subst E;rw[h.new]at l;cases l;have r:=z.dr.apA D h.down k o h.ho h.pre p _ so (by have:=F.lt;omega) H y h.hs;rcases (E8 r).2.2 with e|e|e|e;rw[J]at e;cases e;rw[(F.wp _ y).1]at e;cases e;rw[L]at e;cases e;exact F.cl k p e B (.inl rfl);rw[wR λp q g M l=>Classical.byContradiction λH=>v ⟨p,q,g,M,l,by simpa using H⟩];obtain⟨p,h1,h2,h3,h4⟩:=V1 (S:=S) (m:=m) (T:=T) D (Q m) (aal _);have W:vS S m T D=(T p).st:=h2;have hk:=h.lt;have pair:∀(w:Nat) b,m[w]?=Z b->b.op.uM S=Y->D w≠V (w<k)->(k,w)∈cI:=by
  intro w b hb t U;rcases h.oB z hb U with⟨_,_,r⟩|⟨_,_,r⟩;rcases (E8 r).2.2 with e|e|e|e;rw[J]at e;cases e;rw[t]at e;cases e;rw[L]at e;cases e;exact e;rcases (E8 r).2.1 with e|e|e|e;rw[J]at e;cases e;rw[t]at e;cases e;rw[L]at e;cases e;exact e
 by_cases hpk:p<=k;obtain⟨d,U⟩:∃d,k=p+d:=⟨k-p,by omega⟩;rcases V2 S m p d (by omega) with hg|⟨w,b,N,I,C,g4,g5⟩;left;rw[W,U];exact(E7 z.tx d (by omega) hg).symm;right;have R:=h4 w b N (by have:=(aad.1 C).1;omega) C g4;have H:=pair w b C g4 (by rw[R,cH (by omega)];simp);have e:(T p).st=(T w).st:=by
  obtain⟨d',EG⟩:∃d,w=p+d:=⟨w-p,by omega⟩;rw[EG];exact(E7 z.tx d' (by have:=(aad.1 C).1;omega) λj so a1 a2=>g5 j so a1 (by omega)).symm
 rw[W,e];exact(z.pr k w B H so h.hs).1;right;rcases h3 with h3|⟨q,b,rfl,N,I,C⟩;omega;have H:=pair q b N C (by
  by_cases l:q=k;subst l;rw[h.new]at I;cases I;rw[I,eX (by omega)];simp)
 rw[W];exact(z.pr k q B H so h.hs).2
theorem LH.ajL(z:Tj S P O wl ai n dZ m cI T xp)(h:LH dZ m D k o so)(t):vT m T (ou D k) t=if t∈wQ so then eG (T (k+1)).env t else vT m T D t:=by
 have:=QX (init:=eG (T 0).env) (EE:=TY m T) (D:=D) (D':=ou D k) (x:=t) (j:=k) h.lt h.new (λj=>rfl) λj p q r H=>by
  have l:m[j]?=Z m[j]:=aae q;have v:=z.dr.apB D h.down k j so _ p h.new r h.hs l;simp only[TY,h.hs]at H;simp only[TY,l];rw[U];intro y;by_cases g:t∈wQ so;exact((I8 v).1 t g).2 y;rw[U g]at H;exact H rfl
 refine this.trans ?_;simp only[TY,h.hs];split
 rfl
 rfl
theorem LH.ajM(z:Tj S P O wl ai n dZ m cI T xp)(h:LH dZ m D k o so)(b):vB m T (ou D k) b=if so.op.bW=Z b then (T (k+1)).bx[b]? else vB m T D b:=by
 have:=QX (init:=λb=>(T 0).bx[b]?) (EE:=TZ m T) (D:=D) (D':=ou D k) (x:=b) (j:=k) h.lt h.new (λj=>rfl) λj p q r H=>by
  have l:m[j]?=Z m[j]:=aae q;have t:=z.dr.apB D h.down k j so _ p h.new r h.hs l;simp only[TZ,h.hs]at H;simp only[TZ,l];rw[U];intro y;by_cases g:so.op.bW=Z b;exact(N8 t).1 b g (ajJ y);rw[U g]at H;exact H rfl
 refine this.trans ?_;simp only[TZ,h.hs];split
 rfl
 rfl
end
end Ax
namespace Ax
open Go
variable {S:Nat->Option aQ}{P:Program}{O:sN}{wl ai n:Nat}
variable {dZ:Array Oper}{m:List eN}{cI:List (Nat×Nat)}{T:Nat->St}{xp:Option (Nat×Nat×aO)}
variable {w0 w w':World}{G0 G G':bT}{β jE:List wj}{A0:Nat->Nat}{a:Act}{bx:jM}
structure At (S:Nat->Option aQ)(n:Nat)(m:List eN)(T:Nat->St)(xp:Option (Nat×Nat×aO))(w0:World)(G0:bT)(A0:Nat->Nat)(D:Nat->Bool)(w:World)(G:bT)(β:List wj)(a:Act)(bx:jM):Prop where
 fs:FS w G β a (vT m T D) bx (vX S m T xp D) n
 mv:Mv w0 G0 A0 w G (Ba β a (vT m T D) bx (vX S m T xp D) G n)
 bb:∀b,bx[b]?=vB m T D b
 bl:bx.length=(T 0).bx.length
 fp:∀(i:Nat) so j,m[i]?=some so->so.op.aX=some j->D i=false->∀t,(vT m T D t).ue j=true
theorem Text.agr(h:Text S O wl ai m T):∀{j:Nat},j<=Q m->Q (T j).bx=Q (T 0).bx
 |0,_=>rfl|j+1,g=>by
  have H:m[j]?=Z m[j]:=aae (by omega);rw[(h.one j _ H).agr,h.agr (by omega)]
theorem T2{e f:kz}(h:e.de f=Y):e=f:=by
 cases e<;>cases f<;>simp[kz.de]at h
 rfl
 rw[NH _ _ h];obtain⟨rfl,rfl⟩:=h;rfl
theorem T4{op:eu}(h:op.TX=false):op.bA=none:=by
 cases op<;>simp[eu.TX,eu.bA]at h ⊢
theorem Yv{η j}(h:∀t,(η t).ue j=Y)(s):(Gr η s).ue j=Y:=by
 cases s with
 |const a=>rfl|tmp t M=>
  cases M with
  |true=>exact h t|false=>
   have:=h t;simp only[Gr];cases B:η t with
   |none=>rfl|val v=>rfl|fp i k=>rw[B]at this;exact this
theorem GJ{η g}:∀{l:List Src},(∀t∈ago l,η t=g t)->l.map (Gr η)=l.map (Gr g)
 |[],_=>rfl|.tmp t M::l,h=>by
  simp only[aaZ];rw[GJ (l:=l) λu H=>h u (List.mem_cons_of_mem _ H)];have:=h t List.mem_cons_self;cases M<;>simp only[Gr,this]
 |.const a::l,h=>by
  simp only[aaZ];rw[GJ (l:=l) λu H=>h u H]
  rfl
theorem oC{l}(z:Tj S P O wl ai n dZ m cI T xp)(hO:mW S P O){D k o so}(h:LH dZ m D k o so)(M:At S n m T xp w0 G0 A0 D w G β a bx){K}(hK:∀w' G' jE W iJ,At S n m T xp w0 G0 A0 (ou D k) w' G' jE W iJ->K W w'):wpOp P dZ l k K a w:=by
 have one:=z.tx.one k so h.hs;have hwe:Ad (vT m T D) so.guard=qJ (T k).env so.guard:=by
  rw[MF];cases hg:so.guard with
  |none=>rfl|some x=>
   obtain⟨t,b⟩:=x;have:=h.ags z (t:=t) (.inr (by simp[En,hg]));simp only[Ad,this]
 obtain⟨b,J⟩:∃b,qJ (T k).env so.guard=Z b:=by
  cases N:qJ (T k).env so.guard with
  |none=>exact bH N one.wan|some b=>exact⟨b,rfl⟩
 refine VT (wl:=wl) (ai:=ai) h.ho (z.dr.get k o so h.ho h.hs) hO M.fs M.mv.one (hwe.trans J) (λhbf W f1 f2=>?_) (λhbt=>?_);subst hbf;obtain⟨n1,n2,n3⟩:=one.non J;have E:nJ (vT m T D) so.dst (.val .undef)=vT m T (ou D k):=by
  funext t;rw[h.ajL z];split;rename_i y;rw[n1];simp only[nJ];split
  rfl
  exact h.ags z (.inl y);rename_i y;simp only[wQ,aaw,akz,not_or]at y;simp only[nJ];rw[U y.1]
 have B:vX S m T xp (ou D k)=vX S m T xp D:=by
  by_cases N:so.op.uM S=Y;rcases h.ajK z N with⟨E,B⟩|⟨p,r,v,_⟩|⟨q,r,v,_⟩;rw[E,B,n3];have:=(z.sp p k r v).wq so h.hs;rw[this.2]at J;cases J;have:=(z.sp k q r v).wp so h.hs;rw[this.2]at J;cases J;exact h.still z (by simpa using N)
 rw[E,<-B]at f1;rw[E,<-B]at f2;refine hK w G β W bx ⟨f1,?_,λx=>?_,M.bl,λi si j hi L C t=>?_⟩;rw[B]at f2 ⊢;exact M.mv.trans f2;rw[h.ajM z,M.bb];split;rename_i v;rw[n2];exact h.box z (ajJ v)
 rfl
 have iT:i≠k/\D i=false:=by
  unfold ou at C;by_cases H:i=k;rw[af H]at C;cases C;rw[U H]at C;exact⟨H,C⟩
 rw[<-E];simp only[nJ];split
 rfl
 exact M.fp i si j hi L iT.2 t;subst hbt;obtain⟨e,I,y2⟩:=one.yes J;have R:so.args.map (P9 (T k).env)=so.args.map (Gr (vT m T D)):=by
  rw[afj (g:=Gr (eG (T k).env)) λx _=>I6 _ x];exact(GJ λt y=>h.ags z (.inr (by simp[En,y]))).symm
 rw[R]at I;have ha2:yB O wl ai so.op (so.args.map (Gr (vT m T D))) (vX S m T xp D) (T k).bx=Z (e,vX S m T xp (ou D k),(T (k+1)).bx):=by
  by_cases N:so.op.uM S=Y;rcases h.ajK z N with⟨E,B⟩|⟨p,r,v,E,B⟩|⟨q,r,v,E,B⟩;rw[E,B];exact I;rw[E,B,<-R];rw[<-R]at I;exact(z.sp p k r v).x1 so h.hs _ _ _ I;rw[E,B,<-R];rw[<-R]at I;exact(z.sp k q r v).x2 so h.hs _ _ _ I;have MK:so.op.uM S=false:=by simpa using N
  rw[h.still z MK];have iX:=one.ak8 MK;by_cases hn:so.op.TX=Y;exact agm hn _ I;have hn':so.op.TX=false:=by simpa using hn
  rcases h.avX z hn' MK with F|F;rw[F];rw[iX]at I;exact I;unfold cA at F;rw[J]at F;simp only at F;rw[R]at F;split at F;rename_i e' st' iJ L6;have avY:=VU z.pu MK L6;subst avY;have hnb:=T4 hn';obtain⟨rfl,_⟩:=N6 hnb (T k).bx L6;obtain⟨hbx,_⟩:=N6 hnb (T k).bx I;rw[hbx];split at F;rename_i d hd;have:=T2 F;rw[y2]at this;simp only[nJ,hd,bz]at this;subst this;exact L6;cases F;cases F
 obtain⟨El,b1,b2,b3,b4,b5,_⟩:=Q0 (El:=bx) (by rw[M.bl,z.tx.agr (al5 h.lt)]) (λb J=>by rw[M.bb];exact h.box z J) ha2;refine⟨e,vX S m T xp (ou D k),El,b1,λj L t _ _=>M.fp k so j h.hs L h.new t,λw' G' jE W f1 f2=>?_⟩;have E:nJ (mM (vT m T D) (vG so.args)) so.dst e=vT m T (ou D k):=by
  funext t;rw[h.ajL z];split;rename_i y;rw[y2];simp only[nJ,mM];split
  rfl
  split
  rfl
  exact h.ags z (.inl y);rename_i y;simp only[wQ,aaw,akz,not_or]at y;simp only[nJ,mM];rw[U y.1,U y.2]
 rw[E]at f1 f2;refine hK w' G' jE W El ⟨f1,M.mv.trans f2,λx=>?_,b3.trans M.bl,λi si j hi L C t=>?_⟩;rw[h.ajM z];split;rename_i v;exact b4 x v;rename_i v;rw[b5 x v,M.bb];have iT:i≠k/\D i=false:=by
  unfold ou at C;by_cases H:i=k;rw[af H]at C;cases C;rw[U H]at C;exact⟨H,C⟩
 rw[<-E];simp only[nJ,mM];split;refine ak6 b1 (λx v=>?_) λhn=>?_;obtain⟨s,_,rfl⟩:=aap.1 v;exact Yv (λt=>M.fp i si j hi L iT.2 t) s;rcases Nat.lt_or_gt_of_ne iT.1 with hl|hl;exact z.dr.ajI i k si so j hl hi h.hs L hn;exact z.dr.ajI k i so si j hl h.hs hi hn L;split
 rfl
 exact M.fp i si j hi L iT.2 t
def lD(h:Array Bool):Nat->Bool:=λk=>h.getD k false
theorem abm{q}(C:Tj S P O wl ai n dZ m cI T xp)(hO:mW S P O)(hQ:∀w' G' jE J iJ D,(∀k,k<Q m->D k=Y)->At S n m T xp w0 G0 A0 D w' G' jE J iJ->q .normal J w'):
  ∀fuel h a w G β bx,h.size=dZ.size->abf dZ (lD h)->jy (λk=>if lD h k then 0 else 1) dZ.size<=fuel->
   At S n m T xp w0 G0 A0 (lD h) w G β a bx->wpAny P .any dZ q fuel h a w:=by
 have L7:∀(h:Array Bool) (a:Act) (w:World) (G:bT) (β:List wj) (bx:jM),h.size=dZ.size->At S n m T xp w0 G0 A0 (lD h) w G β a bx->Region.ready .any dZ h=[]->q .normal a w:=by
  intro h a w G β bx F M N;refine hQ w G β a bx _ (λk=>?_) M;induction k using akm with
  |_ k ih=>
   intro l;cases L:lD h k with
   |true=>rfl|false=>
    exfalso;rw[C.dr.len]at l;have z:dZ[k]?=Z dZ[k]:=(by simp[l]);have:k∈Region.ready .any dZ h:=by
     rw[mem_ready];refine⟨?_,dZ[k],z,λe he hb=>?_⟩;have x:k<h.size:=(by omega);simp only[lD,amR,x,dif_pos]at L ⊢;exact L;have v:e.on∈s7 dZ[k]:=by
      unfold s7;exact aap.2 ⟨e,apI.2 ⟨by simpa using he,hb⟩,rfl⟩
     have bK:=C.dr.lt k dZ[k] z e.on v;exact ih e.on bK (by rw[C.dr.len];omega)
    rw[N]at this;cases this
 intro fuel;induction fuel with
 |zero=>
  intro h a w G β bx F hD hf M;have mh:∀k,k<dZ.size->lD h k=Y:=λk l=>by
   have:=BW (f:=λk=>if lD h k then 0 else 1) l;cases L:lD h k with
   |true=>rfl|false=>simp only[L,aai,bC]at this;omega
  have N:Region.ready .any dZ h=[]:=by
   rw[List.eq_nil_iff_forall_not_mem];intro j H;rw[mem_ready]at H;obtain⟨B,o,z,_⟩:=H;have l:=(aaA.1 z).1;have W:=mh j l;have x:j<h.size:=(by omega);simp only[lD,amR,x,dif_pos]at B W;rw[B]at W;cases W
  exact⟨N,L7 h a w G β bx F M N⟩
 |succ fuel ih=>
  intro h a w G β bx F hD hf M;refine⟨L7 h a w G β bx F M,λi hi=>?_⟩;rw[mem_ready]at hi;obtain⟨B,o,z,h3⟩:=hi;have l:=(aaA.1 z).1;have hkm:i<Q m:=by rw[C.dr.len];exact l
  have hs:m[i]?=Z m[i]:=aae hkm;have x:i<h.size:=by omega
  have vE:lD h i=false:=by
   simp only[lD,amR,x,dif_pos]at B ⊢;exact B
  have y:∀p∈s7 o,lD h p=Y:=by
   intro p v;unfold s7 at v;obtain⟨e,he,rfl⟩:=aap.1 v;obtain⟨he1,Yw⟩:=apI.1 he;exact h3 e (by simpa using he1) Yw
  have R:LH dZ m (lD h) i o m[i]:=⟨hD,z,hs,y,vE⟩;have I:lD (h.setIfInBounds i Y)=ou (lD h) i:=by
   funext j;by_cases H:j=i;subst H;simp[lD,ou,x];simp[lD,ou,H,show ¬i=j from λe=>H e.symm]
  refine oC C hO R M λw' G' jE J iJ QO=>?_;rw[<-I]at QO;refine ih _ J w' G' jE iJ (by simp[F]) ?_ ?_ QO;intro j oj r H p v;rw[I]at H ⊢;unfold ou at H ⊢;by_cases E:j=i;subst E;rw[z]at r;cases r;split
  rfl
  exact y p v;rw[U E]at H;split
  rfl
  exact hD j oj r H p v;have h5:=y8 (f:=λk=>if lD (h.setIfInBounds i Y) k then 0 else 1) (g:=λk=>if lD h k then 0 else 1) (d:=i) l λt ht=>by
   rw[I];simp[ou,ht]
  have e1:lD (h.setIfInBounds i Y) i=Y:=by rw[I];simp[ou]
  simp only[e1,vE,bz,aai,bC]at h5;omega
theorem T5{wl ai st st' i v x y C}(h:gT wl ai st (.ptr i v x y) C=Z st'):∃o,st'=st.set i o/\∀qh,qh[i]?=st[i]?->gT wl ai qh (.ptr i v x y) C=Z (qh.set i o):=by
 unfold gT at h;simp only at h;split at h;rename_i q p rows I;split at h;rename_i g;split at h;rename_i r l;split at h;rename_i j;simp only[bE]at h;refine⟨_,h.symm,λqh H=>?_⟩;unfold gT;simp only[H,I,af g,l,af j];cases h;cases h;cases h;cases h
theorem ML{O wl ai n st st' bx iJ i v x y u e}(h:yB O wl ai (.store n) [.val (.ptr i v x y),.val u] st bx=Z (e,st',iJ)):
  ∃o,st'=st.set i o/\iJ=bx/\∀qh E,qh[i]?=st[i]?->yB O wl ai (.store n) [.val (.ptr i v x y),.val u] qh E=Z (e,qh.set i o,E):=by
 simp only[yB,bD]at h;split at h;rename_i j;split at h;rename_i p l;cases h;obtain⟨o,H,g⟩:=T5 l;refine⟨o,H,rfl,λqh E B=>?_⟩;simp only[yB,bD,af j,g qh B];cases h;cases h
theorem Q2{id Q s e}(hm:VZ S P dZ n m cI=Y)(hO:mW S P O)(hP:HW S O)(_hs:FT w G β a s n)(h1:∀b,jH β a s G n b<=1)(M:jd O wl ai m cI s=Z e)(ak9:∀d,FT { w with drawn:=d } G β a s n/\∀w' G' A',Mv { w with drawn:=d } G (jH β a s G n) w' G' A'->Mv w G (jH β a s G n) w' G' A')(hQ:∀w' G' jE v,FT w' G' jE v e n->Mv w G (jH β a s G n) w' G' (jH jE v e G' n)->Q .normal v w'):(Code.region id dZ Y).wp P Q a w:=by
 have hd:=abg hm;unfold jd at M;split at M;cases M;rename_i e' mQ hr;split at M;rename_i hc;cases M;simp only[E6,aam]at hc;obtain⟨r1,r2,r3,r4⟩:=HX hr
 let T:Nat->St:=λk=>(mQ[k]?).getD s
 have H:∀(i:Nat) x,mQ[i]?=Z x->T i=x:=λi x hx=>by simp only[T,hx,afA]
 have I:Text S O wl ai m T:=⟨λi so F=>by
  obtain⟨x,y,a1,a2,a3⟩:=r4 i so F;rw[H i x a1,H (i+1) y a2];exact avU hP a3⟩
 obtain⟨xp,hsn,oQ⟩:∃xp:Option (Nat×Nat×aO),(xp=none->∀i j,i<100000->(100000+i,j) ∉ cI)/\∀p q g,xp=Z (p,q,g)->Spc S O wl ai m cI T p q g:=by
  by_cases hex:∃p q,p<100000/\(100000+p,q)∈cI;obtain⟨p,q,hp,Qy⟩:=hex;obtain⟨t1,⟨a,b,t2,W,t4,t5,t6,t7⟩,t8,t9,t10⟩:=hd.xt p q hp Qy;have Tl:q<m.length:=(aad.1 W).1;have z:=hc.1 _ Qy;unfold fh at z;simp only[show ¬100000+p<100000 by omega,bC,show (100000+p) % 100000=p by omega]at z;cases L:xSt wl ai m mQ p q with
  |none=>rw[L]at z;cases z|some g=>
   refine⟨Z (p,q,g),⟨λh=>(by cases h),λp' q' X' h=>?_⟩⟩;cases h;have Q1:(T q).st=(T (p+1)).st:=by
    obtain⟨d,EG⟩:∃d,q=p+1+d:=⟨q-(p+1),by omega⟩;rw[EG];exact E7 I d (by omega) λj so a1 a2 a3=>t8 j so (by omega) (by omega) a3
   unfold xSt at L;split at L;rename_i v s' b' t' g1 g2 g3 g4;rw[t2]at g1;cases g1;rw[W]at g3;cases g3;have Qc:=H p s' g2;have ht':=H q t' g4;subst Qc ht';split at L;rename_i ao av bo bv ma i vi xi yi ui mb j vj xj yj uj k1 k2 k3 k4;split at L;cases L;rename_i J;split at L;rename_i e0 X0 b0 vF;cases L;have aqO:yB O wl ai (.store mb) [.val (.ptr j vj xj yj),.val uj] (T p).st []=Z (e0,g,b0):=vF;obtain⟨ob,o1,o2,o3⟩:=ML aqO;have av0:=I.one p a t2;obtain⟨ep,ap,_⟩:=av0.yes (by rw[t6];rfl);rw[k1,k2]at ap;obtain⟨oa,p1,p2,p3⟩:=ML ap;have av1:=I.one q b W;obtain⟨eq,aq,_⟩:=av1.yes (by rw[t7];rfl);rw[k3,k4]at aq;have aqP:(T q).st[j]?=(T p).st[j]?:=(by rw[Q1,p1,aao J]);have q1:(T (q+1)).st=(T q).st.set j ob:=by
    have:=o3 (T q).st (T q).bx aqP;rw[this]at aq;simp only[bE,cR]at aq;exact aq.2.1.symm
   refine⟨t1,Tl,Qy,λv l=>?_,λv l=>?_,t8,t10,t9,λv l e bx iJ r=>?_,λv l e bx iJ r=>?_,λk hk o ho=>?_⟩;rw[t2]at l;cases l;exact⟨by rw[k1];rfl,t6⟩;rw[W]at l;cases l;exact⟨by rw[k3];rfl,t7⟩;rw[W]at l;cases l;rw[k3,k4]at r ⊢;rw[o3 (T q).st bx aqP]at r;simp only[bE,cR]at r;rw[o3 (T p).st bx rfl,r.1,r.2.2,o1];rw[t2]at l;cases l;rw[k1,k2]at r ⊢;rw[p3 (T p).st bx rfl]at r;simp only[bE,cR]at r;rw[p3 g bx (by rw[o1,aao (λe=>J e.symm)]),r.1,r.2.2,q1,Q1,p1,o1,List.set_comm _ _ J];have:=hc.1 _ hk;unfold fh at this;simp only[show ¬100000*(k+2)+p<100000 by omega,bC,show (100000*(k+2)+p) % 100000=p by omega,show ¬100000*(k+2)+p<200000 by omega,show (100000*(k+2)+p) / 100000-2=k by omega]at this;have hX2:xSt wl ai m mQ p q=Z g:=by
    unfold xSt;simp only[t2,W,g2,g4,k1,k2,k3,k4,U J,vF]
   rw[hX2]at this;simp only at this;split at this;rename_i o' x y g5 g6 g7;rw[ho]at g5;cases g5;rw[H k x g6,H (k+1) y g7];exact this;cases this;cases L;cases L;cases L
  exact⟨none,⟨λ_ i j F J=>hex ⟨i,j,F,J⟩,λ_ _ _ h=>(by cases h)⟩⟩
 have hR:Tj S P O wl ai n dZ m cI T xp:=by
  refine⟨hd,I,λq w Tl hqw o ho=>?_,hsn,oQ,λi so j F R=>?_,hP⟩;have:=hc.1 (q,w) hqw;unfold fh at this;simp only[Tl,bz]at this;split at this;rename_i o' x y x' y' g1 g2 g3 g4 g5;rw[ho]at g1;cases g1;rw[H q x g2,H (q+1) y g3,H w x' g4,H (w+1) y' g5];simpa only [E6] using this;cases this;have:=hc.2 so (eL F);unfold bP at this;rw[R]at this;rw[H 0 s r2];exact this
 have h0:T 0=s:=H 0 s r2;have B:lD (Array.replicate dZ.size false)=λ_=>false:=by
  funext k;simp only[lD,amR,Array.size_replicate,Array.getInternal_eq_getElem,Array.getElem_replicate];split<;>rfl
 have C:∀{K V:Type} (init:K->V) (EE:Nat->K->Option V) (N:Nat) (x:K),ux init EE (λ_=>false) N x=init x:=by
  intro K V init EE N x;induction N with
  |zero=>rfl|succ N ih=>simp only[ux,ih];rfl
 obtain⟨d1,d2⟩:=ak9 (w.drawn+1);refine wp_region_any hd.fol (abm (w0:={ w with drawn:=w.drawn+1 }) (G0:=G) (A0:=jH β a s G n) hR hO (λw' G' jE v iJ D hD hA=>?_) dZ.size _ a _ G β s.bx (by simp) ?_ ?_ ?_);have mh:∀{K V:Type} (init:K->V) (EE:Nat->K->Option V) (x:K),ux init EE D m.length x=ux init EE (λk=>decide (k<m.length)) m.length x:=λinit EE x=>rm λk hk iT=>by
  rw[hD k hk,cH hk]at iT;exact bH rfl iT
 have E:T m.length=e:=H _ e r3;have e1:vT m T D=eG e.env:=by
  funext t;rw[<-E,<-abi I (aal _)];exact mh _ _ t
 have e2:vX S m T xp D=e.st:=by
  rw[wR λp q g hx _=>hD p (by have:=oQ p q g hx;have:=this.lt;have:=(oQ p q g hx).ql;omega)];rw[<-E,<-abk I (aal _)];exact mh _ _ ()
 have e3:iJ=e.bx:=by
  apply List.ext_getElem?;intro b;rw[hA.bb b,<-E,<-abj I (aal _)];exact mh _ _ b
 have f1:=hA.fs;have f2:=hA.mv;rw[e1,e2,e3]at f1 f2;exact hQ w' G' jE v f1 (d2 _ _ _ f2);intro j o _ R;rw[B]at R;cases R;rw[B];have:∀N,jy (λ_=>1) N=N:=λN=>by induction N with|zero=>rfl|succ N ih=>simp[jy,ih]
 simp[this];rw[B];have e1:vT m T (λ_=>false)=eG s.env:=by funext t;rw[<-h0];exact C _ _ _ t
 have e2:vX S m T xp (λ_=>false)=s.st:=by rw[wR λp q g _ h=>by cases h];rw[<-h0];exact C _ _ _ ()
 refine⟨?_,?_,λb=>?_,by rw[h0],λi so j F R _ t=>?_⟩;rw[e1,e2];exact d1;rw[e1,e2];exact Mv.refl h1;rw[<-h0];exact(C _ _ _ b).symm;rw[e1,<-h0];exact J2 (hR.bo i so j F R) t;cases M
end Ax
