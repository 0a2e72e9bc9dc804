/- Part of a proof. -/
import Derived.Test.YtpnadocbfbbboaaGreatC
import Derived.Test.YtpnadocbfbbboaaGreatN

open List renaming drop_eq_getElem_cons->aaz,getElem_mem->aaq,drop_length->aaC,map_map->aes,map_congr_left->acK,mem_map->ab9,length_map->ac7,mem_map_of_mem->ags
open Option renaming isSome_none->adG,isSome_some->adD
open Bool renaming false_eq_true->aan
set_option maxRecDepth 100000
set_option maxHeartbeats 8000000
namespace K9
open Ax Go bY V7 kN lZ
theorem lH(aa:Nat)(c:CK)(s:Sm)(_hn:s.es.length<1000000000):(aZ S).call 0 aa 118 [.ptr 0 0 0 0,.agg s.aF] [c.aX]=some (.bool (de c.sg.cP s.k s.es),[c.aX]):=by
 have dJ:=Sm.aE s;have hz:cJ 11 (aT s.es)=true:=gn;have cT:aN (aT s.es)=true:=bz;have eC:(aT s.es).ai=aT s.es:=bu;have dh:bt (aT s.es)=E.rows s.es:=aW;have m0:((s.es.length:Int)=0)=(s.es.length=0):=by simp
 have m1:((s.es.length:Int)=1)=(s.es.length=1):=by apply propext;omega
 have m2:((s.es.length:Int)=2)=(s.es.length=2):=by apply propext;omega
 rw[dJ];generalize s.k=k at *;unfold de;by_cases h1:k=1;subst h1;refine aA (sf:=pC) rfl rfl rfl ?_;generalize aT s.es=kv at *;simp[-aj,-ag,pC,cT,eC,dh,AV.ai];by_cases h4:k=4;subst h4;refine aA (sf:=pC) rfl rfl rfl ?_;simp only[U h1,aQ];match jj:s.es,dh,m2 with
 |[e,e2],dh,m2=>
  rw[jj]at hz cT eC;simp only[E.rows]at dh;rw[E.aE e,E.aE e2]at dh;generalize aT [e,e2]=kv at *;by_cases q:e.k=5;simp[-aj,-ag,pC,br,hz,cT,eC,dh,q,AV.ai];simp[-aj,-ag,pC,br,hz,cT,eC,dh,q,AV.ai]
 |[],dh,m2=>
  rw[jj]at hz cT eC;generalize aT []=kv at *;simp[-aj,-ag,pC,cT,eC,dh,E.rows,AV.ai]
 |[e],dh,m2=>
  rw[jj]at hz cT eC;simp only[E.rows]at dh;generalize aT [e]=kv at *;simp[-aj,-ag,pC,cT,eC,dh,AV.ai]
 |e::e2::e3::l,dh,m2=>
  rw[jj]at hz cT eC;have UW:¬((E.rows (e::e2::e3::l)).length:Int)=2:=by simp;omega
  generalize aT (e::e2::e3::l)=kv,E.rows (e::e2::e3::l)=rws at *;simp[-aj,-ag,pC,cT,eC,dh,UW,AV.ai]
 by_cases h7:k=7;subst h7;refine aA (sf:=pC) rfl rfl rfl ?_;simp only[U h1,U h4,aQ];generalize aT s.es=kv at *;have hc:=λwl aa r bx=>xS (wl:=wl) (aa:=aa) (c:=c) (r:=r) (bx:=bx);cases hh:c.sg.cP with
 |false=>
  rw[hh]at hc;by_cases q1:s.es.length=1;simp[-aj,-ag,pC,cT,eC,dh,q1,hc,AV.ai];by_cases q0:s.es.length=0;simp[-aj,-ag,pC,cT,eC,dh,q0,hc,AV.ai];simp[-aj,-ag,pC,cT,eC,dh,m1,q0,q1,AV.ai]
 |true=>
  rw[hh]at hc;by_cases q1:s.es.length=1;simp[-aj,-ag,pC,cT,eC,dh,q1,hc,AV.ai];by_cases q0:s.es.length=0;simp[-aj,-ag,pC,cT,eC,dh,q0,hc,AV.ai];simp[-aj,-ag,pC,cT,eC,dh,m1,q0,q1,AV.ai]
 by_cases h9:k=9;subst h9;refine aA (sf:=pC) rfl rfl rfl ?_;simp only[U h1,U h4,U h7,aQ];match jj:s.es,dh,m2 with
 |[e],dh,m2=>
  rw[jj]at hz cT eC;simp only[E.rows]at dh;rw[E.aE e]at dh;generalize aT [e]=kv at *;simp[-aj,-ag,pC,br,hz,cT,eC,dh,AV.ai]
 |[],dh,m2=>
  rw[jj]at hz cT eC;generalize aT []=kv at *;simp[-aj,-ag,pC,cT,eC,dh,E.rows,AV.ai]
 |e::e2::l,dh,m2=>
  rw[jj]at hz cT eC;have UW:¬((E.rows (e::e2::l)).length:Int)=1:=by simp;omega
  generalize aT (e::e2::l)=kv,E.rows (e::e2::l)=rws at *;simp[-aj,-ag,pC,cT,eC,dh,UW,AV.ai]
 refine aA (sf:=pC) rfl rfl rfl ?_;simp only[U h1,U h4,U h7,U h9];generalize aT s.es=kv at *;by_cases h2:k=2;subst h2;simp[-aj,-ag,pC,cT,eC,dh,m1,AV.ai];by_cases h3:k=3;subst h3;simp[-aj,-ag,pC,cT,eC,dh,m1,AV.ai];by_cases h5:k=5;subst h5;simp[-aj,-ag,pC,cT,eC,dh,m1,AV.ai];by_cases h6:k=6;subst h6;simp[-aj,-ag,pC,cT,eC,dh,m1,AV.ai];by_cases h8:k=8;subst h8;simp[-aj,-ag,pC,cT,eC,dh,m1,AV.ai];simp[-aj,-ag,pC,h1,h2,h3,h4,h5,h6,h7,h8,h9,cT,AV.ai]
def acr(o:Option (Int×List Vd))(v:AV):Prop:=∃z:Int,v=.fK [.int .i64 z,.bool o.isSome]/\∀r W,o=some (r,W)->z=r
def nJ(c:CK)(o:Option (Int×List Vd)):CK:=match o with|some (_,W)=>{ c with V:=W } | none=>c
theorem Yf(aa:Nat)(c:CK)(s:Sm)(t:T3)(hs:qV c)(hf:de c.sg.cP s.k s.es=true) :
  ∃v,acr (k6 c.H c.sg.cH c.V s.k s.nm s.es t) v/\(aZ S).call 0 aa 122 [.ptr 0 0 0 0,.agg s.aF,.agg [.int .i64 t.b,.int .i64 t.r,.int .i64 t.d]] [c.aX]=some (v,[(nJ c (k6 c.H c.sg.cH c.V s.k s.nm s.es t)).aX]):=by
 have eD:=λaa=>Na aa c s.nm t hs;have eV:=λaa=>iF aa c s.nm [] hs;have eN:=λwl aa st=>B4 wl aa st;have eT:=λwl aa st=>Fp wl aa st;have dJ:=Sm.aE s;have hz:cJ 11 (aT s.es)=true:=gn;have cT:aN (aT s.es)=true:=bz;have eC:(aT s.es).ai=aT s.es:=bu;have dh:bt (aT s.es)=E.rows s.es:=aW;have one:∀j,s.k=j->(j=2\/j=3\/j=5\/j=6\/j=8)->∃x,s.es=[x]:=λj hj h=>by
  have hlen:s.es.length=1:=by
   rw[hj]at hf;rcases h with h|h|h|h|h<;>subst h<;>simpa [de] using hf
  match hh:s.es,hlen with
  |[x],_=>exact⟨x,rfl⟩
 have hV:=hs.V;rw[dJ];unfold k6;by_cases h1:s.k=1;rw[ah h1,h1];cases hl:fN s.nm 0 c.V with
 |some x=>
  refine⟨.fK [.int .i64 0,.bool false],⟨0,rfl,λ_ _ h=>by cases h⟩,?_⟩;rw[hl]at eD;simp only[Fq]at eD;refine aA (sf:=nS) rfl rfl rfl ?_;generalize aT s.es=kv at *;simp[-aj,-ag,nS,eD,cT,nJ,AV.ai]
 |none=>
  refine⟨.fK [.int .i64 c.V.length,.bool true],⟨c.V.length,rfl,λ_ _ h=>by cases h;rfl⟩,?_⟩;rw[hl]at eD;simp only[Fq]at eD;simp only[nJ];refine aA (sf:=nS) rfl rfl rfl ?_;generalize aT s.es=kv,({ c with V:=c.V++[(⟨s.nm,t⟩:Vd)] }:CK).aX=ob2 at *;simp[-aj,-ag,nS,eD,cT,AV.ai]
 rw[U h1];by_cases h2:s.k=2;obtain⟨x,hx⟩:=one 2 h2 (by simp);rw[ah h2,h2];have a1:rU s.es=x.ty:=by rw[hx];rfl
 rw[a1];rw[show E.rows s.es=E.rows [x] from by rw[hx]]at dh;simp only[E.rows,E.aE]at dh;generalize aT s.es=kv at *;by_cases q:x.ty=t;rw[ah q];rw[<-q]at eD ⊢;cases hl:fN s.nm 0 c.V with
 |some y=>
  refine⟨.fK [.int .i64 0,.bool false],⟨0,rfl,λ_ _ h=>by cases h⟩,?_⟩;rw[hl]at eD;simp only[Fq]at eD;refine aA (sf:=nS) rfl rfl rfl ?_;simp[-aj,-ag,nS,eD,hz,cT,eC,dh,br,nJ,AV.ai,aD,aC]
 |none=>
  refine⟨.fK [.int .i64 c.V.length,.bool true],⟨c.V.length,rfl,λ_ _ h=>by cases h;rfl⟩,?_⟩;rw[hl]at eD;simp only[Fq]at eD;simp only[nJ];refine aA (sf:=nS) rfl rfl rfl ?_;generalize ({ c with V:=c.V++[(⟨s.nm,x.ty⟩:Vd)] }:CK).aX=ob2 at *;simp[-aj,-ag,nS,eD,hz,cT,eC,dh,br,AV.ai,aD,aC]
 rw[U q];refine⟨.fK [.int .i64 0,.bool false],⟨0,rfl,λ_ _ h=>by cases h⟩,?_⟩;refine aA (sf:=nS) rfl rfl rfl ?_;simp[-aj,-ag,nS,hz,cT,eC,dh,br,dU,q,nJ,AV.ai,aD,aC];rw[U h2];by_cases h3:s.k=3;obtain⟨x,hx⟩:=one 3 h3 (by simp);rw[ah h3,h3];have a1:rU s.es=x.ty:=by rw[hx];rfl
 rw[a1];rw[show E.rows s.es=E.rows [x] from by rw[hx]]at dh;simp only[E.rows,E.aE]at dh;generalize aT s.es=kv at *;cases hv:uw c.H c.V s.nm with
 |none=>
  refine⟨.fK [.int .i64 0,.bool false],⟨0,rfl,λ_ _ h=>by cases h⟩,?_⟩;rw[hv]at eV;simp only[oR]at eV;refine aA (sf:=nS) rfl rfl rfl ?_;simp[-aj,-ag,nS,eV,cT,nJ,au,AV.ai,aD,aC]
 |some y=>
  obtain⟨u,r⟩:=y;rw[hv]at eV;simp only[oR]at eV;by_cases q:u=x.ty;refine⟨.fK [.int .i64 r,.bool true],⟨r,by simp[q],λ_ _ h=>by simp[q]at h;exact h.1⟩,?_⟩;simp only[ah q];refine aA (sf:=nS) rfl rfl rfl ?_;simp[-aj,-ag,nS,eV,hz,cT,eC,dh,br,q,nJ,au,AV.ai,aD,aC];refine⟨.fK [.int .i64 r,.bool false],⟨r,by simp[q],λ_ _ h=>by simp[q]at h⟩,?_⟩;simp only[U q];refine aA (sf:=nS) rfl rfl rfl ?_;simp[-aj,-ag,nS,eV,hz,cT,eC,dh,br,dU,q,nJ,au,AV.ai,aD,aC]
 rw[U h3];have nu:∀(p:Prop) [Decidable p],acr (if p then some ((0:Int),c.V) else none) (.fK [.int .i64 0,.bool (decide p)]):=λp _=>by
  refine⟨0,?_,λr W h=>?_⟩;by_cases q:p<;>simp[q];split at h<;>cases h;rfl
 have UX:∀(p:Prop) [Decidable p],nJ c (if p then some ((0:Int),c.V) else none)=c:=λp _=>by
  by_cases q:p<;>simp[q,nJ]
 by_cases h4:s.k=4;rw[ah h4,h4];obtain⟨x,y,hx⟩:∃x y,s.es=[x,y]:=by
  rw[h4]at hf;unfold de at hf;match hh:s.es,hf with
  |[x,y],_=>exact⟨x,y,rfl⟩
 have a1:rU s.es=x.ty:=by rw[hx];rfl
 have a2:CF s.es=y.ty:=by rw[hx];rfl
 rw[a1,a2];rw[show E.rows s.es=E.rows [x,y] from by rw[hx]]at dh;simp only[E.rows,E.aE]at dh;generalize aT s.es=kv at *;refine⟨_,nu _,?_⟩;rw[UX];refine aA (sf:=nS) rfl rfl rfl ?_;simp[-aj,-ag,nS,hz,cT,eC,dh,br,dU,AV.ai,aD,aC];rw[U h4];by_cases h5:s.k=5;obtain⟨x,hx⟩:=one 5 h5 (by simp);rw[ah (.inl h5),h5];have a1:rU s.es=x.ty:=by rw[hx];rfl
 rw[a1];rw[show E.rows s.es=E.rows [x] from by rw[hx]]at dh;simp only[E.rows,E.aE]at dh;generalize aT s.es=kv at *;refine⟨_,nu _,?_⟩;rw[UX];refine aA (sf:=nS) rfl rfl rfl ?_;simp[-aj,-ag,nS,hz,cT,eC,dh,br,eT,dB,AV.ai,aD,aC];by_cases h6:s.k=6;obtain⟨x,hx⟩:=one 6 h6 (by simp);rw[ah (.inr h6),h6];have a1:rU s.es=x.ty:=by rw[hx];rfl
 rw[a1];rw[show E.rows s.es=E.rows [x] from by rw[hx]]at dh;simp only[E.rows,E.aE]at dh;generalize aT s.es=kv at *;refine⟨_,nu _,?_⟩;rw[UX];refine aA (sf:=nS) rfl rfl rfl ?_;simp[-aj,-ag,nS,hz,cT,eC,dh,br,eT,dB,AV.ai,aD,aC];rw[U (λh=>h.elim h5 h6)];by_cases h7:s.k=7;rw[ah h7,h7];refine⟨_,nu _,?_⟩;rw[UX];rw[h7]at hf;refine aA (sf:=nS) rfl rfl rfl ?_;match jj:s.es with
 |[]=>
  rw[jj]at hz cT eC dh;generalize aT []=kv at *;simp[-aj,-ag,nS,cT,eC,dh,E.rows,AV.ai,aD,aC]
 |[x]=>
  rw[jj]at hz cT eC dh;simp only[E.rows,E.aE]at dh;generalize aT [x]=kv at *;have a1:rU [x]=x.ty:=rfl;have cr:=λwl aa r bx=>zi (wl:=wl) (aa:=aa) (c:=c) (r:=r) (bx:=bx);simp[-aj,-ag,nS,hz,cT,eC,dh,br,cr,dU,a1,AV.ai,aD,aC]
 |x::y::l=>
  rw[jj]at hf;simp[de]at hf
 rw[U h7];by_cases h8:s.k=8;obtain⟨x,hx⟩:=one 8 h8 (by simp);rw[ah h8,h8];have a1:rU s.es=x.ty:=by rw[hx];rfl
 rw[a1];rw[show E.rows s.es=E.rows [x] from by rw[hx]]at dh;simp only[E.rows,E.aE]at dh;generalize aT s.es=kv at *;refine⟨_,nu _,?_⟩;rw[UX];refine aA (sf:=nS) rfl rfl rfl ?_;simp[-aj,-ag,nS,hz,cT,eC,dh,br,eN,dI,AV.ai,aD,aC];rw[U h8];refine⟨.fK [.int .i64 0,.bool true],⟨0,rfl,λ_ _ h=>by cases h;rfl⟩,?_⟩;simp only[nJ];refine aA (sf:=nS) rfl rfl rfl ?_;generalize aT s.es=kv at *;simp[-aj,-ag,nS,h1,h2,h3,h4,h5,h6,h7,h8,cT,AV.ai]
end K9
namespace K9
open Ax Go bY V7 kN lZ
def CK.bf(c:CK)(W:List Vd):CK:={ c with V:=W }
def Fw(r:List AV):Prop:=∃(k:Int)(nm on:List UInt8)(od:Int)(es bd el:AV)(a ref:Int),r=[.int .i64 k,.str nm,.str on,.int .i64 od,es,bd,el,.int .i64 a,.int .i64 ref]/\aN es=true/\aN bd=true/\aN el=true
abbrev Z9:List AV:=[.int .i64 0,.str [],.str [],.int .i64 0,.af,.af,.af,.int .i64 0,.int .i64 0]
theorem uA:Fw Z9:=⟨0,[],[],0,.af,.af,.af,0,0,rfl,rfl,rfl,rfl⟩
def rD(c:CK)(s:Sm):Prop:=match zH c.H c.sg.cP c.sg.cH c.V s with
 |.ok (y,W)=>∀aa,(aZ S).call 0 aa 95 [.ptr 0 0 0 0,.agg s.aF] [c.aX]=some (.agg y.aF,[(c.bf W).aX])|.error a=>∀aa,∃W aF,Fw aF/\(aZ S).call 0 aa 95 [.ptr 0 0 0 0,.agg s.aF] [c.aX]=some (.agg aF,[((c.bf W).fail a).aX])
def Br(c:CK)(l:List Sm):Prop:=match lB c.H c.sg.cP c.sg.cH c.V l with
 |.ok (ys,W)=>∀aa,(aZ S).call 0 aa 75 [.ptr 0 0 0 0,bp l] [c.aX]=some (bK 9 (Sm.rows ys),[(c.bf W).aX])|.error a=>∀aa,∃W v,aN v=true/\(aZ S).call 0 aa 75 [.ptr 0 0 0 0,bp l] [c.aX]=some (v,[((c.bf W).fail a).aX])
theorem yF{c:CK}{W:List Vd}(h:qw c)(hW:∀f∈W,WT c.H.rs.length f.ty)(hl:W.length<1000000000):qw (c.bf W):=⟨⟨hl,h.s.G,h.s.S,h.s.R,h.s.F,h.s.P⟩,h.H,hW⟩
theorem yG(aa:Nat)(c:CK)(l:List Sm)(hf:c.fe≠0)(hn:l.length<1000000000):(aZ S).call 0 aa 75 [.ptr 0 0 0 0,bp l] [c.aX]=some (.af,[c.aX]):=by
 have hz:cJ 9 (bp l)=true:=wz;have cT:aN (bp l)=true:=bL;have eC:(bp l).ai=bp l:=bq;have dh:bt (bp l)=Sm.rows l:=aW;have ij:=λaa=>dF aa c [];rw[cu hf]at ij;refine aA (sf:=ZL) rfl rfl rfl ?_;cases l with
 |nil=>
  generalize bp []=lv at *;rw[Sm.rows]at dh;simp[-aj,-ag,ZL,cT,eC,dh];rw[rj ER.eq_1];simp[-aj,-ag]
 |cons s l=>
  have hlen:0<(Sm.rows (s::l)).length:=by simp
  have hg:(Sm.rows (s::l))[0]?=some s.aF:=by simp[Sm.rows]
  have hg':∀h:0<(Sm.rows (s::l)).length,(Sm.rows (s::l))[0]=s.aF:=λh=>by simp[Sm.rows]
  generalize bp (s::l)=lv,Sm.rows (s::l)=rws at *;rw[Sm.aE]at hg;have ZY:0<rws.length:=hlen;have agY:=hg' ZY;rw[Sm.aE]at agY;simp[-aj,-ag,ZL,cT,eC,dh];rw[rj ER.eq_1];simp[-aj,-ag,eC,dh,hz,ZY,agY,br,ij,au,AV.ai]
theorem rG(aa:Nat)(c:CK)(k:Int)(nm on:List UInt8)(od:Int)(ys:List E)(a:Int)(t:T3)(hs:qV c)(hf:de c.sg.cP k ys=true) :
  ∃v,acr (k6 c.H c.sg.cH c.V k nm ys t) v/\(aZ S).call 0 aa 122 [.ptr 0 0 0 0,.agg (Sm.mk k nm on od ys [] [] a 0).aF,.agg [.int .i64 t.b,.int .i64 t.r,.int .i64 t.d]] [c.aX]=some (v,[(nJ c (k6 c.H c.sg.cH c.V k nm ys t)).aX]):=
 Yf aa c (.mk k nm on od ys [] [] a 0) t hs hf
theorem acu(c:CK)(s:Sm)(hn:s.es.length<1000000000)(h:de c.sg.cP s.k s.es=false):rD c s:=by
 unfold rD;rw[nG,h];simp only[aan,aS];intro aa;refine⟨c.V,Z9,uA,?_⟩;have nP:=λaa=>lH aa c s hn;rw[h]at nP;have en:=λwl aa st=>lS wl aa st;have oT:=λaa=>fO aa c s.a [];have lz:c.bf c.V=c:=rfl;rw[lz];rw[Sm.aE s]at nP ⊢;generalize (c.fail s.a).aX=o at *;refine aA (sf:=m9) rfl rfl rfl ?_;simp[-aj,-ag,m9,nP,en,oT,au,AV.ai,AV.aB,AV.ax,bg,bO]
theorem Nd(c:CK)(s:Sm)(hf:c.fe=0)(hw:qw c)(dM:c.V.length+Sm.sz s<1000000000)(hk:s.k=1)(h:de c.sg.cP s.k s.es=true):rD c s:=by
 unfold rD;have hz:=Sm.mX s;have Oo:=E.eH s.es;have nP:=λaa=>lH aa c s (by omega);rw[h]at nP;have en:=λwl aa st=>lS wl aa st;have oT:=λaa=>fO aa c s.a [];have fU:=λaa=>dF aa c [];rw[bM hf]at fU;have lz:c.bf c.V=c:=rfl;have dJ:=Sm.aE s;rw[hk]at dJ;rw[nG,h];rw[hk]at h ⊢;simp only[aQ];rw[dJ]at nP ⊢;have e1:aN (aT s.es)=true:=bz;have e2:(aT s.es).ai=aT s.es:=bu;have b1:aN (bp s.bd)=true:=bL;have b2:(bp s.bd).ai=bp s.bd:=bq;have l1:aN (bp s.el)=true:=bL;have l2:(bp s.el).ai=bp s.el:=bq;have dG:=mP c s.es hf (by omega) (λe he=>jq c hf hw e (by have:=E.fZ he;omega));have xV:uC c.H c.V 1 s.es=lG c.H c.V s.es:=ux (by decide);have qv:=λwl aa st=>AQ wl aa c.H.rs s.on s.od st hw.s.R;have Lg:mW c.H 1 s.on s.od=if (cB c.H.rs s.on s.od).2 then some (cB c.H.rs s.on s.od).1 else none:=ah (by decide)
 rw[Lg];unfold Nb at qv;have ZW:=ox c.H.rs s.on s.od;generalize cB c.H.rs s.on s.od=tt at *;obtain⟨t,b⟩:=tt;cases b with
 |false=>
  simp only[aan,aS];intro aa;refine⟨c.V,Z9,uA,?_⟩;rw[lz];simp only at qv;generalize aT s.es=ev,bp s.bd=bv,bp s.el=lv,(c.fail s.a).aX=o at *;refine aA (sf:=m9) rfl rfl rfl ?_;simp[-aj,-ag,m9,nP,en,e1,e2,b1,b2,l1,l2,wA,qv,oT,au,AV.ai,AV.aB,AV.ax,aD,bg,bO,aC]
 |true=>
 simp only[aQ];simp only at qv;rw[xV];cases hv:lG c.H c.V s.es with
 |error a=>
  rw[hv]at dG;simp only at dG ⊢;intro aa;refine⟨c.V,Z9,uA,?_⟩;rw[lz];obtain⟨v,cT,ev⟩:=dG 1;have Gj:=cy cT;have C8:=cI cT;have ij:=λaa=>dF aa (c.fail a) [];rw[cu gH]at ij;generalize aT s.es=kv,bp s.bd=bv,bp s.el=lv,(c.fail a).aX=o at *;refine aA (sf:=m9) rfl rfl rfl ?_;simp[-aj,-ag,m9,nP,en,e1,e2,b1,b2,l1,l2,wA,qv,ev,cT,ij,au,AV.ai,AV.aB,AV.ax,aD,bg,bO,aC]
 |ok ys=>
  rw[hv]at dG;simp only at dG ⊢;have qx:de c.sg.cP 1 ys=true:=oz hv h;obtain⟨fv,⟨z,rfl,oL⟩,dS⟩:=rG 1 c 1 (cM 1 s.nm) (bQ 1 s.on) (bR 1 s.od) ys s.a t hw.s qx;simp only[oA]at oL dS;have mT:(Sm.mk 1 (cM 1 s.nm) (bQ 1 s.on) (bR 1 s.od) ys [] [] s.a 0).aF=[.int .i64 1,.str s.nm,.str s.on,.int .i64 s.od,aT ys,.af,.af,.int .i64 s.a,.int .i64 0]:=by simp[Sm.aF,Sm.rows,cM,bQ,bR]
  rw[mT]at dS;have m1:aN (bK 11 (E.rows ys))=true:=ct;have m2:(bK 11 (E.rows ys)).ai=aT ys:=rfl;generalize bK 11 (E.rows ys)=mv at *;have m3:=cy m1;have m4:=cI m1;have y1:aN (aT ys)=true:=bz;have y2:(aT ys).ai=aT ys:=bu;generalize CG:aT ys=yv at *;generalize aT s.es=kv at *;cases hT:k6 c.H c.sg.cH c.V 1 s.nm ys t with
  |none=>
   simp only;intro aa;refine⟨c.V,Z9,uA,?_⟩;rw[lz];rw[hT]at dS;simp only[adG,nJ]at dS;generalize bp s.bd=bv,bp s.el=lv,(c.fail s.a).aX=o at *;refine aA (sf:=m9) rfl rfl rfl ?_;simp[-aj,-ag,m9,nP,en,e1,e2,b1,b2,l1,l2,wA,qv,dG,m1,m2,fU,dS,oT,au,AV.ai,AV.aB,AV.ax,aD,bg,bO,aC]
  |some x=>
   obtain⟨r,W⟩:=x;have oL:=oL r W hT;subst oL;rw[hT]at dS;simp only[adD,nJ]at dS;have Lh:({ c with V:=W }:CK)=c.bf W:=rfl;rw[Lh]at dS;simp only[show ¬((1:Int)=5) from by decide,show ¬((1:Int)=6) from by decide,aS];intro aa;have wT:(Sm.mk 1 (cM 1 s.nm) (bQ 1 s.on) (bR 1 s.od) ys [] [] s.a z).aF=[.int .i64 1,.str s.nm,.str s.on,.int .i64 s.od,yv,.af,.af,.int .i64 s.a,.int .i64 z]:=(by simp[Sm.aF,Sm.rows,cM,bQ,bR,CG]);show _=some (AV.agg (Sm.mk 1 (cM 1 s.nm) (bQ 1 s.on) (bR 1 s.od) ys [] [] s.a z).aF,_);rw[wT];generalize bp s.bd=bv,bp s.el=lv,(c.bf W).aX=o at *;refine aA (sf:=m9) rfl rfl rfl ?_;simp[-aj,-ag,m9,nP,en,e1,e2,b1,b2,l1,l2,wA,qv,dG,m1,m2,y1,fU,dS,au,AV.ai,AV.aB,AV.ax,aD,bg,bO,aC]
theorem Nf(c:CK)(s:Sm)(hf:c.fe=0)(hw:qw c)(dM:c.V.length+Sm.sz s<1000000000)(hk:s.k=2)(h:de c.sg.cP s.k s.es=true):rD c s:=by
 unfold rD;have hz:=Sm.mX s;have Oo:=E.eH s.es;have nP:=λaa=>lH aa c s (by omega);rw[h]at nP;have en:=λwl aa st=>lS wl aa st;have oT:=λaa=>fO aa c s.a [];have fU:=λaa=>dF aa c [];rw[bM hf]at fU;have lz:c.bf c.V=c:=rfl;have dJ:=Sm.aE s;rw[hk]at dJ;rw[nG,h];rw[hk]at h ⊢;simp only[aQ];rw[dJ]at nP ⊢;have e1:aN (aT s.es)=true:=bz;have e2:(aT s.es).ai=aT s.es:=bu;have b1:aN (bp s.bd)=true:=bL;have b2:(bp s.bd).ai=bp s.bd:=bq;have l1:aN (bp s.el)=true:=bL;have l2:(bp s.el).ai=bp s.el:=bq;have dG:=mP c s.es hf (by omega) (λe he=>jq c hf hw e (by have:=E.fZ he;omega));have xV:uC c.H c.V 2 s.es=lG c.H c.V s.es:=ux (by decide);have qv:=λwl aa st=>AQ wl aa c.H.rs s.on s.od st hw.s.R;have Lg:mW c.H 2 s.on s.od=if (cB c.H.rs s.on s.od).2 then some (cB c.H.rs s.on s.od).1 else none:=ah (by decide)
 rw[Lg];unfold Nb at qv;have ZW:=ox c.H.rs s.on s.od;generalize cB c.H.rs s.on s.od=tt at *;obtain⟨t,b⟩:=tt;cases b with
 |false=>
  simp only[aan,aS];intro aa;refine⟨c.V,Z9,uA,?_⟩;rw[lz];simp only at qv;generalize aT s.es=ev,bp s.bd=bv,bp s.el=lv,(c.fail s.a).aX=o at *;refine aA (sf:=m9) rfl rfl rfl ?_;simp[-aj,-ag,m9,nP,en,e1,e2,b1,b2,l1,l2,wA,qv,oT,au,AV.ai,AV.aB,AV.ax,aD,bg,bO,aC]
 |true=>
 simp only[aQ];simp only at qv;rw[xV];cases hv:lG c.H c.V s.es with
 |error a=>
  rw[hv]at dG;simp only at dG ⊢;intro aa;refine⟨c.V,Z9,uA,?_⟩;rw[lz];obtain⟨v,cT,ev⟩:=dG 1;have Gj:=cy cT;have C8:=cI cT;have ij:=λaa=>dF aa (c.fail a) [];rw[cu gH]at ij;generalize aT s.es=kv,bp s.bd=bv,bp s.el=lv,(c.fail a).aX=o at *;refine aA (sf:=m9) rfl rfl rfl ?_;simp[-aj,-ag,m9,nP,en,e1,e2,b1,b2,l1,l2,wA,qv,ev,cT,ij,au,AV.ai,AV.aB,AV.ax,aD,bg,bO,aC]
 |ok ys=>
  rw[hv]at dG;simp only at dG ⊢;have qx:de c.sg.cP 2 ys=true:=oz hv h;obtain⟨fv,⟨z,rfl,oL⟩,dS⟩:=rG 1 c 2 (cM 2 s.nm) (bQ 2 s.on) (bR 2 s.od) ys s.a t hw.s qx;simp only[oA]at oL dS;have mT:(Sm.mk 2 (cM 2 s.nm) (bQ 2 s.on) (bR 2 s.od) ys [] [] s.a 0).aF=[.int .i64 2,.str s.nm,.str s.on,.int .i64 s.od,aT ys,.af,.af,.int .i64 s.a,.int .i64 0]:=by simp[Sm.aF,Sm.rows,cM,bQ,bR]
  rw[mT]at dS;have m1:aN (bK 11 (E.rows ys))=true:=ct;have m2:(bK 11 (E.rows ys)).ai=aT ys:=rfl;generalize bK 11 (E.rows ys)=mv at *;have m3:=cy m1;have m4:=cI m1;have y1:aN (aT ys)=true:=bz;have y2:(aT ys).ai=aT ys:=bu;generalize CG:aT ys=yv at *;generalize aT s.es=kv at *;cases hT:k6 c.H c.sg.cH c.V 2 s.nm ys t with
  |none=>
   simp only;intro aa;refine⟨c.V,Z9,uA,?_⟩;rw[lz];rw[hT]at dS;simp only[adG,nJ]at dS;generalize bp s.bd=bv,bp s.el=lv,(c.fail s.a).aX=o at *;refine aA (sf:=m9) rfl rfl rfl ?_;simp[-aj,-ag,m9,nP,en,e1,e2,b1,b2,l1,l2,wA,qv,dG,m1,m2,fU,dS,oT,au,AV.ai,AV.aB,AV.ax,aD,bg,bO,aC]
  |some x=>
   obtain⟨r,W⟩:=x;have oL:=oL r W hT;subst oL;rw[hT]at dS;simp only[adD,nJ]at dS;have Lh:({ c with V:=W }:CK)=c.bf W:=rfl;rw[Lh]at dS;simp only[show ¬((2:Int)=5) from by decide,show ¬((2:Int)=6) from by decide,aS];intro aa;have wT:(Sm.mk 2 (cM 2 s.nm) (bQ 2 s.on) (bR 2 s.od) ys [] [] s.a z).aF=[.int .i64 2,.str s.nm,.str s.on,.int .i64 s.od,yv,.af,.af,.int .i64 s.a,.int .i64 z]:=(by simp[Sm.aF,Sm.rows,cM,bQ,bR,CG]);show _=some (AV.agg (Sm.mk 2 (cM 2 s.nm) (bQ 2 s.on) (bR 2 s.od) ys [] [] s.a z).aF,_);rw[wT];generalize bp s.bd=bv,bp s.el=lv,(c.bf W).aX=o at *;refine aA (sf:=m9) rfl rfl rfl ?_;simp[-aj,-ag,m9,nP,en,e1,e2,b1,b2,l1,l2,wA,qv,dG,m1,m2,y1,fU,dS,au,AV.ai,AV.aB,AV.ax,aD,bg,bO,aC]
theorem Ng(c:CK)(s:Sm)(hf:c.fe=0)(hw:qw c)(dM:c.V.length+Sm.sz s<1000000000)(hk:s.k=3)(h:de c.sg.cP s.k s.es=true):rD c s:=by
 unfold rD;have hz:=Sm.mX s;have Oo:=E.eH s.es;have nP:=λaa=>lH aa c s (by omega);rw[h]at nP;have en:=λwl aa st=>lS wl aa st;have oT:=λaa=>fO aa c s.a [];have fU:=λaa=>dF aa c [];rw[bM hf]at fU;have lz:c.bf c.V=c:=rfl;have dJ:=Sm.aE s;rw[hk]at dJ;rw[nG,h];rw[hk]at h ⊢;simp only[aQ];rw[dJ]at nP ⊢;have e1:aN (aT s.es)=true:=bz;have e2:(aT s.es).ai=aT s.es:=bu;have b1:aN (bp s.bd)=true:=bL;have b2:(bp s.bd).ai=bp s.bd:=bq;have l1:aN (bp s.el)=true:=bL;have l2:(bp s.el).ai=bp s.el:=bq;have dG:=mP c s.es hf (by omega) (λe he=>jq c hf hw e (by have:=E.fZ he;omega));have xV:uC c.H c.V 3 s.es=lG c.H c.V s.es:=ux (by decide);have Lg:mW c.H 3 s.on s.od=some T0:=U (by decide);rw[Lg];simp only;rw[xV];cases hv:lG c.H c.V s.es with
 |error a=>
  rw[hv]at dG;simp only at dG ⊢;intro aa;refine⟨c.V,Z9,uA,?_⟩;rw[lz];obtain⟨v,cT,ev⟩:=dG 1;have Gj:=cy cT;have C8:=cI cT;have ij:=λaa=>dF aa (c.fail a) [];rw[cu gH]at ij;generalize aT s.es=kv,bp s.bd=bv,bp s.el=lv,(c.fail a).aX=o at *;refine aA (sf:=m9) rfl rfl rfl ?_;simp[-aj,-ag,m9,nP,en,e1,e2,b1,b2,l1,l2,ev,cT,ij,au,AV.ai,AV.aB,AV.ax,bg,bO]
 |ok ys=>
  rw[hv]at dG;simp only at dG ⊢;have qx:de c.sg.cP 3 ys=true:=oz hv h;obtain⟨fv,⟨z,rfl,oL⟩,dS⟩:=rG 1 c 3 (cM 3 s.nm) (bQ 3 s.on) (bR 3 s.od) ys s.a T0 hw.s qx;simp only[oA]at oL dS;have mT:(Sm.mk 3 (cM 3 s.nm) (bQ 3 s.on) (bR 3 s.od) ys [] [] s.a 0).aF=[.int .i64 3,.str s.nm,.str [],.int .i64 0,aT ys,.af,.af,.int .i64 s.a,.int .i64 0]:=by simp[Sm.aF,Sm.rows,cM,bQ,bR]
  rw[mT]at dS;have m1:aN (bK 11 (E.rows ys))=true:=ct;have m2:(bK 11 (E.rows ys)).ai=aT ys:=rfl;generalize bK 11 (E.rows ys)=mv at *;have m3:=cy m1;have m4:=cI m1;have y1:aN (aT ys)=true:=bz;have y2:(aT ys).ai=aT ys:=bu;generalize CG:aT ys=yv at *;generalize aT s.es=kv at *;cases hT:k6 c.H c.sg.cH c.V 3 s.nm ys T0 with
  |none=>
   simp only;intro aa;refine⟨c.V,Z9,uA,?_⟩;rw[lz];rw[hT]at dS;simp only[adG,nJ]at dS;generalize bp s.bd=bv,bp s.el=lv,(c.fail s.a).aX=o at *;refine aA (sf:=m9) rfl rfl rfl ?_;simp[-aj,-ag,m9,nP,en,e1,e2,b1,b2,l1,l2,dG,m1,m2,fU,dS,oT,au,AV.ai,AV.aB,AV.ax,bg,bO]
  |some x=>
   obtain⟨r,W⟩:=x;have oL:=oL r W hT;subst oL;rw[hT]at dS;simp only[adD,nJ]at dS;have Lh:({ c with V:=W }:CK)=c.bf W:=rfl;rw[Lh]at dS;simp only[show ¬((3:Int)=5) from by decide,show ¬((3:Int)=6) from by decide,aS];intro aa;have wT:(Sm.mk 3 (cM 3 s.nm) (bQ 3 s.on) (bR 3 s.od) ys [] [] s.a z).aF=[.int .i64 3,.str s.nm,.str [],.int .i64 0,yv,.af,.af,.int .i64 s.a,.int .i64 z]:=(by simp[Sm.aF,Sm.rows,cM,bQ,bR,CG]);show _=some (AV.agg (Sm.mk 3 (cM 3 s.nm) (bQ 3 s.on) (bR 3 s.od) ys [] [] s.a z).aF,_);rw[wT];generalize bp s.bd=bv,bp s.el=lv,(c.bf W).aX=o at *;refine aA (sf:=m9) rfl rfl rfl ?_;simp[-aj,-ag,m9,nP,en,e1,e2,b1,b2,l1,l2,dG,m1,m2,y1,fU,dS,au,AV.ai,AV.aB,AV.ax,bg,bO]
theorem Nh(c:CK)(s:Sm)(hf:c.fe=0)(hw:qw c)(dM:c.V.length+Sm.sz s<1000000000)(hk:s.k=4)(h:de c.sg.cP s.k s.es=true):rD c s:=by
 unfold rD;have hz:=Sm.mX s;have Oo:=E.eH s.es;have nP:=λaa=>lH aa c s (by omega);rw[h]at nP;have en:=λwl aa st=>lS wl aa st;have oT:=λaa=>fO aa c s.a [];have fU:=λaa=>dF aa c [];rw[bM hf]at fU;have lz:c.bf c.V=c:=rfl;have dJ:=Sm.aE s;rw[hk]at dJ;rw[nG,h];rw[hk]at h ⊢;simp only[aQ];rw[dJ]at nP ⊢;have e1:aN (aT s.es)=true:=bz;have e2:(aT s.es).ai=aT s.es:=bu;have b1:aN (bp s.bd)=true:=bL;have b2:(bp s.bd).ai=bp s.bd:=bq;have l1:aN (bp s.el)=true:=bL;have l2:(bp s.el).ai=bp s.el:=bq;have dG:=mP c s.es hf (by omega) (λe he=>jq c hf hw e (by have:=E.fZ he;omega));have xV:uC c.H c.V 4 s.es=lG c.H c.V s.es:=ux (by decide);have Lg:mW c.H 4 s.on s.od=some T0:=U (by decide);rw[Lg];simp only;rw[xV];cases hv:lG c.H c.V s.es with
 |error a=>
  rw[hv]at dG;simp only at dG ⊢;intro aa;refine⟨c.V,Z9,uA,?_⟩;rw[lz];obtain⟨v,cT,ev⟩:=dG 1;have Gj:=cy cT;have C8:=cI cT;have ij:=λaa=>dF aa (c.fail a) [];rw[cu gH]at ij;generalize aT s.es=kv,bp s.bd=bv,bp s.el=lv,(c.fail a).aX=o at *;refine aA (sf:=m9) rfl rfl rfl ?_;simp[-aj,-ag,m9,nP,en,e1,e2,b1,b2,l1,l2,ev,cT,ij,au,AV.ai,AV.aB,AV.ax,bg,bO]
 |ok ys=>
  rw[hv]at dG;simp only at dG ⊢;have qx:de c.sg.cP 4 ys=true:=oz hv h;obtain⟨fv,⟨z,rfl,oL⟩,dS⟩:=rG 1 c 4 (cM 4 s.nm) (bQ 4 s.on) (bR 4 s.od) ys s.a T0 hw.s qx;simp only[oA]at oL dS;have mT:(Sm.mk 4 (cM 4 s.nm) (bQ 4 s.on) (bR 4 s.od) ys [] [] s.a 0).aF=[.int .i64 4,.str [],.str [],.int .i64 0,aT ys,.af,.af,.int .i64 s.a,.int .i64 0]:=by simp[Sm.aF,Sm.rows,cM,bQ,bR]
  rw[mT]at dS;have m1:aN (bK 11 (E.rows ys))=true:=ct;have m2:(bK 11 (E.rows ys)).ai=aT ys:=rfl;generalize bK 11 (E.rows ys)=mv at *;have m3:=cy m1;have m4:=cI m1;have y1:aN (aT ys)=true:=bz;have y2:(aT ys).ai=aT ys:=bu;generalize CG:aT ys=yv at *;generalize aT s.es=kv at *;cases hT:k6 c.H c.sg.cH c.V 4 s.nm ys T0 with
  |none=>
   simp only;intro aa;refine⟨c.V,Z9,uA,?_⟩;rw[lz];rw[hT]at dS;simp only[adG,nJ]at dS;generalize bp s.bd=bv,bp s.el=lv,(c.fail s.a).aX=o at *;refine aA (sf:=m9) rfl rfl rfl ?_;simp[-aj,-ag,m9,nP,en,e1,e2,b1,b2,l1,l2,dG,m1,m2,fU,dS,oT,au,AV.ai,AV.aB,AV.ax,bg,bO]
  |some x=>
   obtain⟨r,W⟩:=x;have oL:=oL r W hT;subst oL;rw[hT]at dS;simp only[adD,nJ]at dS;have Lh:({ c with V:=W }:CK)=c.bf W:=rfl;rw[Lh]at dS;simp only[show ¬((4:Int)=5) from by decide,show ¬((4:Int)=6) from by decide,aS];intro aa;have wT:(Sm.mk 4 (cM 4 s.nm) (bQ 4 s.on) (bR 4 s.od) ys [] [] s.a z).aF=[.int .i64 4,.str [],.str [],.int .i64 0,yv,.af,.af,.int .i64 s.a,.int .i64 z]:=(by simp[Sm.aF,Sm.rows,cM,bQ,bR,CG]);show _=some (AV.agg (Sm.mk 4 (cM 4 s.nm) (bQ 4 s.on) (bR 4 s.od) ys [] [] s.a z).aF,_);rw[wT];generalize bp s.bd=bv,bp s.el=lv,(c.bf W).aX=o at *;refine aA (sf:=m9) rfl rfl rfl ?_;simp[-aj,-ag,m9,nP,en,e1,e2,b1,b2,l1,l2,dG,m1,m2,y1,fU,dS,au,AV.ai,AV.aB,AV.ax,bg,bO]
end K9
namespace K9
open Ax Go bY V7 kN lZ
theorem Ni(c:CK)(s:Sm)(hf:c.fe=0)(hw:qw c)(dM:c.V.length+Sm.sz s<1000000000)(hk:s.k=5)(h:de c.sg.cP s.k s.es=true)(QK:∀d:CK,d.H=c.H->d.sg=c.sg->d.fe=0->qw d->d.V.length+Sm.fY s.bd<1000000000->Br d s.bd)(hbe:∀d:CK,d.H=c.H->d.sg=c.sg->d.fe=0->qw d->d.V.length+Sm.fY s.el<1000000000->Br d s.el):rD c s:=by
 unfold rD;have hz:=Sm.mX s;have Oo:=E.eH s.es;have nP:=λaa=>lH aa c s (by omega);rw[h]at nP;have en:=λwl aa st=>lS wl aa st;have oT:=λaa=>fO aa c s.a [];have fU:=λaa=>dF aa c [];rw[bM hf]at fU;have lz:c.bf c.V=c:=rfl;have dJ:=Sm.aE s;rw[hk]at dJ;rw[nG,h];rw[hk]at h ⊢;simp only[aQ];rw[dJ]at nP ⊢;have e1:aN (aT s.es)=true:=bz;have e2:(aT s.es).ai=aT s.es:=bu;have b1:aN (bp s.bd)=true:=bL;have b2:(bp s.bd).ai=bp s.bd:=bq;have l1:aN (bp s.el)=true:=bL;have l2:(bp s.el).ai=bp s.el:=bq;have dG:=mP c s.es hf (by omega) (λe he=>jq c hf hw e (by have:=E.fZ he;omega));have xV:uC c.H c.V 5 s.es=lG c.H c.V s.es:=ux (by decide);have Lg:mW c.H 5 s.on s.od=some T0:=U (by decide);rw[Lg];simp only;rw[xV];cases hv:lG c.H c.V s.es with
 |error a=>
  rw[hv]at dG;simp only at dG ⊢;intro aa;refine⟨c.V,Z9,uA,?_⟩;rw[lz];obtain⟨v,cT,ev⟩:=dG 1;have Gj:=cy cT;have C8:=cI cT;have ij:=λaa=>dF aa (c.fail a) [];rw[cu gH]at ij;generalize aT s.es=kv,bp s.bd=bv,bp s.el=lv,(c.fail a).aX=o at *;refine aA (sf:=m9) rfl rfl rfl ?_;simp[-aj,-ag,m9,nP,en,e1,e2,b1,b2,l1,l2,ev,cT,ij,au,AV.ai,AV.aB,AV.ax,bg,bO]
 |ok ys=>
  rw[hv]at dG;simp only at dG ⊢;have qx:de c.sg.cP 5 ys=true:=oz hv h;obtain⟨fv,⟨z,rfl,oL⟩,dS⟩:=rG 1 c 5 (cM 5 s.nm) (bQ 5 s.on) (bR 5 s.od) ys s.a T0 hw.s qx;simp only[oA]at oL dS;have mT:(Sm.mk 5 (cM 5 s.nm) (bQ 5 s.on) (bR 5 s.od) ys [] [] s.a 0).aF=[.int .i64 5,.str [],.str [],.int .i64 0,aT ys,.af,.af,.int .i64 s.a,.int .i64 0]:=by simp[Sm.aF,Sm.rows,cM,bQ,bR]
  rw[mT]at dS;have m1:aN (bK 11 (E.rows ys))=true:=ct;have m2:(bK 11 (E.rows ys)).ai=aT ys:=rfl;generalize bK 11 (E.rows ys)=mv at *;have m3:=cy m1;have m4:=cI m1;have y1:aN (aT ys)=true:=bz;have y2:(aT ys).ai=aT ys:=bu;generalize CG:aT ys=yv at *;generalize aT s.es=kv at *;cases hT:k6 c.H c.sg.cH c.V 5 s.nm ys T0 with
  |none=>
   simp only;intro aa;refine⟨c.V,Z9,uA,?_⟩;rw[lz];rw[hT]at dS;simp only[adG,nJ]at dS;generalize bp s.bd=bv,bp s.el=lv,(c.fail s.a).aX=o at *;refine aA (sf:=m9) rfl rfl rfl ?_;simp[-aj,-ag,m9,nP,en,e1,e2,b1,b2,l1,l2,dG,m1,m2,fU,dS,oT,au,AV.ai,AV.aB,AV.ax,bg,bO]
  |some x=>
   obtain⟨r,W⟩:=x;have oL:=oL r W hT;subst oL;rw[hT]at dS;simp only[adD,nJ]at dS;have Lh:({ c with V:=W }:CK)=c.bf W:=rfl;rw[Lh]at dS;have hfw:=KW hT;have ZZ:W=c.V:=by
    rcases hfw with e|⟨e,_⟩;exact e;rcases e with e|e<;>cases e
   have hwW:qw (c.bf W):=(by rw[ZZ];exact hw);have Rx:=Sm.eH s.bd;have hll:=Sm.eH s.el;have hB:=QK (c.bf W) rfl rfl hf hwW (by show W.length+_<_;rw[ZZ];omega);unfold Br at hB;have I9:lB (c.bf W).H (c.bf W).sg.cP (c.bf W).sg.cH (c.bf W).V s.bd=lB c.H c.sg.cP c.sg.cH W s.bd:=rfl;rw[I9]at hB;dsimp only;cases hb:lB c.H c.sg.cP c.sg.cH W s.bd with
   |error a=>
    rw[hb]at hB;simp only at hB ⊢;intro aa;obtain⟨W',v,v1,ev⟩:=hB 1;have oF:(c.bf W).bf W'=c.bf W':=rfl;rw[oF]at ev;have v3:=cy v1;have v4:=cI v1;have v5:aN v.ai=true:=(by rw[kF];exact v1);have eB:=λaa=>yG aa ((c.bf W').fail a) s.el gH (by omega);refine⟨W',[.int .i64 5,.str [],.str [],.int .i64 0,yv,v.ai,.af,.int .i64 s.a,.int .i64 z],⟨_,_,_,_,_,_,_,_,_,rfl,y1,v5,rfl⟩,?_⟩;generalize bp s.bd=bv,bp s.el=lv,(c.bf W).aX=o,((c.bf W').fail a).aX=o2 at *;refine aA (sf:=m9) rfl rfl rfl ?_;simp[-aj,-ag,m9,nP,en,e1,e2,b1,b2,l1,l2,dG,m1,m2,y1,fU,dS,ev,v1,v5,eB,au,AV.ai,AV.aB,AV.ax,bg,bO]
   |ok x=>
    obtain⟨bs,W1⟩:=x;rw[hb]at hB;simp only at hB ⊢;have oF:(c.bf W).bf W1=c.bf W1:=rfl;rw[oF]at hB;have q1:aN (bK 9 (Sm.rows bs))=true:=ct;have q2:(bK 9 (Sm.rows bs)).ai=bp bs:=rfl;have q3:=cy q1;have q4:=cI q1;have q5:aN (bp bs)=true:=bL;obtain⟨w1,w2⟩:=M3 (by rw[ZZ];exact hw.V) hb;have alw:qw (c.bf W1):=yF hw w1 (by rw[ZZ]at w2;omega);have hL:=hbe (c.bf W1) rfl rfl hf alw (by show W1.length+_<_;rw[ZZ]at w2;omega);unfold Br at hL;have I9:lB (c.bf W1).H (c.bf W1).sg.cP (c.bf W1).sg.cH (c.bf W1).V s.el=lB c.H c.sg.cP c.sg.cH W1 s.el:=rfl;rw[I9]at hL;generalize bK 9 (Sm.rows bs)=mb at *;cases hc:lB c.H c.sg.cP c.sg.cH W1 s.el with
    |error a=>
     rw[hc]at hL;simp only at hL ⊢;intro aa;obtain⟨W',v,v1,ev⟩:=hL 1;have oF:(c.bf W1).bf W'=c.bf W':=rfl;rw[oF]at ev;have v3:=cy v1;have v4:=cI v1;have v5:aN v.ai=true:=(by rw[kF];exact v1);refine⟨W',[.int .i64 5,.str [],.str [],.int .i64 0,yv,bp bs,v.ai,.int .i64 s.a,.int .i64 z],⟨_,_,_,_,_,_,_,_,_,rfl,y1,q5,v5⟩,?_⟩;generalize bp bs=bsv,bp s.bd=bv,bp s.el=lv,(c.bf W).aX=o,(c.bf W1).aX=o2,((c.bf W').fail a).aX=o3 at *;refine aA (sf:=m9) rfl rfl rfl ?_;simp[-aj,-ag,m9,nP,en,e1,e2,b1,b2,l1,l2,dG,m1,m2,y1,fU,dS,hB,ev,v1,v5,q1,q2,q5,au,AV.ai,AV.aB,AV.ax,bg,bO]
    |ok x=>
     obtain⟨ls,W2⟩:=x;rw[hc]at hL;simp only at hL ⊢;have oF:(c.bf W1).bf W2=c.bf W2:=rfl;rw[oF]at hL;have p1:aN (bK 9 (Sm.rows ls))=true:=ct;have p2:(bK 9 (Sm.rows ls)).ai=bp ls:=rfl;have p3:=cy p1;have p4:=cI p1;have p5:aN (bp ls)=true:=bL;intro aa;have wT:(Sm.mk 5 (cM 5 s.nm) (bQ 5 s.on) (bR 5 s.od) ys bs ls s.a z).aF=[.int .i64 5,.str [],.str [],.int .i64 0,yv,bp bs,bp ls,.int .i64 s.a,.int .i64 z]:=(by simp[Sm.aF,cM,bQ,bR,CG,bp]);show _=some (AV.agg (Sm.mk 5 (cM 5 s.nm) (bQ 5 s.on) (bR 5 s.od) ys bs ls s.a z).aF,_);rw[wT];generalize bK 9 (Sm.rows ls)=ml,bp bs=bsv,bp ls=lsv,bp s.bd=bv,bp s.el=lv,(c.bf W).aX=o,(c.bf W1).aX=o2,(c.bf W2).aX=o3 at *;refine aA (sf:=m9) rfl rfl rfl ?_;simp[-aj,-ag,m9,nP,en,e1,e2,b1,b2,l1,l2,dG,m1,m2,y1,fU,dS,hB,hL,q1,q2,q5,p1,p2,p5,au,AV.ai,AV.aB,AV.ax,bg,bO]
theorem Nj(c:CK)(s:Sm)(hf:c.fe=0)(hw:qw c)(dM:c.V.length+Sm.sz s<1000000000)(hk:s.k=6)(h:de c.sg.cP s.k s.es=true)(QK:∀d:CK,d.H=c.H->d.sg=c.sg->d.fe=0->qw d->d.V.length+Sm.fY s.bd<1000000000->Br d s.bd):rD c s:=by
 unfold rD;have hz:=Sm.mX s;have Oo:=E.eH s.es;have nP:=λaa=>lH aa c s (by omega);rw[h]at nP;have en:=λwl aa st=>lS wl aa st;have oT:=λaa=>fO aa c s.a [];have fU:=λaa=>dF aa c [];rw[bM hf]at fU;have lz:c.bf c.V=c:=rfl;have dJ:=Sm.aE s;rw[hk]at dJ;rw[nG,h];rw[hk]at h ⊢;simp only[aQ];rw[dJ]at nP ⊢;have e1:aN (aT s.es)=true:=bz;have e2:(aT s.es).ai=aT s.es:=bu;have b1:aN (bp s.bd)=true:=bL;have b2:(bp s.bd).ai=bp s.bd:=bq;have l1:aN (bp s.el)=true:=bL;have l2:(bp s.el).ai=bp s.el:=bq;have dG:=mP c s.es hf (by omega) (λe he=>jq c hf hw e (by have:=E.fZ he;omega));have xV:uC c.H c.V 6 s.es=lG c.H c.V s.es:=ux (by decide);have Lg:mW c.H 6 s.on s.od=some T0:=U (by decide);rw[Lg];simp only;rw[xV];cases hv:lG c.H c.V s.es with
 |error a=>
  rw[hv]at dG;simp only at dG ⊢;intro aa;refine⟨c.V,Z9,uA,?_⟩;rw[lz];obtain⟨v,cT,ev⟩:=dG 1;have Gj:=cy cT;have C8:=cI cT;have ij:=λaa=>dF aa (c.fail a) [];rw[cu gH]at ij;generalize aT s.es=kv,bp s.bd=bv,bp s.el=lv,(c.fail a).aX=o at *;refine aA (sf:=m9) rfl rfl rfl ?_;simp[-aj,-ag,m9,nP,en,e1,e2,b1,b2,l1,l2,ev,cT,ij,au,AV.ai,AV.aB,AV.ax,bg,bO]
 |ok ys=>
  rw[hv]at dG;simp only at dG ⊢;have qx:de c.sg.cP 6 ys=true:=oz hv h;obtain⟨fv,⟨z,rfl,oL⟩,dS⟩:=rG 1 c 6 (cM 6 s.nm) (bQ 6 s.on) (bR 6 s.od) ys s.a T0 hw.s qx;simp only[oA]at oL dS;have mT:(Sm.mk 6 (cM 6 s.nm) (bQ 6 s.on) (bR 6 s.od) ys [] [] s.a 0).aF=[.int .i64 6,.str [],.str [],.int .i64 0,aT ys,.af,.af,.int .i64 s.a,.int .i64 0]:=by simp[Sm.aF,Sm.rows,cM,bQ,bR]
  rw[mT]at dS;have m1:aN (bK 11 (E.rows ys))=true:=ct;have m2:(bK 11 (E.rows ys)).ai=aT ys:=rfl;generalize bK 11 (E.rows ys)=mv at *;have m3:=cy m1;have m4:=cI m1;have y1:aN (aT ys)=true:=bz;have y2:(aT ys).ai=aT ys:=bu;generalize CG:aT ys=yv at *;generalize aT s.es=kv at *;cases hT:k6 c.H c.sg.cH c.V 6 s.nm ys T0 with
  |none=>
   simp only;intro aa;refine⟨c.V,Z9,uA,?_⟩;rw[lz];rw[hT]at dS;simp only[adG,nJ]at dS;generalize bp s.bd=bv,bp s.el=lv,(c.fail s.a).aX=o at *;refine aA (sf:=m9) rfl rfl rfl ?_;simp[-aj,-ag,m9,nP,en,e1,e2,b1,b2,l1,l2,dG,m1,m2,fU,dS,oT,au,AV.ai,AV.aB,AV.ax,bg,bO]
  |some x=>
   obtain⟨r,W⟩:=x;have oL:=oL r W hT;subst oL;rw[hT]at dS;simp only[adD,nJ]at dS;have Lh:({ c with V:=W }:CK)=c.bf W:=rfl;rw[Lh]at dS;have hfw:=KW hT;have ZZ:W=c.V:=by
    rcases hfw with e|⟨e,_⟩;exact e;rcases e with e|e<;>cases e
   have hwW:qw (c.bf W):=(by rw[ZZ];exact hw);have Rx:=Sm.eH s.bd;have hll:=Sm.eH s.el;have hB:=QK (c.bf W) rfl rfl hf hwW (by show W.length+_<_;rw[ZZ];omega);unfold Br at hB;have I9:lB (c.bf W).H (c.bf W).sg.cP (c.bf W).sg.cH (c.bf W).V s.bd=lB c.H c.sg.cP c.sg.cH W s.bd:=rfl;rw[I9]at hB;simp only[show ¬((6:Int)=5) from by decide,aS];cases hb:lB c.H c.sg.cP c.sg.cH W s.bd with
   |error a=>
    rw[hb]at hB;simp only at hB ⊢;intro aa;obtain⟨W',v,v1,ev⟩:=hB 1;have oF:(c.bf W).bf W'=c.bf W':=rfl;rw[oF]at ev;have v3:=cy v1;have v4:=cI v1;have v5:aN v.ai=true:=(by rw[kF];exact v1);have eB:=λaa=>yG aa ((c.bf W').fail a) s.el gH (by omega);refine⟨W',[.int .i64 6,.str [],.str [],.int .i64 0,yv,v.ai,.af,.int .i64 s.a,.int .i64 z],⟨_,_,_,_,_,_,_,_,_,rfl,y1,v5,rfl⟩,?_⟩;generalize bp s.bd=bv,bp s.el=lv,(c.bf W).aX=o,((c.bf W').fail a).aX=o2 at *;refine aA (sf:=m9) rfl rfl rfl ?_;simp[-aj,-ag,m9,nP,en,e1,e2,b1,b2,l1,l2,dG,m1,m2,y1,fU,dS,ev,v1,v5,au,AV.ai,AV.aB,AV.ax,bg,bO]
   |ok x=>
    obtain⟨bs,W1⟩:=x;rw[hb]at hB;simp only at hB ⊢;have oF:(c.bf W).bf W1=c.bf W1:=rfl;rw[oF]at hB;have q1:aN (bK 9 (Sm.rows bs))=true:=ct;have q2:(bK 9 (Sm.rows bs)).ai=bp bs:=rfl;have q3:=cy q1;have q4:=cI q1;have q5:aN (bp bs)=true:=bL;intro aa;have wT:(Sm.mk 6 (cM 6 s.nm) (bQ 6 s.on) (bR 6 s.od) ys bs [] s.a z).aF=[.int .i64 6,.str [],.str [],.int .i64 0,yv,bp bs,.af,.int .i64 s.a,.int .i64 z]:=(by simp[Sm.aF,Sm.rows,cM,bQ,bR,CG,bp]);show _=some (AV.agg (Sm.mk 6 (cM 6 s.nm) (bQ 6 s.on) (bR 6 s.od) ys bs [] s.a z).aF,_);rw[wT];generalize bK 9 (Sm.rows bs)=mb,bp bs=bsv,bp s.bd=bv,bp s.el=lv,(c.bf W).aX=o,(c.bf W1).aX=o2 at *;refine aA (sf:=m9) rfl rfl rfl ?_;simp[-aj,-ag,m9,nP,en,e1,e2,b1,b2,l1,l2,dG,m1,m2,y1,fU,dS,hB,q1,q2,q5,au,AV.ai,AV.aB,AV.ax,bg,bO]
theorem Nk(c:CK)(s:Sm)(hf:c.fe=0)(hw:qw c)(dM:c.V.length+Sm.sz s<1000000000)(hk:s.k=7)(h:de c.sg.cP s.k s.es=true):rD c s:=by
 unfold rD;have hz:=Sm.mX s;have Oo:=E.eH s.es;have nP:=λaa=>lH aa c s (by omega);rw[h]at nP;have en:=λwl aa st=>lS wl aa st;have oT:=λaa=>fO aa c s.a [];have fU:=λaa=>dF aa c [];rw[bM hf]at fU;have lz:c.bf c.V=c:=rfl;have dJ:=Sm.aE s;rw[hk]at dJ;rw[nG,h];rw[hk]at h ⊢;simp only[aQ];rw[dJ]at nP ⊢;have e1:aN (aT s.es)=true:=bz;have e2:(aT s.es).ai=aT s.es:=bu;have b1:aN (bp s.bd)=true:=bL;have b2:(bp s.bd).ai=bp s.bd:=bq;have l1:aN (bp s.el)=true:=bL;have l2:(bp s.el).ai=bp s.el:=bq;have dG:=mP c s.es hf (by omega) (λe he=>jq c hf hw e (by have:=E.fZ he;omega));have xV:uC c.H c.V 7 s.es=lG c.H c.V s.es:=ux (by decide);have Lg:mW c.H 7 s.on s.od=some T0:=U (by decide);rw[Lg];simp only;rw[xV];cases hv:lG c.H c.V s.es with
 |error a=>
  rw[hv]at dG;simp only at dG ⊢;intro aa;refine⟨c.V,Z9,uA,?_⟩;rw[lz];obtain⟨v,cT,ev⟩:=dG 1;have Gj:=cy cT;have C8:=cI cT;have ij:=λaa=>dF aa (c.fail a) [];rw[cu gH]at ij;generalize aT s.es=kv,bp s.bd=bv,bp s.el=lv,(c.fail a).aX=o at *;refine aA (sf:=m9) rfl rfl rfl ?_;simp[-aj,-ag,m9,nP,en,e1,e2,b1,b2,l1,l2,ev,cT,ij,au,AV.ai,AV.aB,AV.ax,bg,bO]
 |ok ys=>
  rw[hv]at dG;simp only at dG ⊢;have qx:de c.sg.cP 7 ys=true:=oz hv h;obtain⟨fv,⟨z,rfl,oL⟩,dS⟩:=rG 1 c 7 (cM 7 s.nm) (bQ 7 s.on) (bR 7 s.od) ys s.a T0 hw.s qx;simp only[oA]at oL dS;have mT:(Sm.mk 7 (cM 7 s.nm) (bQ 7 s.on) (bR 7 s.od) ys [] [] s.a 0).aF=[.int .i64 7,.str [],.str [],.int .i64 0,aT ys,.af,.af,.int .i64 s.a,.int .i64 0]:=by simp[Sm.aF,Sm.rows,cM,bQ,bR]
  rw[mT]at dS;have m1:aN (bK 11 (E.rows ys))=true:=ct;have m2:(bK 11 (E.rows ys)).ai=aT ys:=rfl;generalize bK 11 (E.rows ys)=mv at *;have m3:=cy m1;have m4:=cI m1;have y1:aN (aT ys)=true:=bz;have y2:(aT ys).ai=aT ys:=bu;generalize CG:aT ys=yv at *;generalize aT s.es=kv at *;cases hT:k6 c.H c.sg.cH c.V 7 s.nm ys T0 with
  |none=>
   simp only;intro aa;refine⟨c.V,Z9,uA,?_⟩;rw[lz];rw[hT]at dS;simp only[adG,nJ]at dS;generalize bp s.bd=bv,bp s.el=lv,(c.fail s.a).aX=o at *;refine aA (sf:=m9) rfl rfl rfl ?_;simp[-aj,-ag,m9,nP,en,e1,e2,b1,b2,l1,l2,dG,m1,m2,fU,dS,oT,au,AV.ai,AV.aB,AV.ax,bg,bO]
  |some x=>
   obtain⟨r,W⟩:=x;have oL:=oL r W hT;subst oL;rw[hT]at dS;simp only[adD,nJ]at dS;have Lh:({ c with V:=W }:CK)=c.bf W:=rfl;rw[Lh]at dS;simp only[show ¬((7:Int)=5) from by decide,show ¬((7:Int)=6) from by decide,aS];intro aa;have wT:(Sm.mk 7 (cM 7 s.nm) (bQ 7 s.on) (bR 7 s.od) ys [] [] s.a z).aF=[.int .i64 7,.str [],.str [],.int .i64 0,yv,.af,.af,.int .i64 s.a,.int .i64 z]:=(by simp[Sm.aF,Sm.rows,cM,bQ,bR,CG]);show _=some (AV.agg (Sm.mk 7 (cM 7 s.nm) (bQ 7 s.on) (bR 7 s.od) ys [] [] s.a z).aF,_);rw[wT];generalize bp s.bd=bv,bp s.el=lv,(c.bf W).aX=o at *;refine aA (sf:=m9) rfl rfl rfl ?_;simp[-aj,-ag,m9,nP,en,e1,e2,b1,b2,l1,l2,dG,m1,m2,y1,fU,dS,au,AV.ai,AV.aB,AV.ax,bg,bO]
theorem Nl(c:CK)(s:Sm)(hf:c.fe=0)(hw:qw c)(dM:c.V.length+Sm.sz s<1000000000)(hk:s.k=8)(h:de c.sg.cP s.k s.es=true):rD c s:=by
 unfold rD;have hz:=Sm.mX s;have Oo:=E.eH s.es;have nP:=λaa=>lH aa c s (by omega);rw[h]at nP;have en:=λwl aa st=>lS wl aa st;have oT:=λaa=>fO aa c s.a [];have fU:=λaa=>dF aa c [];rw[bM hf]at fU;have lz:c.bf c.V=c:=rfl;have dJ:=Sm.aE s;rw[hk]at dJ;rw[nG,h];rw[hk]at h ⊢;simp only[aQ];rw[dJ]at nP ⊢;have e1:aN (aT s.es)=true:=bz;have e2:(aT s.es).ai=aT s.es:=bu;have b1:aN (bp s.bd)=true:=bL;have b2:(bp s.bd).ai=bp s.bd:=bq;have l1:aN (bp s.el)=true:=bL;have l2:(bp s.el).ai=bp s.el:=bq;have dG:=mP c s.es hf (by omega) (λe he=>jq c hf hw e (by have:=E.fZ he;omega));have xV:uC c.H c.V 8 s.es=lG c.H c.V s.es:=ux (by decide);have Lg:mW c.H 8 s.on s.od=some T0:=U (by decide);rw[Lg];simp only;rw[xV];cases hv:lG c.H c.V s.es with
 |error a=>
  rw[hv]at dG;simp only at dG ⊢;intro aa;refine⟨c.V,Z9,uA,?_⟩;rw[lz];obtain⟨v,cT,ev⟩:=dG 1;have Gj:=cy cT;have C8:=cI cT;have ij:=λaa=>dF aa (c.fail a) [];rw[cu gH]at ij;generalize aT s.es=kv,bp s.bd=bv,bp s.el=lv,(c.fail a).aX=o at *;refine aA (sf:=m9) rfl rfl rfl ?_;simp[-aj,-ag,m9,nP,en,e1,e2,b1,b2,l1,l2,ev,cT,ij,au,AV.ai,AV.aB,AV.ax,bg,bO]
 |ok ys=>
  rw[hv]at dG;simp only at dG ⊢;have qx:de c.sg.cP 8 ys=true:=oz hv h;obtain⟨fv,⟨z,rfl,oL⟩,dS⟩:=rG 1 c 8 (cM 8 s.nm) (bQ 8 s.on) (bR 8 s.od) ys s.a T0 hw.s qx;simp only[oA]at oL dS;have mT:(Sm.mk 8 (cM 8 s.nm) (bQ 8 s.on) (bR 8 s.od) ys [] [] s.a 0).aF=[.int .i64 8,.str [],.str [],.int .i64 0,aT ys,.af,.af,.int .i64 s.a,.int .i64 0]:=by simp[Sm.aF,Sm.rows,cM,bQ,bR]
  rw[mT]at dS;have m1:aN (bK 11 (E.rows ys))=true:=ct;have m2:(bK 11 (E.rows ys)).ai=aT ys:=rfl;generalize bK 11 (E.rows ys)=mv at *;have m3:=cy m1;have m4:=cI m1;have y1:aN (aT ys)=true:=bz;have y2:(aT ys).ai=aT ys:=bu;generalize CG:aT ys=yv at *;generalize aT s.es=kv at *;cases hT:k6 c.H c.sg.cH c.V 8 s.nm ys T0 with
  |none=>
   simp only;intro aa;refine⟨c.V,Z9,uA,?_⟩;rw[lz];rw[hT]at dS;simp only[adG,nJ]at dS;generalize bp s.bd=bv,bp s.el=lv,(c.fail s.a).aX=o at *;refine aA (sf:=m9) rfl rfl rfl ?_;simp[-aj,-ag,m9,nP,en,e1,e2,b1,b2,l1,l2,dG,m1,m2,fU,dS,oT,au,AV.ai,AV.aB,AV.ax,bg,bO]
  |some x=>
   obtain⟨r,W⟩:=x;have oL:=oL r W hT;subst oL;rw[hT]at dS;simp only[adD,nJ]at dS;have Lh:({ c with V:=W }:CK)=c.bf W:=rfl;rw[Lh]at dS;simp only[show ¬((8:Int)=5) from by decide,show ¬((8:Int)=6) from by decide,aS];intro aa;have wT:(Sm.mk 8 (cM 8 s.nm) (bQ 8 s.on) (bR 8 s.od) ys [] [] s.a z).aF=[.int .i64 8,.str [],.str [],.int .i64 0,yv,.af,.af,.int .i64 s.a,.int .i64 z]:=(by simp[Sm.aF,Sm.rows,cM,bQ,bR,CG]);show _=some (AV.agg (Sm.mk 8 (cM 8 s.nm) (bQ 8 s.on) (bR 8 s.od) ys [] [] s.a z).aF,_);rw[wT];generalize bp s.bd=bv,bp s.el=lv,(c.bf W).aX=o at *;refine aA (sf:=m9) rfl rfl rfl ?_;simp[-aj,-ag,m9,nP,en,e1,e2,b1,b2,l1,l2,dG,m1,m2,y1,fU,dS,au,AV.ai,AV.aB,AV.ax,bg,bO]
theorem Nm(c:CK)(s:Sm)(hf:c.fe=0)(hw:qw c)(dM:c.V.length+Sm.sz s<1000000000)(hk:s.k=9)(h:de c.sg.cP s.k s.es=true):rD c s:=by
 unfold rD;have hz:=Sm.mX s;have Oo:=E.eH s.es;have nP:=λaa=>lH aa c s (by omega);rw[h]at nP;have en:=λwl aa st=>lS wl aa st;have oT:=λaa=>fO aa c s.a [];have fU:=λaa=>dF aa c [];rw[bM hf]at fU;have lz:c.bf c.V=c:=rfl;have dJ:=Sm.aE s;rw[hk]at dJ;rw[nG,h];rw[hk]at h ⊢;simp only[aQ];rw[dJ]at nP ⊢;have e1:aN (aT s.es)=true:=bz;have e2:(aT s.es).ai=aT s.es:=bu;have b1:aN (bp s.bd)=true:=bL;have b2:(bp s.bd).ai=bp s.bd:=bq;have l1:aN (bp s.el)=true:=bL;have l2:(bp s.el).ai=bp s.el:=bq;obtain⟨e,jj,hek⟩:=M5 h;have hze:cJ 11 (aT s.es)=true:=gn;have dh:bt (aT s.es)=E.rows s.es:=aW;have hX:=jq c hf hw e (by have:E.sz e<=E.fY s.es:=E.fZ (by rw[jj];exact List.mem_cons_self);omega);unfold Lf at hX;have xV:uC c.H c.V 9 s.es=match zh c.H c.V e with|.error x=>.error x|.ok y=>.ok [y]:=by rw[jj];exact UA
 rw[show E.rows s.es=E.rows [e] from by rw[jj]]at dh;simp only[E.rows,E.aE]at dh;have Lg:mW c.H 9 s.on s.od=some T0:=U (by decide);rw[Lg];simp only;rw[xV];cases hv:zh c.H c.V e with
 |error a=>
  rw[hv]at hX;simp only at hX ⊢;intro aa;refine⟨c.V,Z9,uA,?_⟩;rw[lz];obtain⟨y,ev⟩:=hX 1;have ij:=λaa=>dF aa (c.fail a) [];rw[cu gH]at ij;rw[E.aE e,E.aE y]at ev;generalize aT s.es=kv,bp s.bd=bv,bp s.el=lv,(c.fail a).aX=o at *;refine aA (sf:=m9) rfl rfl rfl ?_;simp[-aj,-ag,m9,nP,en,e1,e2,b1,b2,l1,l2,hze,dh,br,ev,ij,au,AV.ai,AV.aB,AV.ax,bg,bO]
 |ok y=>
  rw[hv]at hX;simp only at hX ⊢;have qx:de c.sg.cP 9 [y]=true:=by simp[de,OS hv,hek]
  obtain⟨fv,⟨z,rfl,oL⟩,dS⟩:=rG 1 c 9 (cM 9 s.nm) (bQ 9 s.on) (bR 9 s.od) [y] s.a T0 hw.s qx;simp only[oA]at oL dS;have mT:(Sm.mk 9 (cM 9 s.nm) (bQ 9 s.on) (bR 9 s.od) [y] [] [] s.a 0).aF=[.int .i64 9,.str [],.str [],.int .i64 0,aT [y],.af,.af,.int .i64 s.a,.int .i64 0]:=by simp[Sm.aF,Sm.rows,cM,bQ,bR]
  rw[mT]at dS;have CG:aT [y]=.eE 11 [y.aF]:=by simp[aT,E.rows]
  rw[CG]at dS;rw[E.aE y]at dS hX CG;rw[E.aE e]at hX;generalize aT s.es=kv at *;cases hT:k6 c.H c.sg.cH c.V 9 s.nm [y] T0 with
  |none=>
   simp only;intro aa;refine⟨c.V,Z9,uA,?_⟩;rw[lz];rw[hT]at dS;simp only[adG,nJ]at dS;generalize bp s.bd=bv,bp s.el=lv,(c.fail s.a).aX=o at *;refine aA (sf:=m9) rfl rfl rfl ?_;simp[-aj,-ag,m9,nP,en,e1,e2,b1,b2,l1,l2,hze,dh,br,hX,fU,dS,oT,au,AV.ai,AV.aB,AV.ax,bg,bO]
  |some x=>
   obtain⟨r,W⟩:=x;have oL:=oL r W hT;subst oL;rw[hT]at dS;simp only[adD,nJ]at dS;have Lh:({ c with V:=W }:CK)=c.bf W:=rfl;rw[Lh]at dS;simp only[show ¬((9:Int)=5) from by decide,show ¬((9:Int)=6) from by decide,aS];intro aa;have wT:(Sm.mk 9 (cM 9 s.nm) (bQ 9 s.on) (bR 9 s.od) [y] [] [] s.a z).aF=[.int .i64 9,.str [],.str [],.int .i64 0,aT [y],.af,.af,.int .i64 s.a,.int .i64 z]:=(by simp[Sm.aF,Sm.rows,cM,bQ,bR]);show _=some (AV.agg (Sm.mk 9 (cM 9 s.nm) (bQ 9 s.on) (bR 9 s.od) [y] [] [] s.a z).aF,_);rw[wT];generalize bp s.bd=bv,bp s.el=lv,(c.bf W).aX=o at *;refine aA (sf:=m9) rfl rfl rfl ?_;simp[-aj,-ag,m9,nP,en,e1,e2,b1,b2,l1,l2,hze,dh,br,hX,CG,fU,dS,au,AV.ai,AV.aB,AV.ax,bg,bO]
end K9
namespace K9
open Ax Go bY V7 kN lZ
variable{cP:Bool}{k:Nat}{V:List Vd}{l:List Sm}
theorem O2{k:Int}{es:List E}(h:de cP k es=true):k=1\/k=2\/k=3\/k=4\/k=5\/k=6\/k=7\/k=8\/k=9:=by
 by_cases h1:k=1;exact .inl h1;by_cases h4:k=4;omega;by_cases h7:k=7;omega;by_cases h9:k=9;omega;unfold de at h;rw[U h1,U h4,U h7,U h9]at h;split at h;omega;cases h
theorem Fx{H:Hd}{cH:T3}(h:k<l.length):lB H cP cH V (l.drop k)=match zH H cP cH V l[k] with
  |.error x=>.error x|.ok (y,W)=>match lB H cP cH W (l.drop (k+1)) with
   |.error x=>.error x|.ok (ys,X)=>.ok (y::ys,X):=by
 rw[aaz h];conv=>lhs;unfold lB
 rfl
def Ja(ys:List Sm)(r:Except Int (List Sm×List Vd)):Except Int (List Sm×List Vd):=match r with
 |.error x=>.error x|.ok (zs,X)=>.ok (ys++zs,X)
theorem HK{H:Hd}{cH:T3}{ys:List Sm}(h:k<l.length):Ja ys (lB H cP cH V (l.drop k))=match zH H cP cH V l[k] with
  |.error x=>.error x|.ok (y,W)=>Ja (ys++[y]) (lB H cP cH W (l.drop (k+1))):=by
 rw[Fx h];split
 rfl
 split;rename_i h1;rw[h1];rfl;rename_i h1;rw[h1];simp[Ja]
theorem zN(h:k<l.length):(Sm.rows l)[k]?=some l[k].aF:=by simp[kV,h]
theorem tV(h:k<l.length)(h2:k<(Sm.rows l).length):(Sm.rows l)[k]=l[k].aF:=by simp[kV]
theorem A6:∀(l:List Sm)(k:Nat)(h:k<l.length),Sm.fY (l.drop k)=Sm.sz l[k]+Sm.fY (l.drop (k+1)):=by
 intro l k h;rw[aaz h];rfl
theorem iL(c:CK)(l:List Sm)(hf:c.fe=0)(hw:qw c)(dM:c.V.length+Sm.fY l<1000000000)
  (hl:∀s∈l,∀d:CK,d.H=c.H->d.sg=c.sg->d.fe=0->qw d->d.V.length+Sm.sz s<1000000000->rD d s):Br c l:=by
 unfold Br;have hz:cJ 9 (bp l)=true:=wz;have cT:aN (bp l)=true:=bL;have eC:(bp l).ai=bp l:=bq;have dh:bt (bp l)=Sm.rows l:=aW;have hlen:=Sm.eH l;have lW:∀(ys:List Sm) (y:Sm),ys.length<1000000000->oP 9 136 (bK 9 (Sm.rows ys)) [y.aF]=some (bK 9 (Sm.rows (ys++[y]))):=λys y h=>by
  rw[eO (by simp[cn,Sm.aE]) (by simp[cN];omega)];simp[kV]
 have B2:∀(ys:List (List AV)) (y:List AV),y.length=9->ys.length<1000000000->oP 9 136 (bK 9 ys) [y]=some (bK 9 (ys++[y])):=λys y h1 h=>by
  rw[eO (by simp[cn,h1]) (by simp[cN];omega)]
 cases hR:lB c.H c.sg.cP c.sg.cH c.V l with
 |ok x=>
  obtain⟨zs,X⟩:=x;intro aa;refine aA (sf:=ZL) rfl rfl rfl ?_;generalize bp l=lv at *;simp[-aj,-ag,ZL,cT,eC,dh];refine bH ER.eq_1 (λx:Nat×List Sm×List Vd×List AV=>⟨[(0,.val (.ptr 0 0 0 0)),(5,.val (bK 9 (Sm.rows x.2.1))),(8,.val lv),(9,.val (.int .i64 l.length)),(10,.val (.int .i64 x.1))],[x.2.2.2],[(c.bf x.2.2.1).aX]⟩)
   (λx=>x.1<=l.length/\x.2.1.length=x.1/\Ja x.2.1 (lB c.H c.sg.cP c.sg.cH x.2.2.1 (l.drop x.1))=.ok (zs,X)/\qw (c.bf x.2.2.1)/\x.2.2.1.length+Sm.fY (l.drop x.1)<1000000000) (λx=>l.length-x.1) (0,[],c.V,[]) rfl ⟨by simp,rfl,by simp[Ja,hR],hw,by simpa using dM⟩ ?_
  rintro⟨k,ys,V,b⟩ ⟨hk,hy,hp,hW,Yg⟩ ih;simp only at hk hy hp hW Yg ih;by_cases bC:k<l.length;have wu:=wk k (by omega);rw[A6 l k bC]at Yg;have hv:=hl l[k] (aaq bC) (c.bf V) rfl rfl hf hW (by show V.length+_<_;omega);unfold rD at hv;have I9:zH (c.bf V).H (c.bf V).sg.cP (c.bf V).sg.cH (c.bf V).V l[k]=zH c.H c.sg.cP c.sg.cH V l[k]:=rfl;rw[I9]at hv;rw[HK bC]at hp;have gE:=zN bC;have mY:=λh2=>tV bC h2;have fU:=λaa=>dF aa (c.bf V) [];rw[bM (show (c.bf V).fe=0 from hf)]at fU;cases hx:zH c.H c.sg.cP c.sg.cH V l[k] with
  |error a=>rw[hx]at hp;cases hp|ok x=>
   obtain⟨y,W⟩:=x;rw[hx]at hp hv;simp only at hp hv;obtain⟨w1,w2⟩:=Fe l[k] V y W hW.V hx;have ap:=lW ys y (by omega);have fD:=λb=>ih (k+1,ys++[y],W,b) ⟨by simp only;omega,by simp[hy],hp,yF (W:=W) hw w1 (by omega),by show W.length+Sm.fY (l.drop (k+1))<1000000000;omega⟩ (by simp only;omega);simp only at fD;have oF:(c.bf V).bf W=c.bf W:=rfl;rw[oF]at hv;generalize (c.bf V).aX=o1,(c.bf W).aX=o2,bK 9 (Sm.rows (ys++[y]))=R at *;rw[Sm.aE l[k]]at hv gE;simp only[Sm.aE l[k]]at mY;rw[Sm.aE y]at hv ap;generalize l[k]=x at *;simp[-aj,-ag,br,bC,wu,hz,dh,mY,fU,hv,ap,au,AV.ai];exact fD _
  have fR:k=l.length:=by omega
  have hh:ys=zs/\V=X:=by
   rw[fR,aaC]at hp;simpa [lB,Ja] using hp
  obtain⟨h1,h2⟩:=hh;subst h1 h2;simp[-aj,-ag,bC]
 |error a=>
  intro aa;obtain⟨v,st',h1,W,h2,h3⟩:∃v st',(aZ S).call 0 aa 75 [.ptr 0 0 0 0,bp l] [c.aX]=some (v,st')/\∃W,aN v=true/\st'=[((c.bf W).fail a).aX]:=by
   refine fP (sf:=ZL) rfl rfl rfl ?_;generalize bp l=lv at *;simp[-aj,-ag,ZL,cT,eC,dh];refine bH ER.eq_1 (λx:Nat×List (List AV)×List Vd×CK×List AV=>⟨[(0,.val (.ptr 0 0 0 0)),(5,.val (bK 9 x.2.1)),(8,.val lv),(9,.val (.int .i64 l.length)),(10,.val (.int .i64 x.1))],[x.2.2.2.2],[x.2.2.2.1.aX]⟩)
    (λx=>x.1<=l.length/\x.2.1.length=x.1/\(x.2.2.2.1=c.bf x.2.2.1/\lB c.H c.sg.cP c.sg.cH x.2.2.1 (l.drop x.1)=.error a/\qw (c.bf x.2.2.1)/\x.2.2.1.length+Sm.fY (l.drop x.1)<1000000000\/x.2.2.2.1=(c.bf x.2.2.1).fail a))
    (λx=>l.length-x.1) (0,[],c.V,c,[]) rfl ⟨by simp,rfl,.inl ⟨rfl,by simpa using hR,hw,by simpa using dM⟩⟩ ?_
   rintro⟨k,ys,V,d,b⟩ ⟨hk,hy,hp⟩ ih;simp only at hk hy hp ih;by_cases bC:k<l.length;have wu:=wk k (by omega);have gE:=zN bC;have mY:=λh2=>tV bC h2;rcases hp with⟨hd,hp,hW,Yg⟩|hd;subst hd;rw[A6 l k bC]at Yg;have hv:=hl l[k] (aaq bC) (c.bf V) rfl rfl hf hW (by show V.length+_<_;omega);unfold rD at hv;have I9:zH (c.bf V).H (c.bf V).sg.cP (c.bf V).sg.cH (c.bf V).V l[k]=zH c.H c.sg.cP c.sg.cH V l[k]:=rfl;rw[I9]at hv;rw[Fx bC]at hp;have fU:=λaa=>dF aa (c.bf V) [];rw[bM (show (c.bf V).fe=0 from hf)]at fU;cases hx:zH c.H c.sg.cP c.sg.cH V l[k] with
   |error a'=>
    rw[hx]at hp hv;simp only at hp hv;cases hp;obtain⟨W,aF,⟨rk,rnm,ron,rod,cH,rbd,rel,ra,Nn,rfl,q1,q2,q3⟩,hv⟩:=hv 1;have oF:(c.bf V).bf W=c.bf W:=rfl;rw[oF]at hv;have ap:=B2 ys [.int .i64 rk,.str rnm,.str ron,.int .i64 rod,cH.ai,rbd.ai,rel.ai,.int .i64 ra,.int .i64 Nn] rfl (by omega);have fD:=λb=>ih (k+1,ys++[[.int .i64 rk,.str rnm,.str ron,.int .i64 rod,cH.ai,rbd.ai,rel.ai,.int .i64 ra,.int .i64 Nn]],W,(c.bf W).fail a,b) ⟨by simp only;omega,by simp[hy],.inr rfl⟩ (by simp only;omega);simp only at fD;generalize (c.bf V).aX=o1,((c.bf W).fail a).aX=o2,bK 9 (ys++[[.int .i64 rk,.str rnm,.str ron,.int .i64 rod,cH.ai,rbd.ai,rel.ai,.int .i64 ra,.int .i64 Nn]])=R at *;rw[Sm.aE l[k]]at hv gE;simp only[Sm.aE l[k]]at mY;generalize l[k]=x at *;simp[-aj,-ag,br,bC,wu,hz,dh,mY,fU,hv,ap,q1,q2,q3,au,AV.ai];exact fD _
   |ok x=>
    obtain⟨y,W⟩:=x;rw[hx]at hp hv;simp only at hp hv;obtain⟨w1,w2⟩:=Fe l[k] V y W hW.V hx;have Ev:lB c.H c.sg.cP c.sg.cH W (l.drop (k+1))=.error a:=by
     split at hp;rename_i h;cases hp;exact h;cases hp
    have ap:=B2 ys y.aF (by rw[Sm.aE];rfl) (by omega);have fD:=λb=>ih (k+1,ys++[y.aF],W,c.bf W,b) ⟨by simp only;omega,by simp[hy],.inl ⟨rfl,Ev,yF (W:=W) hw w1 (by omega),by show W.length+Sm.fY (l.drop (k+1))<1000000000;omega⟩⟩ (by simp only;omega);simp only at fD;have oF:(c.bf V).bf W=c.bf W:=rfl;rw[oF]at hv;generalize (c.bf V).aX=o1,(c.bf W).aX=o2,bK 9 (ys++[y.aF])=R at *;rw[Sm.aE l[k]]at hv gE;simp only[Sm.aE l[k]]at mY;rw[Sm.aE y]at hv ap;generalize l[k]=x at *;simp[-aj,-ag,br,bC,wu,hz,dh,mY,fU,hv,ap,au,AV.ai];exact fD _
   subst hd;have ij:=λaa=>dF aa ((c.bf V).fail a) [];rw[cu gH]at ij;simp only[Sm.aE l[k]]at mY;rw[Sm.aE l[k]]at gE;have hex:∃W,((c.bf V).fail a).aX=((c.bf W).fail a).aX:=⟨V,rfl⟩;generalize ((c.bf V).fail a).aX=o2,l[k]=x at *;simp[-aj,-ag,br,bC,hz,dh,mY,ij,hex,au,AV.ai];have fR:k=l.length:=(by omega);rcases hp with⟨hd,hp,_⟩|hd;rw[fR,aaC]at hp;simp[lB]at hp;subst hd;have hex:∃W,((c.bf V).fail a).aX=((c.bf W).fail a).aX:=⟨V,rfl⟩;generalize ((c.bf V).fail a).aX=o2 at *;simp[-aj,-ag,bC,hex]
  rw[h3]at h1;exact⟨W,v,h2,h1⟩
theorem mO(s:Sm):∀c:CK,c.fe=0->qw c->c.V.length+Sm.sz s<1000000000->rD c s:=by
 induction s using Sm.Ga with
 |_ s Gb Bq=>
  intro c hf hw dM;have hz:=Sm.mX s;have Oo:=E.eH s.es;cases h:de c.sg.cP s.k s.es with
  |false=>exact acu c s (by omega) h|true=>
   have QK:∀d:CK,d.H=c.H->d.sg=c.sg->d.fe=0->qw d->d.V.length+Sm.fY s.bd<1000000000->Br d s.bd:=λd _ _ h1 h2 h3=>
    iL d s.bd h1 h2 h3 λx hx e _ _ g1 g2 g3=>Gb x hx e g1 g2 g3
   have hbe:∀d:CK,d.H=c.H->d.sg=c.sg->d.fe=0->qw d->d.V.length+Sm.fY s.el<1000000000->Br d s.el:=λd _ _ h1 h2 h3=>
    iL d s.el h1 h2 h3 λx hx e _ _ g1 g2 g3=>Bq x hx e g1 g2 g3
   rcases O2 h with k|k|k|k|k|k|k|k|k;exact Nd c s hf hw dM k h;exact Nf c s hf hw dM k h;exact Ng c s hf hw dM k h;exact Nh c s hf hw dM k h;exact Ni c s hf hw dM k h QK hbe;exact Nj c s hf hw dM k h QK;exact Nk c s hf hw dM k h;exact Nl c s hf hw dM k h;exact Nm c s hf hw dM k h
theorem B3(c:CK)(l:List Sm)(hf:c.fe=0)(hw:qw c)(dM:c.V.length+Sm.fY l<1000000000):Br c l:=
 iL c l hf hw dM λs _ d _ _ h1 h2 h3=>mO s d h1 h2 h3
end K9
namespace K9
open Ax Go bY V7 kN lZ
theorem Fy(wl aa:Nat)(l:List Vd)(st:ay)(hn:l.length<1000000000):(aZ S).call wl aa 74 [bP l] st=some (bK 4 (l.map Vd.aF),st):=by
 refine bT (sf:=s74) rfl rfl (by simp[AV.ax]) rfl (by simp) ?_;cases l with
 |nil=>simp[s74,bP,kq,Gy]|cons v l=>
  have hv:bP (v::l)=.eE 4 ((v::l).map Vd.aF):=rfl;have lW:=eO (sz:=4) (bytes:=40) (r:=[]) (new:=(v::l).map Vd.aF) (by simp[cn,Vd.aF]) (by simp[cN]at hn ⊢;omega);rw[hv];simp only[List.nil_append]at lW;have hm:bK 4 ((v::l).map Vd.aF)=.k8 4 ((v::l).map Vd.aF):=rfl;rw[hm]at lW ⊢;have BA:oP 4 40 .mE ((v::l).map Vd.aF)=some (.k8 4 ((v::l).map Vd.aF)):=by
   simp[oP,cn,Vd.aF,cN]at hn ⊢;omega
  generalize (v::l).map Vd.aF=R at *;simp[s74,BA,Gy]
def CK.nT(c:CK)(g:Sg):CK:={ c with sg:=g,V:=g.ps }
variable{c:CK}{k aa:Nat}{bx:bG}
theorem acB{a:Int}:(c.fail a).V=c.V:=by unfold CK.fail;split<;>rfl
theorem Yh(c:CK)(f:Fc)(g:Sg)(hf:c.fe=0)(hw:qw (c.nT g))(dM:g.ps.length+Sm.fY f.body<1000000000):match lB c.H g.cP g.cH g.ps f.body with
  |.ok (ys,W)=>∀aa,(aZ S).call 0 aa 45 [.ptr 0 0 0 0,.agg f.aF,.agg g.aF] [c.aX]=some (.agg [bP W,bK 9 (Sm.rows ys),.int .i64 f.a],[((c.nT g).bf W).aX])|.error a=>∀aa,∃W v,aN v=true/\(aZ S).call 0 aa 45 [.ptr 0 0 0 0,.agg f.aF,.agg g.aF] [c.aX]=some (.agg [bP W,v,.int .i64 f.a],[(((c.nT g).bf W).fail a).aX]):=by
 have hB:=B3 (c.nT g) f.body hf hw dM;unfold Br at hB;have I9:lB (c.nT g).H (c.nT g).sg.cP (c.nT g).sg.cH (c.nT g).V f.body=lB c.H g.cP g.cH g.ps f.body:=rfl;rw[I9]at hB;have hV:=hw.s.V;have ec:=λwl aa st=>Fy wl aa g.ps st (by exact hV);have h1:∀aa bx,bn 0 aa (.store 6) [.val (.ptr 0 0 0 5),.val (.agg g.aF)] [c.aX] bx=some (.none,[({ c with sg:=g }:CK).aX],bx):=λaa bx=>by
  simp[CK.aX,Sg.aF,aV,AV.ax,AV.aB,au]
 have h2:∀aa bx,bn 0 aa (.store 1) [.val (.ptr 0 0 0 11),.val (bK 4 (g.ps.map Vd.aF))] [({ c with sg:=g }:CK).aX] bx=some (.none,[(c.nT g).aX],bx):=λaa bx=>by
  simp[CK.aX,CK.nT,aV,AV.ax,au]
 generalize ({ c with sg:=g }:CK).aX=o1 at *;have g1:aN (bK 4 (g.ps.map Vd.aF))=true:=ct;generalize bK 4 (g.ps.map Vd.aF)=mg at *;have g3:=cy g1;have g4:=cI g1;have p1:aN (bP g.ps)=true:=dn;have p2:(bP g.ps).ai=bP g.ps:=eA;have q1:aN (bp f.body)=true:=bL;have q2:(bp f.body).ai=bp f.body:=bq;simp only[Sg.aF]at h1 ⊢;simp only[Fc.aF];cases hR:lB c.H g.cP g.cH g.ps f.body with
 |ok x=>
  obtain⟨ys,W⟩:=x;rw[hR]at hB;simp only at hB ⊢;intro aa;have ev:=λwl aa bx=>AY (wl:=wl) (aa:=aa) (c:=(c.nT g).bf W) (r:=[]) (bx:=bx);have hVW:((c.nT g).bf W).V=W:=rfl;rw[hVW]at ev;generalize ((c.nT g).bf W).aX=o3,(c.nT g).aX=o2 at *;have y1:aN (bK 9 (Sm.rows ys))=true:=ct;have y2:(bK 9 (Sm.rows ys)).ai=bp ys:=rfl;have y3:=cy y1;have y4:=cI y1;generalize bK 9 (Sm.rows ys)=my at *;have w1:aN (bP W)=true:=dn;have w2:(bP W).ai=bP W:=eA;generalize bP W=fw,bP g.ps=fg,bp f.body=fb at *;refine aA (sf:=s45) rfl rfl rfl ?_;simp[-aj,-ag,s45,ec,h1,h2,hB,ev,p1,p2,q1,q2,w1,y1,au,AV.ai,AV.aB,AV.ax,aD,aC]
 |error a=>
  rw[hR]at hB;simp only at hB ⊢;intro aa;obtain⟨W,v,v1,hB⟩:=hB 1;refine⟨W,v,v1,?_⟩;have ev:=λwl aa bx=>AY (wl:=wl) (aa:=aa) (c:=((c.nT g).bf W).fail a) (r:=[]) (bx:=bx);have hVW:(((c.nT g).bf W).fail a).V=W:=acB;rw[hVW]at ev;generalize (((c.nT g).bf W).fail a).aX=o3,(c.nT g).aX=o2 at *;have v3:=cy v1;have v4:=cI v1;have v5:aN v.ai=true:=by rw[kF];exact v1
  have w1:aN (bP W)=true:=dn;have w2:(bP W).ai=bP W:=eA;generalize bP W=fw,bP g.ps=fg,bp f.body=fb at *;refine aA (sf:=s45) rfl rfl rfl ?_;simp[-aj,-ag,s45,ec,h1,h2,hB,ev,p1,p2,q1,q2,w1,v1,au,AV.ai,AV.aB,AV.ax,aD,aC]
open N7 U7 in
theorem DE(p:Pg):jh (cx (j7 p).bJ)=dN p:=by
 rw[tU];simp[jh,dN,Lc]
def nC(H:Hd)(m:Int):List AV:=[aJ 2 (H.bE.map dz),bP H.aI,aJ 6 (H.aY.map Sg.aF),.int .i64 m]
theorem xW(rs:List (List UInt8))(l:List PD):dY rs l=(ou rs l).map Vd.aF:=by
 simp only[dY,ou,aes];exact acK λq _=>rfl
open N7 U7 in
def dX(p:Pg):Int:=oZ (eu (j7 p).funcs)
open N7 U7 in
theorem Li(p:Pg):xQ (j7 p)=.agg (nC (aM p) (dX p)):=by
 unfold xQ nC dX;have h1:j6 (jh (cx (j7 p).bJ)) (cx (j7 p).bJ)=(aM p).bE.map dz:=by
  rw[DE,tU];simp only[j6,aM,aes];exact acK λr _=>by simp only[Function.comp,BZ,Lc,rE,dz,xW];rfl
 have h2:dY (jh (cx (j7 p).bJ)) (jg (j7 p).aI)=(aM p).aI.map Vd.aF:=by
  rw[DE,I5,xW];rfl
 have h3:gx (jh (cx (j7 p).bJ)) (eu (j7 p).funcs)=(aM p).aY.map Sg.aF:=by
  rw[DE,p0];simp only[gx,aM,aes];refine acK λf _=>?_;simp only[Function.comp,ji,M9,rE,Sg.aF,IU,U7.o9,xW];obtain⟨n,ps,cP,on,od,body,a⟩:=f;cases cP<;>rfl
 rw[h1,h2,h3]
 rfl
theorem O3(p:Pg):(aM p).ok:=by
 refine⟨by simp[aM,dN],?_,?_,?_⟩;intro s hs f hf;simp only[aM]at hs;obtain⟨r,_,rfl⟩:=ab9.1 hs;simp only[ou]at hf;obtain⟨q,_,rfl⟩:=ab9.1 hf;exact ox _ _ _;intro f hf;simp only[aM,ou]at hf;obtain⟨q,_,rfl⟩:=ab9.1 hf;exact ox _ _ _;intro s hs;simp only[aM]at hs;obtain⟨r,_,rfl⟩:=ab9.1 hs;refine⟨?_,λf hf=>?_⟩;simp only[IU];split;exact ox _ _ _;exact Uw;simp only[IU,ou]at hf;obtain⟨q,_,rfl⟩:=ab9.1 hf;exact ox _ _ _
abbrev Z5:AV:=.agg [.af,.af,.af,.int .i64 0,.af]
def zO(H:Hd)(m:Int)(r:Except Int (List Bd)):AV:=match r with
 |.error a=>.fK [Z5,.agg [.int .i64 3,.int .i64 a]]|.ok l=>.fK [.agg (nC H m++[aJ 3 (l.map Bd.aF)]),.agg [.int .i64 0,.int .i64 0]]
open N7 U7 in
def uB(p:Pg):AV:=match jQ (j7 p) with
 |some a=>.fK [Z5,.agg [.int .i64 3,.int .i64 a]]|none=>zO (aM p) (dX p) (sQ (aM p) (aM p).aY p.funcs)
def Jb(bs:List Bd)(r:Except Int (List Bd)):Except Int (List Bd):=match r with
 |.error x=>.error x|.ok zs=>.ok (bs++zs)
theorem Lj{H:Hd}{ss:List Sg}{fs:List Fc}{bs:List Bd}(h:k<ss.length)(h2:k<fs.length):Jb bs (sQ H (ss.drop k) (fs.drop k))=match lB H ss[k].cP ss[k].cH ss[k].ps fs[k].body with
  |.error x=>.error x|.ok (c,W)=>Jb (bs++[⟨W,c,fs[k].a⟩]) (sQ H (ss.drop (k+1)) (fs.drop (k+1))):=by
 rw[aaz h,aaz h2];conv=>lhs;arg 2;unfold sQ
 cases lB H ss[k].cP ss[k].cH ss[k].ps fs[k].body with
 |error x=>rfl|ok x=>
  obtain⟨c,W⟩:=x;simp only;cases sQ H (List.drop (k+1) ss) (List.drop (k+1) fs) with
  |error x=>rfl|ok x=>simp[Jb]
def CK.UY(c:CK)(w:AV):dA:=.rows 0 14 [[aJ 2 (c.H.bE.map dz),bP c.H.aI,aJ 6 (c.H.aY.map Sg.aF),.int .i64 c.main,w,.str c.sg.nm,bP c.sg.ps,.bool c.sg.cP,.int .i64 c.sg.cH.b,.int .i64 c.sg.cH.r,.int .i64 c.sg.cH.d,bK 4 (c.V.map Vd.aF),.int .i64 c.fe,.int .i64 c.fa]]
def CK.acC(c:CK)(R:List (List UInt8)):CK:={ c with H:={ c.H with rs:=R } }
theorem Yi:bn 0 aa (.load false 1 true) [.val (.ptr 0 0 0 4)] [c.aX] bx=some (.val (bK 1 (gQ c.H.rs)),[c.UY (bK 1 (gQ c.H.rs)).jX],bx):=by
 simp only[CK.aX,CK.UY];generalize gQ c.H.rs=rows;cases rows with
 |nil=>simp[bn,bK,cut,iT,fo,aV,AV.jX,AV.aB,AV.ax,au,cm]|cons a l=>simp[bn,bK,cut,iT,fo,aV,AV.jX,AV.aB,AV.ax,au,cm]
theorem acD{w:AV}{R:List (List UInt8)}:bn 0 aa (.store 1) [.val (.ptr 0 0 0 4),.val (bK 1 (gQ R))] [c.UY w] bx=some (.none,[(c.acC R).aX],bx):=by
 simp[CK.aX,CK.UY,CK.acC,aV,AV.ax,au]
theorem No{wl:Nat}{r:ay}:bn wl aa (.load true 2 false) [.val (.ptr 0 0 0 12)] (c.aX::r) bx=some (.val (.agg [.int .i64 c.fe,.int .i64 c.fa]),c.aX::r,bx):=by
 simp[CK.aX,cut,AV.ai]
def sg0:Sg:=⟨[],[],false,T0⟩
def O4(H:Hd)(m:Int)(R:List (List UInt8)):CK:=⟨{ H with rs:=R },m,sg0,[],0,0⟩
theorem Yj{l:List Rc}(h:k<l.length):(l.map Rc.aF)[k]?=some [.str l[k].name,aJ 4 (l[k].jo.map PD.cells),.int .i64 l[k].a]:=by simp[h,Rc.aF]
theorem acE{l:List Fc}(h:k<l.length):(l.map Fc.aF)[k]?=some [.str l[k].name,aJ 4 (l[k].params.map PD.cells),.bool l[k].cP,.str l[k].on,.int .i64 l[k].od,bp l[k].body,.int .i64 l[k].a]:=by simp[h,Fc.aF]
theorem QL(H:Hd)(m:Int)(r:Except Int (List Bd)):(zO H m r).aB=true:=by
 cases r<;>simp[zO,nC,AV.aB,AV.ax]
theorem CH(p:Pg):(uB p).aB=true:=by
 unfold uB;split;simp[AV.aB,AV.ax];exact QL _ _ _
open N7 U7 in
theorem xX(wl aa:Nat)(p:Pg)(st:ay)(hg:(j7 p).ok)(zX:GD.sm (j7 p))(dM:∀f∈p.funcs,f.params.length+Sm.fY f.body<1000000000) :
  (aZ S).call wl aa 27 [.agg p.aF] st=some (uB p,st):=by
 have em:∀wl aa st,(aZ S).call wl aa 44 [.agg p.aF] st=some (zM (j7 p),st):=λwl aa st=>XY wl aa (j7 p) st hg zX;refine bT (sf:=s27) rfl rfl (by simp[Pg.aF,AV.ax,AV.aB]) rfl (CH p) ?_;unfold uB;unfold zM at em;cases hF:jQ (j7 p) with
 |some a=>
  rw[hF]at em;simp only[qU,fE,fX,Pg.aF]at em ⊢;simp[-aj,-ag,s27,em,au,AV.ai,aD,aC]
 |none=>
  rw[hF,Li]at em;simp only[fE,fX,Pg.aF,nC]at em ⊢;have hr0:(O4 (aM p) (dX p) []).aX=.rows 0 14 [[aJ 2 ((aM p).bE.map dz),bP (aM p).aI,aJ 6 ((aM p).aY.map Sg.aF),.int .i64 (dX p),.af,.str [],.af,.bool false,.int .i64 0,.int .i64 0,.int .i64 0,.af,.int .i64 0,.int .i64 0]]:=by
   simp[CK.aX,O4,sg0,gQ,kq,bP]
  have wM:∀wl aa bx,bn wl aa (.box 14) [.val (.agg [aJ 2 ((aM p).bE.map dz),bP (aM p).aI,aJ 6 ((aM p).aY.map Sg.aF),.int .i64 (dX p),.af,.str [],.af,.bool false,.int .i64 0,.int .i64 0,.int .i64 0,.af,.int .i64 0,.int .i64 0])] [] bx =
    some (.val (.ptr 0 0 0 0),[(O4 (aM p) (dX p) []).aX],bx):=λwl aa bx=>by rw[hr0];simp
  have t1:aN (aJ 2 ((aM p).bE.map dz))=true:=bI;have t2:(aJ 2 ((aM p).bE.map dz)).ai=aJ 2 ((aM p).bE.map dz):=bU;have t3:aN (aJ 6 ((aM p).aY.map Sg.aF))=true:=bI;have t4:(aJ 6 ((aM p).aY.map Sg.aF)).ai=aJ 6 ((aM p).aY.map Sg.aF):=bU;have t5:cJ 6 (aJ 6 ((aM p).aY.map Sg.aF))=true:=dQ (by simp[cn,Sg.aF]);have t6:bt (aJ 6 ((aM p).aY.map Sg.aF))=(aM p).aY.map Sg.aF:=aW;have r1:aN (aJ 3 (p.bJ.map Rc.aF))=true:=bI;have r2:(aJ 3 (p.bJ.map Rc.aF)).ai=aJ 3 (p.bJ.map Rc.aF):=bU;have r3:cJ 3 (aJ 3 (p.bJ.map Rc.aF))=true:=dQ (by simp[cn,Rc.aF]);have r4:bt (aJ 3 (p.bJ.map Rc.aF))=p.bJ.map Rc.aF:=aW;have f1:aN (aJ 7 (p.funcs.map Fc.aF))=true:=bI;have f2:(aJ 7 (p.funcs.map Fc.aF)).ai=aJ 7 (p.funcs.map Fc.aF):=bU;have f3:cJ 7 (aJ 7 (p.funcs.map Fc.aF))=true:=dQ (by simp[cn,Fc.aF]);have f4:bt (aJ 7 (p.funcs.map Fc.aF))=p.funcs.map Fc.aF:=aW;have g1:aN (aJ 4 (p.aI.map PD.cells))=true:=bI;have g2:(aJ 4 (p.aI.map PD.cells)).ai=aJ 4 (p.aI.map PD.cells):=bU;generalize hHS:aJ 2 ((aM p).bE.map dz)=HS at *;generalize hHG:aJ 6 ((aM p).aY.map Sg.aF)=HG at *;generalize aJ 3 (p.bJ.map Rc.aF)=PR,aJ 7 (p.funcs.map Fc.aF)=PF,aJ 4 (p.aI.map PD.cells)=PG at *;simp[-aj,-ag,-Oq,s27,em,wM,t1,t2,t3,t4,r1,r2,r4,f1,f2,g1,g2,au,AV.ai];have N3:(dN p).length=p.bJ.length:=by simp[dN]
  have XZ:p.bJ.length<1000000000:=by have:=zX.bJ;rw[tU,ac7]at this;exact this
  have Om:p.funcs.length<1000000000:=by have:=zX.funcs;rw[p0,ac7]at this;exact this
  have hHr:(O4 (aM p) (dX p) (dN p)).H=aM p:=rfl;generalize Yk:bP (aM p).aI=GL at *;have gl1:aN GL=true:=by rw[<-Yk];exact dn
  have gl2:GL.ai=GL:=by rw[<-Yk];exact eA
  refine bH Th.eq_1 (λx:Nat×List AV=>⟨[(1,.fp 0 0),(2,.fp 1 0),(3,.fp 2 0),(4,.fp 3 0),(6,.val (.ptr 0 0 0 0)),(26,.val PR),(27,.val (.int .i64 p.bJ.length)),(28,.val (.int .i64 x.1))],
   [[PR,PG,PF],[.af,.af,.af,.int .i64 0,.af],[.int .i64 0,.int .i64 0],[HS,GL,HG,.int .i64 (dX p)],[.int .i64 0,.int .i64 0],x.2,[],[]],[(O4 (aM p) (dX p) ((dN p).take x.1)).aX]⟩)
   (λx=>x.1<=p.bJ.length) (λx=>p.bJ.length-x.1) (0,[]) (by simp) (by simp) ?_
  rintro⟨k,b⟩ hk ih;simp only at hk ih;by_cases bC:k<p.bJ.length;have wu:=wk k (by omega);have gR:=Yj bC;have gR':∀h:k<(p.bJ.map Rc.aF).length,(p.bJ.map Rc.aF)[k]=[.str p.bJ[k].name,aJ 4 (p.bJ[k].jo.map PD.cells),.int .i64 p.bJ[k].a]:=λh=>by simp[Rc.aF]
  have lW:=eO (sz:=1) (bytes:=16) (r:=gQ ((dN p).take k)) (new:=[[.str p.bJ[k].name]]) (by simp[cn]) (by simp[cN,gQ];omega);have X3:gQ ((dN p).take k)++[[.str p.bJ[k].name]]=gQ ((dN p).take (k+1)):=by
   rw[List.take_succ_eq_append_getElem (by rw[N3];exact bC)];simp[gQ,dN]
  rw[X3]at lW;have et:=λaa bx=>Yi (aa:=aa) (c:=O4 (aM p) (dX p) ((dN p).take k)) (bx:=bx);have ep:=λaa bx=>acD (aa:=aa) (c:=O4 (aM p) (dX p) ((dN p).take k)) (w:=(bK 1 (gQ ((dN p).take k))).jX) (R:=(dN p).take (k+1)) (bx:=bx);have GI:(O4 (aM p) (dX p) ((dN p).take k)).acC ((dN p).take (k+1))=O4 (aM p) (dX p) ((dN p).take (k+1)):=rfl;rw[GI]at ep;have VI:(O4 (aM p) (dX p) ((dN p).take k)).H.rs=(dN p).take k:=rfl;rw[VI]at et;have fD:=λb=>ih (k+1,b) (by simp only;omega) (by simp only;omega);simp only at fD;generalize (O4 (aM p) (dX p) ((dN p).take (k+1))).aX=o1,(O4 (aM p) (dX p) ((dN p).take k)).UY (bK 1 (gQ ((dN p).take k))).jX=o2,(O4 (aM p) (dX p) ((dN p).take k)).aX=o3,bK 1 (gQ ((dN p).take (k+1)))=m1 at *;generalize bK 1 (gQ ((dN p).take k))=m2,p.bJ[k]=rc at *;simp[-aj,-ag,br,bC,wu,r3,r4,gR',et,ep,lW,au,AV.ai,aD,aC];exact fD _;have fR:k=p.bJ.length:=by omega
  subst fR;have yw:(dN p).take p.bJ.length=dN p:=by rw[<-N3,List.take_length]
  rw[yw];simp[-aj,-ag,t1,t2,t3,t4,f1,f2,f4,gl1,gl2,au,AV.ai];have cT:(aM p).aY.length=p.funcs.length:=by simp[aM]
  have Yl:∀(d:CK) (g:Sg),d.H=aM p->g∈(aM p).aY->qw (d.nT g):=λd g hd hg'=>by
   have F7:=O3 p;have GN:(aM p).aI.length<1000000000:=(by have:=zX.aI;rw[I5]at this;simpa [aM,ou] using this);have hF:∀s∈(aM p).bE,s.2.length<1000000000:=λs hs=>by
    obtain⟨r,hr,rfl⟩:=ab9.1 hs;have:=zX.jo (Lc r) (by rw[tU];exact ags hr);simpa [Lc,rE,ou] using this
   have hP:∀s∈(aM p).aY,s.ps.length<1000000000:=λs hs=>by
    obtain⟨r,hr,rfl⟩:=ab9.1 hs;have:=zX.params (M9 r) (by rw[p0];exact ags hr);simpa [M9,rE,IU,ou] using this
   refine⟨⟨hP g hg',?_,?_,?_,?_,?_⟩,?_,?_⟩;show d.H.aI.length<_;rw[hd];exact GN;show d.H.aY.length<_;rw[hd,cT];exact Om;show d.H.rs.length<_;rw[hd];show (dN p).length<_;rw[N3];exact XZ;show ∀s∈d.H.bE,_;rw[hd];exact hF;show ∀s∈d.H.aY,_;rw[hd];exact hP;show d.H.ok;rw[hd];exact F7;show ∀f∈g.ps,WT d.H.rs.length f.ty;rw[hd];exact(F7.aY g hg').2
  refine bH Ti.eq_1 (λx:Nat×List Bd×CK×List AV=>⟨[(2,.fp 1 0),(3,.fp 2 0),(4,.fp 3 0),(6,.val (.ptr 0 0 0 0)),(9,.fp 6 0),(47,.val PF),(48,.val (.int .i64 p.funcs.length)),(49,.val (.int .i64 x.1))],
   [[PR,PG,PF],[.af,.af,.af,.int .i64 0,.af],[.int .i64 0,.int .i64 0],[HS,GL,HG,.int .i64 (dX p)],[.int .i64 0,.int .i64 0],b,[HS,GL,HG,.int .i64 (dX p),bK 3 (x.2.1.map Bd.aF)],x.2.2.2],[x.2.2.1.aX]⟩)
   (λx=>x.1<=p.funcs.length/\x.2.1.length=x.1/\x.2.2.1.H=aM p/\x.2.2.1.fe=0/\Jb x.2.1 (sQ (aM p) ((aM p).aY.drop x.1) (p.funcs.drop x.1))=sQ (aM p) (aM p).aY p.funcs)
   (λx=>p.funcs.length-x.1) (0,[],O4 (aM p) (dX p) (dN p),[]) (by simp[kq]) ⟨by simp,rfl,rfl,rfl,by simp[Jb];split<;>rename_i h<;>exact h.symm⟩ ?_
  rintro⟨k,bs,d,b7⟩ ⟨hk,hbs,hd,hdf,hp⟩ ih;simp only at hk hbs hd hdf hp ih;by_cases uz:k<p.funcs.length;have vJ:k<(aM p).aY.length:=by omega
  have wu:=wk k (by omega);have gF:=acE uz;have gF':∀h:k<(p.funcs.map Fc.aF).length,(p.funcs.map Fc.aF)[k]=[.str p.funcs[k].name,aJ 4 (p.funcs[k].params.map PD.cells),.bool p.funcs[k].cP,.str p.funcs[k].on,.int .i64 p.funcs[k].od,bp p.funcs[k].body,.int .i64 p.funcs[k].a]:=λh=>by simp[Fc.aF]
  have gS:((aM p).aY.map Sg.aF)[k]?=some [.str (aM p).aY[k].nm,bP (aM p).aY[k].ps,.bool (aM p).aY[k].cP,.int .i64 (aM p).aY[k].cH.b,.int .i64 (aM p).aY[k].cH.r,.int .i64 (aM p).aY[k].cH.d]:=by simp[vJ,Sg.aF]
  have Fu:∀h:k<((aM p).aY.map Sg.aF).length,((aM p).aY.map Sg.aF)[k]=[.str (aM p).aY[k].nm,bP (aM p).aY[k].ps,.bool (aM p).aY[k].cP,.int .i64 (aM p).aY[k].cH.b,.int .i64 (aM p).aY[k].cH.r,.int .i64 (aM p).aY[k].cH.d]:=λh=>by simp[Sg.aF]
  rw[Lj vJ uz]at hp;have Sq:(aM p).aY[k].ps.length=p.funcs[k].params.length:=by simp[aM,IU,ou]
  have hB:=Yh d p.funcs[k] (aM p).aY[k] hdf (Yl d _ hd (aaq vJ)) (by rw[Sq];exact dM _ (aaq uz));rw[hd]at hB;have lW:∀cs:List AV,cs.length=3->oP 3 56 (bK 3 (bs.map Bd.aF)) [cs]=some (bK 3 (bs.map Bd.aF++[cs])):=λcs hc=>eO (by simp[cn,hc]) (by simp[cN];omega);have ps1:aN (aJ 4 (p.funcs[k].params.map PD.cells))=true:=bI;have ps2:(aJ 4 (p.funcs[k].params.map PD.cells)).ai=aJ 4 (p.funcs[k].params.map PD.cells):=bU;have bd1:aN (bp p.funcs[k].body)=true:=bL;have bd2:(bp p.funcs[k].body).ai=bp p.funcs[k].body:=bq;have sp1:aN (bP (aM p).aY[k].ps)=true:=dn;have sp2:(bP (aM p).aY[k].ps).ai=bP (aM p).aY[k].ps:=eA;simp only[Fc.aF,Sg.aF]at hB;generalize QM:(aM p).aY.map Sg.aF=RS at *;generalize hrF:p.funcs.map Fc.aF=RF at *;have FA:k<RS.length:=by rw[<-QM,ac7];exact vJ
  have Np:k<RF.length:=by rw[<-hrF,ac7];exact uz
  have FB:=Fu FA;have UZ:=gF' Np;clear Fu gF';cases hR:lB (aM p) (aM p).aY[k].cP (aM p).aY[k].cH (aM p).aY[k].ps p.funcs[k].body with
  |error a=>
   rw[hR]at hp hB;simp only at hp hB;obtain⟨W,v,v1,hB⟩:=hB 0;have yS:(((d.nT (aM p).aY[k]).bf W).fail a).fe=3/\(((d.nT (aM p).aY[k]).bf W).fail a).fa=a:=by
    have:((d.nT (aM p).aY[k]).bf W).fe=0:=hdf;unfold CK.fail;rw[ah this];exact⟨rfl,rfl⟩
   have fU:=λaa=>dF aa (((d.nT (aM p).aY[k]).bf W).fail a) [];rw[cu gH]at fU;have hcf:∀wl aa bx,bn wl aa (.load true 2 false) [.val (.ptr 0 0 0 12)] [(((d.nT (aM p).aY[k]).bf W).fail a).aX] bx=some (.val (.agg [.int .i64 3,.int .i64 a]),[(((d.nT (aM p).aY[k]).bf W).fail a).aX],bx):=λwl aa bx=>by
    rw[No,yS.1,yS.2]
   rw[<-hp];simp only[zO];generalize (((d.nT (aM p).aY[k]).bf W).fail a).aX=o1 at *;have w1:aN (bP W)=true:=dn;have w2:(bP W).ai=bP W:=eA;generalize bP W=FW at *;have ap:=lW [FW,v.ai,.int .i64 p.funcs[k].a] rfl;have v2:=cy v1;have v3:=cI v1;have v4:aN v.ai=true:=(by rw[kF];exact v1);generalize aJ 4 (p.funcs[k].params.map PD.cells)=PP,bp p.funcs[k].body=PB,bP (aM p).aY[k].ps=SP,bK 3 (bs.map Bd.aF)=BL at *;generalize p.funcs[k]=fk,(aM p).aY[k]=gk at *;simp[-aj,-ag,br,uz,f3,f4,UZ,FB,FA,Np,t4,t5,t6,ps1,ps2,bd1,bd2,sp2,hB,w1,w2,v4,ap,fU,hcf,au,AV.ai,AV.aB,AV.ax,aD,aC]
  |ok x=>
   obtain⟨c,W⟩:=x;rw[hR]at hp hB;simp only at hp hB;have fD:=λb7=>ih (k+1,bs++[⟨W,c,p.funcs[k].a⟩],(d.nT (aM p).aY[k]).bf W,b7) ⟨by simp only;omega,by simp[hbs],hd,hdf,hp⟩ (by simp only;omega);simp only[List.map_append,List.map_cons,List.map_nil,Bd.aF]at fD;have fU:=λaa=>dF aa ((d.nT (aM p).aY[k]).bf W) [];rw[bM (show ((d.nT (aM p).aY[k]).bf W).fe=0 from hdf)]at fU;generalize ((d.nT (aM p).aY[k]).bf W).aX=o1 at *;have w1:aN (bP W)=true:=dn;have w2:(bP W).ai=bP W:=eA;generalize bP W=FW at *;have ap:=lW [FW,bp c,.int .i64 p.funcs[k].a] rfl;have c1:aN (bK 9 (Sm.rows c))=true:=ct;have c2:(bK 9 (Sm.rows c)).ai=bp c:=rfl;have c3:=cy c1;have c4:=cI c1;have c5:aN (bp c)=true:=bL;generalize bK 9 (Sm.rows c)=MC,bp c=SC,aJ 4 (p.funcs[k].params.map PD.cells)=PP,bp p.funcs[k].body=PB,bP (aM p).aY[k].ps=SP at *;have n1:aN (bK 3 (bs.map Bd.aF++[[FW,SC,.int .i64 p.funcs[k].a]]))=true:=ct;generalize bK 3 (bs.map Bd.aF++[[FW,SC,.int .i64 p.funcs[k].a]])=BN at *;generalize bK 3 (bs.map Bd.aF)=BL,p.funcs[k]=fk,(aM p).aY[k]=gk at *;simp[-aj,-ag,br,uz,wu,f3,f4,UZ,FB,FA,Np,t4,t5,t6,ps1,ps2,bd1,bd2,sp2,hB,w1,w2,c2,c5,n1,ap,fU,au,AV.ai,AV.aB,AV.ax,aD,aC];exact fD _
  have fR:k=p.funcs.length:=by omega
  have hR:sQ (aM p) (aM p).aY p.funcs=.ok bs:=by
   rw[<-hp,fR,aaC,<-cT,aaC];simp[sQ,Jb]
  rw[hR];have n1:aN (bK 3 (bs.map Bd.aF))=true:=ct;have n2:(bK 3 (bs.map Bd.aF)).ai=aJ 3 (bs.map Bd.aF):=rfl;have n3:=cy n1;have n4:aN (aJ 3 (bs.map Bd.aF))=true:=bI;simp only[zO,nC];rw[hHS,hHG,Yk];generalize bK 3 (bs.map Bd.aF)=BL,aJ 3 (bs.map Bd.aF)=BV at *;simp[-aj,-ag,uz,t1,t2,t3,t4,gl1,gl2,n2,n4,au,AV.ai]
end K9
