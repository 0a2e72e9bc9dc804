/- Part of a proof. -/
import Derived.Test.YtpnadocbfbbboaaGreatA5

open List renaming replicate->aak,isEmpty_cons->agN,all_eq_true->aaB,mem_of_mem_take->adz,mem_of_mem_drop->adA,map_congr_left->acK,getElem?_append_right->aar,set_append_right->aeh
open Option renaming bind_some->adm
open Nat renaming beq->aez,ble->agj
open Bool renaming and_eq_true->aac,false_eq_true->aan,true_and->aeD
namespace Ax
open Go
inductive th where
 |dO (l:List aR) (dD:List Nat)
 |code (c:bN)
 |jB (id:Nat)
 |uU (c:bN)
def oO(O:kL)(wl aa:Nat)(rs:List iW):List th->Ex->St->Option (Ex×St)
 |[],x,s=>some (x,s)|.jB id::k,x,s=>match x with
  |.normal=>oO O wl aa rs k .normal s|.exit i=>if i=id then oO O wl aa rs k .normal s else oO O wl aa rs k (.exit i) s
  |.ret v=>oO O wl aa rs k (.ret v) s
 |.dO l dD::k,x,s=>match x with
  |.normal=>match gD O wl aa l s with|some s'=>oO O wl aa rs k .normal { s' with env:=jA dD s'.env } | none=>none
  |x=>oO O wl aa rs k x s
 |.code c::k,x,s=>match x with
  |.normal=>match jf O wl aa rs c s with|some (x',s')=>oO O wl aa rs k x' s'|none=>none
  |x=>oO O wl aa rs k x s
 |.uU c::k,x,s=>match x with
  |.normal=>match jf O wl aa rs (.loop c) s with|some (x',s')=>oO O wl aa rs k x' s'|none=>none
  |x=>oO O wl aa rs k x s
def W(S:Nat->Option aL)(wl aa:Nat)(rs:List iW)(Q:Ex->St->Prop)(k:List th)(x:Ex)(s:St):Prop:=∃x' s',oO (aZ S) wl aa rs k x s=some (x',s')/\Q x' s'
variable {S:Nat->Option aL}{wl aa:Nat}{rs:List iW}{Q:Ex->St->Prop}{k:List th}{s:St}
theorem afA{x:Ex}:W S wl aa rs Q [] x s↔Q x s:=by
 unfold W oO;constructor;rintro⟨x',s',h,hq⟩;cases h;exact hq;intro h;exact⟨x,s,rfl,h⟩
variable{id i:Nat}{v:AV}{l:List aR}{dD ca cb:List Nat}{c:bN}{sf:aL}{args:List AV}{r:AV×ay}
theorem afB:W S wl aa rs Q (.jB id::k) .normal s↔W S wl aa rs Q k .normal s:=Iff.rfl
theorem aaP:W S wl aa rs Q (.jB id::k) (.exit i) s↔if i=id then W S wl aa rs Q k .normal s else W S wl aa rs Q k (.exit i) s:=by
 unfold W;simp only[oO];split<;>exact Iff.rfl
theorem aaQ:W S wl aa rs Q (.jB id::k) (.ret v) s↔W S wl aa rs Q k (.ret v) s:=Iff.rfl
theorem aaR:W S wl aa rs Q (.dO l dD::k) (.exit i) s↔W S wl aa rs Q k (.exit i) s:=Iff.rfl
theorem aaS:W S wl aa rs Q (.dO l dD::k) (.ret v) s↔W S wl aa rs Q k (.ret v) s:=Iff.rfl
theorem WY:W S wl aa rs Q (.code c::k) (.exit i) s↔W S wl aa rs Q k (.exit i) s:=Iff.rfl
theorem WZ:W S wl aa rs Q (.code c::k) (.ret v) s↔W S wl aa rs Q k (.ret v) s:=Iff.rfl
theorem SN:W S wl aa rs Q (.uU c::k) (.exit i) s↔W S wl aa rs Q k (.exit i) s:=Iff.rfl
theorem SO:W S wl aa rs Q (.uU c::k) (.ret v) s↔W S wl aa rs Q k (.ret v) s:=Iff.rfl
theorem Dr:W S wl aa rs Q (.uU c::k) .normal s↔W S wl aa rs Q (.code (.loop c)::k) .normal s:=Iff.rfl
theorem aaT:W S wl aa rs Q (.dO [] dD::k) .normal s↔W S wl aa rs Q k .normal { s with env:=jA dD s.env }:=Iff.rfl
theorem ajU{o:aR}:W S wl aa rs Q (.dO (o::l) dD::k) .normal s↔∃s',iX (aZ S) wl aa o s=some s'/\W S wl aa rs Q (.dO l dD::k) .normal s':=by
 unfold W;simp only[oO,gD];cases iX (aZ S) wl aa o s with
 |none=>simp|some s'=>simp
theorem aaU:W S wl aa rs Q (.code .skip::k) .normal s↔W S wl aa rs Q k .normal s:=Iff.rfl
theorem aaV:W S wl aa rs Q (.code (.exit id)::k) .normal s↔W S wl aa rs Q k (.exit id) s:=Iff.rfl
theorem afC:W S wl aa rs Q (.code .ret::k) .normal s↔∃v,yM s rs=some v/\W S wl aa rs Q k (.ret v) ⟨[],[],s.st⟩:=by
 unfold W;simp only[oO,jf];cases yM s rs with
 |none=>simp|some v=>simp
theorem afD{a b:bN}:W S wl aa rs Q (.code (.seq a b)::k) .normal s↔W S wl aa rs Q (.code a::.code b::k) .normal s:=by
 unfold W;simp only[oO,jf];cases h:jf (aZ S) wl aa rs a s with
 |none=>simp|some y=>
  obtain⟨x,s'⟩:=y;cases x<;>simp
theorem SQ:W S wl aa rs Q (.code (.region l none dD)::k) .normal s↔W S wl aa rs Q (.dO l dD::k) .normal s:=by
 unfold W;simp only[oO,jf];cases h:gD (aZ S) wl aa l s with
 |none=>simp|some s'=>simp
theorem Cs{O:kL}:∀{l:List aR}{s:St},(eG O wl aa l s).map (·.1)=gD O wl aa l s
 |[],s=>rfl|o::l,s=>by
  simp only[eG,gD];cases h:iX O wl aa o s with
  |none=>rfl|some s'=>
   simp only;rw[<-Cs (l:=l) (s:=s')];cases eG O wl aa l s' with
   |none=>rfl|some y=>rfl
def aC:List aR->Bool
 |[]=>true|o::l=>(match o.op.bV with|some _=>false|none=>true)&&aC l
theorem EF{env:qz}:∀{l:List aR},aC l=true->l.all (bO env)=true
 |[],_=>rfl|o::l,h=>by
  simp only[aC,aac]at h;simp only[List.all_cons,EF h.2,Bool.and_true];unfold bO;cases hb:o.op.bV with
  |none=>rfl|some j=>rw[hb]at h;simp at h
theorem vL{O:kL}(h:l.all (bO s.env)=true):iw O wl aa l [] s=gD O wl aa l s:=by
 unfold iw;rw[<-Cs];cases eG O wl aa l s with
 |none=>rfl|some y=>
  obtain⟨e,gQ⟩:=y;simp only[List.all_nil,h,Bool.and_self,aQ,Option.map_some]
theorem aD(h:aC l=true):W S wl aa rs Q (.code (.region l (some []) dD)::k) .normal s↔W S wl aa rs Q (.dO l dD::k) .normal s:=by
 unfold W;simp only[oO,jf,vL (EF h)];cases h:gD (aZ S) wl aa l s with
 |none=>simp|some s'=>simp
theorem bg:W S wl aa rs Q (.code (.region l (some []) dD)::k) .normal s↔l.all (bO s.env)=true/\W S wl aa rs Q (.dO l dD::k) .normal s:=by
 by_cases h:l.all (bO s.env)=true;unfold W;simp only[oO,jf,vL h];cases h2:gD (aZ S) wl aa l s with
 |none=>simp|some s'=>simp[h]
 unfold W;simp only[oO,jf,iw];cases h2:eG (aZ S) wl aa l s with
 |none=>simp[h]|some y=>obtain⟨e,gQ⟩:=y;simp[h]
theorem ny{cw:List (Nat×Nat)}:W S wl aa rs Q (.code (.region l (some cw) dD)::k) .normal s↔
  ∃e gQ,eG (aZ S) wl aa l s=some (e,gQ)/\(cw.all (iG (aZ S) wl aa l gQ)&&l.all (bO s.env))=true/\W S wl aa rs Q k .normal { e with env:=jA dD e.env }:=by
 unfold W;simp only[oO,jf,iw];cases h:eG (aZ S) wl aa l s with
 |none=>simp|some y=>
  obtain⟨e,gQ⟩:=y;by_cases hc:(cw.all (iG (aZ S) wl aa l gQ)&&l.all (bO s.env))=true;simp only[hc,aQ];constructor;rintro⟨x',s',h1,h2⟩;exact⟨e,gQ,rfl,hc,x',s',h1,h2⟩;rintro⟨e',ajV,h0,_,x',s',h1,h2⟩;cases h0;exact⟨x',s',h1,h2⟩;simp only[hc];constructor;rintro⟨x',s',h1,_⟩;cases h1;rintro⟨e',ajV,h0,hf,_⟩;cases h0;exact aU hf hc
theorem aaW{c:Src}{a b:bN}:W S wl aa rs Q (.code (.cond c ca a cb b)::k) .normal s↔
  ∃t,sd s.env c=some t/\W S wl aa rs Q (.code (if t then a else b)::k) .normal { s with env:=jA (if t then ca else cb) (nc s.env c) }:=by
 unfold W;simp only[oO,jf];cases sd s.env c with
 |none=>simp|some t=>cases t<;>simp
theorem W0:W S wl aa rs Q (.code (.block id c)::k) .normal s↔W S wl aa rs Q (.code c::.jB id::k) .normal s:=by
 unfold W;simp only[oO,jf];cases h:jf (aZ S) wl aa rs c s with
 |none=>simp|some y=>
  obtain⟨x,s'⟩:=y;cases x with
  |normal=>simp|exit i=>by_cases hi:i=id<;>simp[hi]|ret v=>simp
theorem zA:W S wl aa rs Q (.code (.loop c)::k) .normal s↔W S wl aa rs Q (.code c::.uU c::k) .normal s:=by
 unfold W;simp only[oO,jf];rw[Po];cases h:jf (aZ S) wl aa rs c s with
 |none=>simp|some y=>
  obtain⟨x,s'⟩:=y;cases x<;>simp
theorem afE{t:Nat}:W S wl aa rs Q (.code (.Pn t)::k) .normal s↔∃v v' st',dK s.env t=.val v/\iy wl v s.st=some (v',st')/\W S wl aa rs Q k .normal ⟨wK s.env t (.val v'),s.bx,st'⟩:=by
 unfold W;simp only[oO,jf];cases h:dK s.env t with
 |none=>simp|fp j k=>simp|val v=>
  simp only;cases h2:iy wl v s.st with
  |none=>simp[h2]|some y=>
   obtain⟨v',st'⟩:=y;constructor;intro h;exact⟨v,v',st',rfl,h2,h⟩;rintro⟨_,_,_,e1,e2,h⟩;cases e1;rw[h2]at e2;cases e2;exact h
theorem zB{t off:Nat}:W S wl aa rs Q (.code (.uE t off)::k) .normal s↔∃id cQ i k' v v' qQ qb,dK s.env t=.val (.ptr id cQ i k')/\iT s.st (.ptr id cQ i (k'+off)) 1=some [v]/\pS wl v s.st=some (v',qQ)/\
  fo wl aa qQ (.ptr id cQ i (k'+off)) [v']=some qb/\W S wl aa rs Q k .normal ⟨s.env,s.bx,qb⟩:=by
 constructor;intro h;unfold W at h;simp only[oO]at h;cases hc:jf (aZ S) wl aa rs (.uE t off) s with
 |none=>rw[hc]at h;simp at h|some y=>
  obtain⟨x1,s1⟩:=y;rw[hc]at h;obtain⟨rfl,id,cQ,i,k',v,v',qQ,qb,g1,g2,g3,g4,rfl⟩:=DO hc;exact⟨id,cQ,i,k',v,v',qQ,qb,g1,g2,g3,g4,h⟩
 rintro⟨id,cQ,i,k',v,v',qQ,qb,g1,g2,g3,g4,h⟩;unfold W;simp only[oO,jf,g1,g2,g3,g4];exact h
theorem EG{st:ay}(hl:args.length=sf.aH)
  (h:W S (sf.mode.wL st.length wl) (sf.mode.oW st.length aa) sf.results (λx s=>∃v,Gf sf.results x s=some v/\sf.mode.nu st v s.st=some r) [.code sf.body] .normal (qc sf args st)) :
  eM (aZ S) wl aa sf args st=some r:=by
 simp only[eM,hl,aQ];obtain⟨x',s',h1,v,h2,h3⟩:=h;simp only[oO]at h1;cases hs:jf (aZ S) (sf.mode.wL st.length wl) (sf.mode.oW st.length aa) sf.results sf.body (qc sf args st) with
 |none=>rw[hs]at h1;cases h1|some y=>
  obtain⟨x,s⟩:=y;rw[hs]at h1;simp only at h1;cases h1;simp only[h2,h3]
theorem P9{f:Nat}(hf:S f=some sf){st:ay}(ha:tD sf args=false)(hl:args.length=sf.aH)
  (h:W S (sf.mode.wL st.length wl) (sf.mode.oW st.length aa) sf.results (λx s=>∃v,Gf sf.results x s=some v/\sf.mode.nu st v s.st=some r) [.code sf.body] .normal (qc sf args st)) :
  (aZ S).call wl aa f args st=some r:=by
 rw[Bu,hf];simp only[fM,ha,aan,aS];exact EG hl h
theorem Qa{f:Nat}(hf:S f=some sf)(hm:sf.mode=.pure){st:ay}(hp:AV.ax args=true)(hl:args.length=sf.aH)(hv:v.aB=true)
  (h:W S 0 0 sf.results (λx s=>Gf sf.results x s=some v) [.code sf.body] .normal (qc sf args [])) :
  (aZ S).call wl aa f args st=some (v,st):=by
 rw[Bu,hf];have ha:tD sf args=true:=by simp[tD,hm,hp]
 simp only[fM,ha,aQ];have:=EG (S:=S) (wl:=0) (aa:=0) (sf:=sf) (args:=args) (st:=[]) hl (r:=(v,[])) (by
  rw[hm];obtain⟨x',s',h1,h2⟩:=h;exact⟨x',s',h1,v,h2,by simp[Mode.nu,hv]⟩)
 rw[this]
 rfl
def WO(S:Nat->Option aL)(wl aa:Nat)(rs:List iW)(Q:Ex->St->Prop)(l:List aR)(dD:List Nat)(k:List th):Option St->Prop
 |some s=>W S wl aa rs Q (.dO l dD::k) .normal s|none=>False
def WC(S:Nat->Option aL)(wl aa:Nat)(rs:List iW)(Q:Ex->St->Prop)(ca cb:List Nat)(a b:bN)(k:List th)(s:St):Option Bool->Prop
 |some true=>W S wl aa rs Q (.code a::k) .normal { s with env:=jA ca s.env }|some false=>W S wl aa rs Q (.code b::k) .normal { s with env:=jA cb s.env }|none=>False
def WV(S:Nat->Option aL)(wl aa:Nat)(rs:List iW)(Q:Ex->St->Prop)(k:List th)(st:ay):Option AV->Prop
 |some v=>W S wl aa rs Q k (.ret v) ⟨[],[],st⟩|none=>False
theorem afF{o:aR}:W S wl aa rs Q (.dO (o::l) dD::k) .normal s↔WO S wl aa rs Q l dD k (iX (aZ S) wl aa o s):=by
 rw[ajU];cases iX (aZ S) wl aa o s with
 |none=>simp[WO]|some s'=>simp[WO]
theorem W3{c:Src}{a b:bN}:W S wl aa rs Q (.code (.cond c ca a cb b)::k) .normal s↔WC S wl aa rs Q ca cb a b k { s with env:=nc s.env c } (sd s.env c):=by
 rw[aaW];cases sd s.env c with
 |none=>simp[WC]|some t=>cases t<;>simp[WC]
theorem aaX:W S wl aa rs Q (.code .ret::k) .normal s↔WV S wl aa rs Q k s.st (yM s rs):=by
 rw[afC];cases yM s rs with
 |none=>simp[WV]|some v=>simp[WV]
theorem W4:WO S wl aa rs Q l dD k (some s)↔W S wl aa rs Q (.dO l dD::k) .normal s:=Iff.rfl
theorem W5:WO S wl aa rs Q l dD k none↔False:=Iff.rfl
theorem aaY{c:Prop} [Decidable c]:WO S wl aa rs Q l dD k (if c then some s else none)↔c/\W S wl aa rs Q (.dO l dD::k) .normal s:=by
 by_cases h:c<;>simp[h,WO]
theorem W6{a b:bN}:WC S wl aa rs Q ca cb a b k s (some true)↔W S wl aa rs Q (.code a::k) .normal { s with env:=jA ca s.env }:=Iff.rfl
theorem SR{a b:bN}:WC S wl aa rs Q ca cb a b k s (some false)↔W S wl aa rs Q (.code b::k) .normal { s with env:=jA cb s.env }:=Iff.rfl
theorem W7{st:ay}:WV S wl aa rs Q k st (some v)↔W S wl aa rs Q k (.ret v) ⟨[],[],st⟩:=Iff.rfl
end Ax
namespace Ax
open Go
attribute [simp ↓] afA afB aaP aaQ aaR aaS WY WZ SN SO aaT afF aaU aaV aaX afD SQ W3 W0
attribute [simp] W4 W5 aaY W6 SR W7
attribute [simp] iX nt ud Ju nc yL gq.bV jA fL.ai AV.ai AV.cW tC yM zl DK
 AV.aB AV.ax dK wK CO qc Mode.wL Mode.oW Mode.nu Gf GA sd cm cut jP hJ nh mF fL.qa
variable {S:Nat->Option aL}{wl aa:Nat}{rs:List iW}{Q:Ex->St->Prop}{k:List th}{st:ay}{bx:bG}
def ri(st:ay)(bx:bG):Option AV->Option (fL×ay×bG)
 |some v=>some (.val v,st,bx)|none=>none
variable{v x:AV}{sz id cQ i n j off bytes:Nat}{r:List (List AV)}{l:List UInt8}{op:BinOp}{agg wV:Bool}{zero:List AV}
@[simp]theorem adH:ri st bx (some v)=some (.val v,st,bx):=rfl
@[simp]theorem adI:ri st bx none=none:=rfl
@[simp]theorem afG{c:Prop} [Decidable c]:ri st bx (if c then some v else none)=if c then some (.val v,st,bx) else none:=by by_cases h:c<;>simp[h]
theorem rj{c b:bN}{s:St}(h:c=b):W S wl aa rs Q (.code (.loop c)::k) .normal s↔W S wl aa rs Q (.code b::.uU c::k) .normal s:=by
 rw[zA];subst h;exact Iff.rfl
@[simp]theorem aaZ:ff st .af=some []:=rfl
@[simp]theorem aa0:ff st .mE=some []:=rfl
@[simp]theorem aa1:ff st (.eE sz r)=some r:=rfl
@[simp]theorem aa2:ff st (.k8 sz r)=some r:=rfl
@[simp]theorem adJ:ff st (.mu id cQ)=match st[id]? with|some (.rows v _ rows)=>if v=cQ then some rows else none|_=>none:=rfl
@[simp]theorem W8:dx st .af=some []:=rfl
@[simp]theorem W9:dx st .mE=some []:=rfl
@[simp]theorem Xa:dx st (.eE sz r)=some r:=rfl
@[simp]theorem Xb:dx st (.k8 sz r)=some r:=rfl
@[simp]theorem Xc:dx st (.str l)=some (nL l):=rfl
@[simp]theorem afH:oK st .str (.str l)=some l.length:=rfl
@[simp]theorem Xd:oK st .sl v=(ff st v).map List.length:=by
 cases v<;>simp only[oK]<;>cases ff st _<;>rfl
@[simp]theorem ah8:oK st .mp (.map id)=match st[id]? with|some (.map es)=>some es.length|_=>none:=rfl
def C2(sz:Nat)(st:ay)(x:AV)(i:Int):Option AV:=match x with
 |.eE s rows|.k8 s rows=>if s=sz/\0<=i/\i<rows.length then some (.qP sz rows i.toNat 0) else none
 |.mu id cQ=>match st[id]? with
  |some (.rows v s rows)=>if v=cQ/\s=sz/\0<=i/\i<rows.length then some (.ptr id cQ i.toNat 0) else none
  |_=>none
 |_=>none
@[simp]theorem afI{s:Nat}{i:Int}:C2 sz st (.eE s r) i=if s=sz/\0<=i/\i<r.length then some (.qP sz r i.toNat 0) else none:=rfl
@[simp]theorem afJ{s:Nat}{i:Int}:C2 sz st (.k8 s r) i=if s=sz/\0<=i/\i<r.length then some (.qP sz r i.toNat 0) else none:=rfl
@[simp]theorem ah9{i:Int}:C2 sz st (.mu id cQ) i=match st[id]? with|some (.rows v s rows)=>if v=cQ/\s=sz/\0<=i/\i<rows.length then some (.ptr id cQ i.toNat 0) else none|_=>none:=rfl
def oP(sz bytes:Nat)(s:AV)(new:List (List AV)):Option AV:=
 if cn sz new=true then match s with
  |.af|.mE=>if new.isEmpty then some s else if new.length*bytes<=cN then some (.k8 sz new) else none
  |.k8 ke js=>if ke=sz/\(js.length+new.length)*bytes<=cN then some (.k8 sz (js++new)) else none
  |_=>none else none
@[simp]theorem ajW{e:fL}:bn wl aa .move [e] st bx=some (e,st,bx):=rfl
@[simp]theorem ajX{b:Bool}{x y:fL}:bn wl aa .pick [.val (.bool b),x,y] st bx=some (if b then x else y,st,bx):=rfl
@[simp]theorem anf{y:AV}:bn wl aa (.td op) [.val x,.val y] st bx=ri st bx (CP op x y):=by
 simp only[bn];cases CP op x y<;>rfl
@[simp]theorem ang{kk:EqK}{neg:Bool}{y:AV}:bn wl aa (.ua kk neg) [.val x,.val y] st bx=ri st bx ((Gy kk x y).map λb=>.bool (if neg then !b else b)):=by
 simp only[bn];cases Gy kk x y<;>rfl
@[simp]theorem aoM{op:UnOp}:bn wl aa (.un op) [.val x] st bx=ri st bx (unV op x):=by
 simp only[bn];cases unV op x<;>rfl
@[simp]theorem ajY{kk l:IntKind}{n:Int}:bn wl aa (.conv kk) [.val (.int l n)] st bx=some (.val (.int kk (kk.wrap n)),st,bx):=rfl
@[simp]theorem aia:bn wl aa .Zc [.val x] st bx=ri st bx (((ff st x).bind Dc).map .str):=by
 simp only[bn];cases ff st x with
 |none=>rfl|some r=>simp only[adm];cases Dc r<;>rfl
@[simp]theorem ZC{lk:LK}:bn wl aa (.len lk) [.val x] st bx=ri st bx ((oK st lk x).map λn=>.int .i64 n):=by
 simp only[bn];cases oK st lk x<;>rfl
@[simp]theorem afK{mx:Bool}{kk:IntKind}{a b:Int}:bn wl aa (.uc mx) [.val (.int kk a),.val (.int kk b)] st bx=some (.val (.int kk (if mx then (if b > a then b else a) else (if b<a then b else a))),st,bx):=by
 simp[bn]
@[simp]theorem ajZ:bn wl aa .nilCheck [.fp j i] st bx=some (.fp j i,st,bx):=rfl
@[simp]theorem aj0{a b c d:Nat}:bn wl aa .nilCheck [.val (.ptr a b c d)] st bx=some (.val (.ptr a b c d),st,bx):=rfl
@[simp]theorem aj1{a:Nat}{c d:Nat}:bn wl aa .nilCheck [.val (.qP a r c d)] st bx=some (.val (.qP a r c d),st,bx):=rfl
@[simp]theorem adK{vs:List AV}:bn wl aa (.extract i) [.val (.fK vs)] st bx=ri st bx vs[i]?:=by
 simp only[bn];cases vs[i]?<;>rfl
@[simp]theorem aib{cs:List AV}:bn wl aa (.field off n agg) [.val (.agg cs)] st bx=ri st bx ((cut cs off n).bind (cm agg)):=by
 simp only[bn];cases cut cs off n with
 |none=>rfl|some r=>simp only[adm];cases cm agg r<;>rfl
@[simp]theorem aic{parts:List (Nat×Nat)}{l:List fL}:bn wl aa (.build zero parts) l st bx=ri st bx (((jP l).bind (jw zero parts)).map .agg):=by
 simp only[bn];cases jP l with
 |none=>rfl|some vs=>simp only[adm];cases jw zero parts vs<;>rfl
@[simp]theorem anh{parts:List Nat}{l:List fL}:bn wl aa (.lit sz n zero parts) l st bx =
  ri st bx (((jP l).bind λvs=>iu sz (aak n zero) parts (AV.cW vs)).bind λrows=>if rows.all AV.ax&&rows.all AV.bw then some (if n=0 then .mE else .eE sz rows) else none):=by
 simp only[bn];cases jP l with
 |none=>rfl|some vs=>
  simp only[adm];cases iu sz (aak n zero) parts (AV.cW vs) with
  |none=>rfl|some rows=>simp only[adm];split<;>rfl
@[simp]theorem Xe:bn wl aa (.fieldAddr off) [.fp j i] st bx=some (.fp j (i+off),st,bx):=rfl
@[simp]theorem Xf{a b c d:Nat}:bn wl aa (.fieldAddr off) [.val (.ptr a b c d)] st bx=some (.val (.ptr a b c (d+off)),st,bx):=rfl
@[simp]theorem Xg{a c d:Nat}:bn wl aa (.fieldAddr off) [.val (.qP a r c d)] st bx=some (.val (.qP a r c (d+off)),st,bx):=rfl
@[simp]theorem ZD{i:Int}:bn wl aa (.indexAddr sz) [.val x,.val (.int .i64 i)] st bx=ri st bx (C2 sz st x i):=by
 cases x<;>try rfl
 case eE s r=>simp only[bn,C2,aac,aK,and_assoc];split<;>rfl
 case k8 s r=>simp only[bn,C2,aac,aK,and_assoc];split<;>rfl
 case mu id cQ=>
  simp only[bn,C2,aac,aK,and_assoc];cases st[id]? with
  |none=>rfl|some ob=>cases ob with
   |rows v s r=>simp only;split<;>rfl|map es=>rfl
@[simp]theorem aid{i:Int}:bn wl aa .index [.val (.str l),.val (.int .i64 i)] st bx=if 0<=i then ri st bx (l[i.toNat]?.map λb=>.int .u8 b.toNat) else none:=by
 simp only[bn];cases l[i.toNat]?<;>rfl
@[simp]theorem aj{p:AV}:bn wl aa (.load agg n false) [.val p] st bx=ri st bx ((iT st p n).bind λcs=>cm agg (AV.cW cs)):=by
 simp only[bn];cases iT st p n with
 |none=>rfl|some cs=>simp only[adm,aan,aS];cases cm agg (AV.cW cs)<;>rfl
@[simp]theorem aie:bn wl aa (.alloc zero) [] st bx=some (.val (.ptr st.length 0 0 0),st++[.rows 0 zero.length [zero]],bx):=rfl
@[simp]theorem afL{s:AV}:bn wl aa (.append sz bytes) [.val s,.val x] st bx=ri st bx ((dx [] x).bind (oP sz bytes s)):=by
 simp only[bn];cases dx [] x with
 |none=>rfl|some new=>
  simp only[adm,oP];by_cases hf:cn sz new=true
  ·simp only[hf,aQ];cases s<;>simp only[aac,aK]<;>(try rfl)<;>repeat' split
   all_goals rfl
  simp only[hf];rfl
@[simp]theorem afM{n c:Int}:bn wl aa (.nW sz bytes zero false) [.val (.int .i64 n),.val (.int .i64 c)] st bx =
  if 0<=n/\n<=c/\c*bytes<=cN/\zero.length=sz then (if AV.ax zero then some (.val (.k8 sz (aak n.toNat zero)),st,bx) else none) else none:=rfl
@[simp]theorem adL{n c:Int}:bn wl aa (.x6 sz bytes zero) [.val (.int .i64 n),.val (.int .i64 c)] st bx =
  if 0<=n/\n<=c/\c*bytes<=cN/\zero.length=sz/\AV.ax zero=true then some (.val (.raw sz (aak n.toNat zero)),st,bx) else none:=rfl
@[simp]theorem yp{n c:Int}:bn wl aa (.nW sz bytes zero true) [.val (.int .i64 n),.val (.int .i64 c)] st bx =
  if 0<=n/\n<=c/\c*bytes<=cN/\zero.length=sz then some (.val (.mu st.length 0),st++[.rows 0 sz (aak n.toNat zero)],bx) else none:=rfl
@[simp]theorem ag{p:AV}:bn wl aa (.store n) [.val p,.val v] st bx=if v.cells.length=n/\AV.bw v.cells=true then (fo wl aa st p v.cells).map λs=>(.none,s,bx) else none:=by
 simp only[bn,aac,aK];split;cases fo wl aa st p v.cells<;>rfl
 rfl
@[simp]theorem aa3{cells:List AV}:fo wl aa st (.ptr id cQ i j) cells=match st[id]? with
  |some (.rows v sz rows)=>if v=cQ/\aV wl aa id cells=true then rows[i]?.bind λr=>if j+cells.length<=r.length then some (st.set id (.rows v sz (rows.set i (au r j cells)))) else none else none
  |_=>none:=by
 simp only[fo];cases st[id]? with
 |none=>rfl|some ob=>cases ob with
  |map es=>rfl|rows v sz rows=>
   simp only[aac,aK];split;cases rows[i]?<;>rfl
   rfl
attribute [simp] aV
@[simp]theorem afN{hi:Int}:bn wl aa (.qB sz) [.val (.mu id cQ),.val (.int .i64 hi)] st bx=match st[id]? with
  |some (.rows v s rows)=>if v=cQ/\s=sz/\0<=hi/\hi<=rows.length/\wl<=id then some (.val (.mu id (v+1)),st.set id (.rows (v+1) s (rows.take hi.toNat)),bx) else none
  |_=>none:=by
 simp only[bn,aac,aK,and_assoc];cases st[id]? with
 |none=>rfl|some ob=>cases ob<;>rfl
@[simp]theorem Hi:bn wl aa (.gu sz bytes) [.val (.mu id cQ),.val x] st bx=(dx st x).bind λnew=>if cn sz new=true then match st[id]? with
  |some (.rows v ke js)=>if v=cQ/\ke=sz/\(js.length+new.length)*bytes<=cN/\wl<=id/\(aa<=id\/new.all AV.ax=true) then some (.val (.mu id (v+1)),st.set id (.rows (v+1) sz (js++new)),bx) else none
  |_=>none else none:=by
 simp only[bn,r9,aac,aK,Bool.or_eq_true,and_assoc];cases dx st x with
 |none=>rfl|some new=>rfl
@[simp]theorem aj2:bn wl aa .Pm [.val .af] st bx=some (.val (.int .i64 0),st,bx):=rfl
@[simp]theorem uV{s:AV}{n:Int}:bn wl aa (.pQ sz bytes zero) [.val s,.val (.int .i64 n)] st bx =
  if 0<=n/\n*bytes<=cN/\zero.length=sz/\AV.ax zero=true then r9 wl aa sz bytes s (aak n.toNat zero) st bx else none:=rfl
@[simp]theorem vM:bn wl aa (.gu sz bytes) [.val .af,.val x] st bx=(dx st x).bind λnew=>if cn sz new=true then (if new.isEmpty=true then some (.val .af,st,bx) else if new.length*bytes<=cN then some (.val (.mu st.length 0),st++[.rows 0 sz new],bx) else none) else none:=by
 simp only[bn];cases dx st x with
 |none=>rfl|some new=>rfl
@[simp]theorem aa4:bn wl aa (.gu sz bytes) [.val .mE,.val x] st bx=(dx st x).bind λnew=>if cn sz new=true then (if new.length*bytes<=cN then some (.val (.mu st.length 0),st++[.rows 0 sz new],bx) else none) else none:=by
 simp only[bn];cases dx st x with
 |none=>rfl|some new=>rfl
@[simp]theorem aif:bn wl aa (.gW j agg n false) [.fp j i] st bx=ri st bx ((bx[j]?.bind λaF=>cut aF i n).bind λcs=>cm agg (AV.cW cs)):=by
 simp only[bn,aQ];cases bx[j]? with
 |none=>rfl|some aF=>
  simp only[adm];cases cut aF i n with
  |none=>rfl|some cs=>simp only[adm,aan,aS];cases cm agg (AV.cW cs)<;>rfl
@[simp]theorem afO:bn wl aa (.gW j agg n true) [.fp j i] st bx=(bx[j]?.bind λaF=>(cut aF i n).bind λcs=>(cm agg cs).map λv=>(.val v,st,bx.set j (au aF i (cs.map AV.jX)))):=by
 simp only[bn,aQ];cases bx[j]? with
 |none=>rfl|some aF=>
  simp only[adm];cases cut aF i n with
  |none=>rfl|some cs=>simp only[adm];cases cm agg cs<;>rfl
@[simp]theorem afP:bn wl aa (.j9 j n) [.fp j i,.val v] st bx=if v.cells.length=n/\AV.bw v.cells=true then bx[j]?.bind λaF=>(if i+n<=aF.length then some (.none,st,bx.set j (au aF i v.cells)) else none) else none:=by
 simp only[bn,aac,aK,true_and];split;cases bx[j]?<;>rfl
 rfl
@[simp]theorem afQ:bn wl aa (.cq j zero) [] st bx=if j<bx.length then some (.fp j 0,st,bx.set j zero) else none:=rfl
@[simp]theorem Oq:bn wl aa (.box n) [.val v] st bx=if v.cells.length=n/\AV.bw v.cells=true then some (.val (.ptr st.length 0 0 0),st++[.rows 0 n [v.cells]],bx) else none:=by
 simp only[bn,aac,aK]
@[simp]theorem aj3:bn wl aa (.vn j n) [.val v] st bx=if j<bx.length/\v.cells.length=n/\AV.bw v.cells=true then some (.fp j 0,st,bx.set j v.cells) else none:=by
 simp only[bn,aac,aK,and_assoc]
@[simp]theorem aa5{f:Nat}{l:List fL}:bn wl aa (.makeFunc f n) l st bx=ri st bx ((jP l).map λvs=>.fn f (AV.cW (vs.take n)) (AV.cW (vs.drop n))):=by
 simp only[bn];cases jP l<;>rfl
@[simp]theorem adM{b:Int}:bn wl aa (.slice wV false true false sz) [.val x,.val (.int .i64 b)] st bx=(oK st (if wV then .str else .sl) x).bind λ_=>ri st bx (ku wV sz x 0 b none):=by
 simp only[bn];cases oK st (if wV then LK.str else LK.sl) x with
 |none=>rfl|some n=>simp only[tC,aan,aS,aQ,adm];cases ku wV sz x 0 b none<;>rfl
@[simp]theorem adN{a:Int}:bn wl aa (.slice wV true false false sz) [.val x,.val (.int .i64 a)] st bx=(oK st (if wV then .str else .sl) x).bind λn=>ri st bx (ku wV sz x a n none):=by
 simp only[bn];cases oK st (if wV then LK.str else LK.sl) x with
 |none=>rfl|some n=>simp only[tC,aan,aS,aQ,adm];cases ku wV sz x a n none<;>rfl
@[simp]theorem adO{a b:Int}:bn wl aa (.slice wV true true false sz) [.val x,.val (.int .i64 a),.val (.int .i64 b)] st bx=(oK st (if wV then .str else .sl) x).bind λ_=>ri st bx (ku wV sz x a b none):=by
 simp only[bn];cases oK st (if wV then LK.str else LK.sl) x with
 |none=>rfl|some n=>simp only[tC,aQ,adm];cases ku wV sz x a b none<;>rfl
@[simp]theorem aa6{s:List UInt8}{a b:Int}:ku true sz (.str s) a b none=if 0<=a/\a<=b/\b<=s.length then some (.str ((s.take b.toNat).drop a.toNat)) else none:=by
 simp[ku,and_assoc]
attribute [simp] AV.jX
@[simp]theorem afR{kk:IntKind}{a b:Int}:CP op (.int kk a) (.int kk b)=l8 op kk a b:=by simp[CP]
@[simp]theorem aj4{a b:List UInt8}:CP .add (.str a) (.str b)=if a.length+b.length<=4611686018427387904 then some (.str (a++b)) else none:=rfl
@[simp]theorem aj5{a b:List UInt8}:CP .eql (.str a) (.str b)=some (.bool (decide (a=b))):=by simp only[CP];by_cases h:a=b<;>simp[h]
@[simp]theorem aj6{a b:List UInt8}:CP .neq (.str a) (.str b)=some (.bool (!decide (a=b))):=by simp only[CP];by_cases h:a=b<;>simp[h]
@[simp]theorem aih{b:Bool}:unV .not (.bool b)=some (.bool (!b)):=rfl
@[simp]theorem aii{kk:IntKind}{a:Int}:unV .neg (.int kk a)=some (.int kk (kk.wrap (0-a))):=rfl
@[simp]theorem afS{a b:Bool}:Gy (.sc .bool) (.bool a) (.bool b)=some (decide (a=b)):=by cases a<;>cases b<;>rfl
@[simp]theorem aij{kk:IntKind}{a b:Int}:Gy (.sc .int) (.int kk a) (.int kk b)=some (decide (a=b)):=by simp[Gy,FX];by_cases h:a=b<;>simp[h]
@[simp]theorem aik{a b:List UInt8}:Gy (.sc .str) (.str a) (.str b)=some (decide (a=b)):=by simp[Gy,FX];by_cases h:a=b<;>simp[h]
@[simp]theorem afT{ks:List SK}{a b:List AV}:Gy (.flat ks) (.agg a) (.agg b)=FY ks a b:=rfl
attribute [simp] FY
@[simp]theorem afU{a b:Bool}:FX .bool (.bool a) (.bool b)=some (decide (a=b)):=by cases a<;>cases b<;>rfl
@[simp]theorem ail{kk:IntKind}{a b:Int}:FX .int (.int kk a) (.int kk b)=some (decide (a=b)):=by simp[FX];by_cases h:a=b<;>simp[h]
@[simp]theorem aim{a b:List UInt8}:FX .str (.str a) (.str b)=some (decide (a=b)):=by simp[FX];by_cases h:a=b<;>simp[h]
section
variable {kk:IntKind}{a b:Int}
@[simp]theorem aj7:l8 .add kk a b=some (.int kk (kk.wrap (a+b))):=rfl
@[simp]theorem aj8:l8 .sub kk a b=some (.int kk (kk.wrap (a-b))):=rfl
@[simp]theorem aj9:l8 .mul kk a b=some (.int kk (kk.wrap (a*b))):=rfl
@[simp]theorem aka:l8 .quo kk a b=if b=0 then none else some (.int kk (kk.wrap (a.tdiv b))):=rfl
@[simp]theorem akb:l8 .rem kk a b=if b=0 then none else some (.int kk (a.tmod b)):=rfl
@[simp]theorem akc:l8 .and kk a b=some (.int kk (kk.wrap ((BitVec.ofInt kk.bits a &&& BitVec.ofInt kk.bits b).toNat))):=rfl
@[simp]theorem akd:l8 .eql kk a b=some (.bool (decide (a=b))):=by simp only[l8];by_cases h:a=b<;>simp[h]
@[simp]theorem ake:l8 .neq kk a b=some (.bool (!decide (a=b))):=by simp only[l8];by_cases h:a=b<;>simp[h]
@[simp]theorem akf:l8 .lss kk a b=some (.bool (decide (a<b))):=rfl
@[simp]theorem akg:l8 .leq kk a b=some (.bool (decide (a<=b))):=rfl
@[simp]theorem akh:l8 .gtr kk a b=some (.bool (decide (b<a))):=rfl
@[simp]theorem aki:l8 .geq kk a b=some (.bool (decide (b<=a))):=rfl
end
@[simp]theorem adP{rows:List (List AV)}{kk:Nat}:iT st (.qP sz rows i kk) n=rows[i]?.bind λr=>cut r kk n:=by
 simp only[iT];cases rows[i]?<;>rfl
@[simp]theorem adQ{kk:Nat}:iT st (.ptr id cQ i kk) n=match st[id]? with
  |some (.rows v _ rows)=>if v=cQ then rows[i]?.bind λr=>cut r kk n else none
  |_=>none:=by
 simp only[iT];cases st[id]? with
 |none=>rfl|some ob=>cases ob with
  |rows v s r=>
   simp only;split;cases r[i]?<;>rfl
   rfl
  |map es=>rfl
@[simp]theorem aa7(b:Bool):AV.cells (.bool b)=[.bool b]:=rfl
@[simp]theorem ZE(b:Bool):AV.dj (.bool b)=true:=rfl
@[simp]theorem adR(kk:IntKind)(n:Int):AV.cells (.int kk n)=[.int kk n]:=rfl
@[simp]theorem aa8(kk:IntKind)(n:Int):AV.dj (.int kk n)=true:=rfl
@[simp]theorem adS(l:List UInt8):AV.cells (.str l)=[.str l]:=rfl
@[simp]theorem aa9(l:List UInt8):AV.dj (.str l)=true:=rfl
@[simp]theorem Xh:AV.cells (.dV)=[.dV]:=rfl
@[simp]theorem VL:AV.dj (.dV)=true:=rfl
@[simp]theorem ZF:AV.cells (.af)=[.af]:=rfl
@[simp]theorem Xi:AV.dj (.af)=true:=rfl
@[simp]theorem Xj:AV.cells (.hY)=[.hY]:=rfl
@[simp]theorem VM:AV.dj (.hY)=true:=rfl
@[simp]theorem ZG:AV.cells (.jz)=[.jz]:=rfl
@[simp]theorem Xk:AV.dj (.jz)=true:=rfl
@[simp]theorem ZH:AV.cells (.kO)=[.kO]:=rfl
@[simp]theorem Xl:AV.dj (.kO)=true:=rfl
@[simp]theorem adT(s:Nat)(r:List (List AV)):AV.cells (.eE s r)=[.eE s r]:=rfl
@[simp]theorem aba(s:Nat)(r:List (List AV)):AV.dj (.eE s r)=true:=rfl
@[simp]theorem adU(s:Nat)(r:List (List AV)):AV.cells (.k8 s r)=[.k8 s r]:=rfl
@[simp]theorem abb(s:Nat)(r:List (List AV)):AV.dj (.k8 s r)=true:=rfl
@[simp]theorem adV:AV.cells (.mE)=[.mE]:=rfl
@[simp]theorem abd:AV.dj (.mE)=true:=rfl
@[simp]theorem afV(a b:Nat):AV.cells (.mu a b)=[.mu a b]:=rfl
@[simp]theorem adW(a b:Nat):AV.dj (.mu a b)=true:=rfl
@[simp]theorem adX(a b c d:Nat):AV.cells (.ptr a b c d)=[.ptr a b c d]:=rfl
@[simp]theorem abe(a b c d:Nat):AV.dj (.ptr a b c d)=true:=rfl
@[simp]theorem adY(a:Nat)(r:List (List AV))(c d:Nat):AV.cells (.qP a r c d)=[.qP a r c d]:=rfl
@[simp]theorem abf(a:Nat)(r:List (List AV))(c d:Nat):AV.dj (.qP a r c d)=true:=rfl
@[simp]theorem adZ(a:Nat):AV.cells (.map a)=[.map a]:=rfl
@[simp]theorem abg(a:Nat):AV.dj (.map a)=true:=rfl
@[simp]theorem afW(f:Nat)(a b:List AV):AV.cells (.fn f a b)=[.fn f a b]:=rfl
@[simp]theorem ad0(f:Nat)(a b:List AV):AV.dj (.fn f a b)=true:=rfl
@[simp]theorem abh:AV.cells (.gone)=[.gone]:=rfl
@[simp]theorem ZI:AV.dj (.gone)=true:=rfl
@[simp]theorem ad1(cs:List AV):AV.cells (.agg cs)=cs:=rfl
@[simp]theorem Xm:AV.bw []=true:=rfl
@[simp]theorem VN(a:AV)(l:List AV):AV.bw (a::l)=(a.dj&&AV.bw l):=rfl
attribute [simp] iu jw au
theorem eR{n:Int}(h1 : -9223372036854775808<=n)(h2:n<=9223372036854775807):IntKind.i64.wrap n=n:=IntWalk.i64_in n ⟨h1,h2⟩
theorem wk(k:Nat)(h:k<9000000000000000000):IntKind.i64.wrap ((k:Int)+1)=((k+1:Nat):Int):=by rw[eR]<;>omega
end Ax
namespace Ax
open Go
variable {S:Nat->Option aL}{wl aa:Nat}{rs:List iW}{Q:Ex->St->Prop}{k:List th}{st:ay}{bx:bG}
def BH(rs:List iW)(m:Mode)(st:ay)(r:AV×ay)(x:Ex)(s:St):Prop:=∃v,Gf rs x s=some v/\m.nu st v s.st=some r
variable{args:List AV}{r:List (List AV)}{m:Mode}{v:AV}{α:Type}{sz lo hi:Nat}
theorem aA{f:Nat}{sf:aL}(hf:S f=some sf)(ha:tD sf args=false)(hl:args.length=sf.aH){r:AV×ay}
  (h:W S (sf.mode.wL st.length wl) (sf.mode.oW st.length aa) sf.results (BH sf.results sf.mode st r) [.code sf.body] .normal (qc sf args st)) :
  (aZ S).call wl aa f args st=some r:=P9 hf ha hl h
@[simp]theorem Ku{r:AV×ay}{s:St}:BH rs m st r (.ret v) s↔m.nu st v s.st=some r:=by
 simp[BH,Gf]
@[simp]theorem Kv{r:AV×ay}{s:St}:BH rs m st r .normal s↔∃v,yM s rs=some v/\m.nu st v s.st=some r:=Iff.rfl
def Kw(rs:List iW)(v:AV)(x:Ex)(s:St):Prop:=Gf rs x s=some v
@[simp]theorem ad2{u:AV}{s:St}:Kw rs v (.ret u) s↔u=v:=by simp[Kw,Gf]
@[simp]theorem ad3{s:St}:Kw rs v .normal s↔yM s rs=some v:=Iff.rfl
theorem bT{f:Nat}{sf:aL}(hf:S f=some sf)(hm:sf.mode=.pure)(hp:AV.ax args=true)(hl:args.length=sf.aH)(hv:v.aB=true)
  (h:W S 0 0 sf.results (Kw sf.results v) [.code sf.body] .normal (qc sf args [])) :
  (aZ S).call wl aa f args st=some (v,st):=Qa hf hm hp hl hv h
theorem afX{c b:bN}(h:c=b)(f:α->St)(I:α->Prop)(μ:α->Nat)
  (round:∀a,I a->(∀a',I a'->μ a'<μ a->W S wl aa rs Q (.code (.loop c)::k) .normal (f a'))->W S wl aa rs Q (.code b::.uU c::k) .normal (f a)) :
  ∀a,I a->W S wl aa rs Q (.code (.loop c)::k) .normal (f a):=by
 have key:∀n a,μ a=n->I a->W S wl aa rs Q (.code (.loop c)::k) .normal (f a):=by
  intro n;induction n using Nat.strongRecOn with
  |_ n ih=>
   intro a hn ha;rw[rj h];exact round a ha λa' h' bC=>ih (μ a') (by omega) a' rfl h'
 exact λa ha=>key _ a rfl ha
def bt:AV->List (List AV)
 |.eE _ r|.k8 _ r=>r|_=>[]
def aN:AV->Bool
 |.af|.mE|.eE _ _|.k8 _ _=>true|_=>false
def cJ(sz:Nat):AV->Bool
 |.af|.mE=>true|.eE s r|.k8 s r=>s==sz&&cn sz r|_=>false
@[simp]theorem EH(v:AV):bt v.ai=bt v:=by cases v<;>simp[bt,AV.ai]
@[simp]theorem kF(v:AV):aN v.ai=aN v:=by cases v<;>simp[aN,AV.ai]
@[simp]theorem BI(sz:Nat)(v:AV):cJ sz v.ai=cJ sz v:=by cases v<;>simp[cJ,AV.ai]
@[simp]theorem ad4:bt .af=[]:=rfl
@[simp]theorem ad5:bt .mE=[]:=rfl
@[simp]theorem Qb:bt (.eE sz r)=r:=rfl
@[simp]theorem Qc:bt (.k8 sz r)=r:=rfl
@[simp]theorem afY:aN .af=true:=rfl
@[simp]theorem afZ:aN .mE=true:=rfl
@[simp]theorem af0:aN (.eE sz r)=true:=rfl
@[simp]theorem af1:aN (.k8 sz r)=true:=rfl
@[simp]theorem af2:cJ sz .af=true:=rfl
@[simp]theorem af3:cJ sz .mE=true:=rfl
@[simp]theorem dQ{s:Nat}:cJ sz (.eE s r)=(s==sz&&cn sz r):=rfl
@[simp]theorem af4{s:Nat}:cJ sz (.k8 s r)=(s==sz&&cn sz r):=rfl
theorem pW(h:cJ sz v=true):aN v=true:=by cases v<;>simp_all [cJ,aN]
@[simp]theorem ad6(h:aN v=true):ff st v=some (bt v):=by cases v<;>simp_all [aN,bt]
@[simp]theorem ZJ(h:aN v=true):dx st v=some (bt v):=by cases v<;>simp_all [aN,bt]
@[simp]theorem ain{i:Int}(h:cJ sz v=true):C2 sz st v i=if 0<=i/\i<(bt v).length then some (.qP sz (bt v) i.toNat 0) else none:=by
 by_cases hi:0<=i/\i<(bt v).length
 ·rw[ah hi];cases v<;>simp[cJ]at h
  case af=>have:=hi.2;simp[bt]at this;omega
  case mE=>have:=hi.2;simp[bt]at this;omega
  case eE s r=>simp only[C2,bt];rw[ah ⟨h.1,hi⟩]
  case k8 s r=>simp only[C2,bt];rw[ah ⟨h.1,hi⟩]
 ·rw[U hi];cases v<;>simp[cJ]at h
  case af=>rfl
  case mE=>rfl
  case eE s r=>simp only[C2];rw[U λc=>hi c.2]
  case k8 s r=>simp only[C2];rw[U λc=>hi c.2]
mutual
theorem EI:∀v:AV,v.ai.ai=v.ai
 |.k8 _ _=>rfl|.raw _ _=>rfl|.agg cs=>by simp only[AV.ai];rw[xD cs]|.fK cs=>by simp only[AV.ai];rw[xD cs]|.undef|.gone|.bool _|.int _ _|.str _|.dV|.af|.hY|.jz|.kO|.eE _ _|.mE|.mu _ _|.ptr _ _ _ _|.qP _ _ _ _|.map _|.fn _ _ _=>rfl
theorem xD:∀cs:List AV,AV.cW (AV.cW cs)=AV.cW cs
 |[]=>rfl|c::cs=>by simp only[AV.cW];rw[EI c,xD cs]
end
@[simp]theorem pg(v:AV):v.ai.ai=v.ai:=EI v
@[simp]theorem cI(h:aN v=true):v.aB=true:=by cases v<;>simp_all [aN]
@[simp]theorem af5(h:aN v=true):v.cells=[v]:=by cases v<;>simp_all [aN,AV.cells]
@[simp]theorem cy(h:aN v=true):v.dj=true:=by cases v<;>simp_all [aN,AV.dj]
def bK(sz:Nat)(r:List (List AV)):AV:=if r.isEmpty then .af else .k8 sz r
@[simp]theorem sH:bt (bK sz r)=r:=by
 cases r<;>rfl
@[simp]theorem ct:aN (bK sz r)=true:=by
 cases r<;>rfl
@[simp]theorem Au:cJ sz (bK sz r)=cn sz r:=by
 cases r<;>simp[bK,cJ,cn]
theorem kq:bK sz []=.af:=rfl
theorem eO{bytes:Nat}{new:List (List AV)}(hf:cn sz new=true)(hr:(r.length+new.length)*bytes<=cN):oP sz bytes (bK sz r) new=some (bK sz (r++new)):=by
 unfold oP;rw[ah hf];cases r with
 |nil=>
  cases new with
  |nil=>rfl|cons a l=>simp only[bK,List.isEmpty_nil,aQ,agN,aan,aS,List.nil_append];rw[ah (by simpa using hr)]
 |cons b r=>simp only[bK,agN,aan,aS,List.cons_append];rw[ah ⟨trivial,hr⟩]
def pz(v:AV)(lo hi:Nat):AV:=match v with
 |.eE s r|.k8 s r=>.eE s ((r.take hi).drop lo)|x=>x
@[simp]theorem ad7{lo hi:Int}(h:cJ sz v=true):ku false sz v lo hi none=if 0<=lo/\lo<=hi/\hi<=(bt v).length then some (pz v lo.toNat hi.toNat) else none:=by
 by_cases hc:0<=lo/\lo<=hi/\hi<=(bt v).length
 ·rw[ah hc];cases v<;>simp[cJ]at h
  case af=>
   simp[bt]at hc;have:lo=0/\hi=0:=by omega
   obtain⟨rfl,rfl⟩:=this
   rfl
  case mE=>
   simp[bt]at hc;have:lo=0/\hi=0:=by omega
   obtain⟨rfl,rfl⟩:=this
   rfl
  case eE s r=>simp only[bt]at hc;simp[ku,pz,h.1,hc]
  case k8 s r=>simp only[bt]at hc;simp[ku,pz,h.1,hc]
 ·rw[U hc];cases v<;>simp[cJ]at h
  case af=>
   simp only[ku];refine U λh=>hc ?_;simp at h;obtain⟨rfl,rfl⟩:=h;simp[bt]
  case mE=>
   simp only[ku];refine U λh=>hc ?_;simp at h;obtain⟨rfl,rfl⟩:=h;simp[bt]
  case eE s r=>
   simp only[ku];refine U λh=>hc ?_;simp at h;simp only[bt];exact⟨h.1.1.2,h.1.2,h.2⟩
  case k8 s r=>
   simp only[ku];refine U λh=>hc ?_;simp at h;simp only[bt];exact⟨h.1.1.2,h.1.2,h.2⟩
@[simp]theorem af6(h:aN v=true):aN (pz v lo hi)=true:=by
 cases v<;>simp_all [aN,pz]
@[simp]theorem Qd(h:aN v=true):bt (pz v lo hi)=((bt v).take hi).drop lo:=by
 cases v<;>simp_all [aN,pz,bt]
theorem SU(h:cn sz r=true):cn sz ((r.take hi).drop lo)=true:=by
 simp only[cn,aaB]at *;exact λx hx=>h x (adz (adA hx))
@[simp]theorem SW(h:cJ sz v=true):cJ sz (pz v lo hi)=true:=by
 cases v<;>simp_all [cJ,pz,SU]
def aO(xs:List Int):List (List AV):=xs.map λn=>[.int .i64 n]
def dI(v:AV):List Int:=(bt v).map λr=>match r with | [.int .i64 n]=>n|_=>0
def tP(v:AV):Bool:=cJ 1 v&&(bt v).all λr=>match r with | [.int .i64 _]=>true|_=>false
theorem Ds(xs:List Int):((aO xs).map λr=>match r with | [AV.int .i64 n]=>n|_=>(0:Int))=xs:=by
 induction xs with
 |nil=>rfl|cons x xs ih=>simp only[aO,List.map_cons]at *;rw[ih]
@[simp]theorem af7(xs:List Int):(aO xs).length=xs.length:=by simp[aO]
@[simp]theorem af8(xs:List Int)(i:Nat)(h:i<(aO xs).length):(aO xs)[i]=[.int .i64 (xs[i]'(by simpa using h))]:=by simp[aO]
@[simp]theorem ad8(xs:List Int):cn 1 (aO xs)=true:=by simp[cn,aO]
@[simp]theorem ad9(xs:List Int)(k:Nat):List.take k (aO xs)=aO (xs.take k):=by simp[aO]
@[simp]theorem abi(xs:List Bool)(k:Nat):List.take k (xs.map λb=>[AV.bool b])=(xs.take k).map λb=>[AV.bool b]:=by simp
@[simp]theorem aea(xs:List Int)(k:Nat):List.drop k (aO xs)=aO (xs.drop k):=by simp[aO]
@[simp]theorem ZK(xs ys:List Int):aO xs++aO ys=aO (xs++ys):=by simp[aO]
@[simp]theorem Xn(xs:List Int)(n:Int):aO xs++[[.int .i64 n]]=aO (xs++[n]):=by simp[aO]
theorem Av(h:tP v=true):bt v=aO (dI v):=by
 simp only[tP,aac,aaB]at h;unfold aO dI;rw[List.map_map];conv=>lhs;rw[<-List.map_id (bt v)]
 refine acK λr hr=>?_;have:=h.2 r hr;split at this
 rfl
 cases this
@[simp]theorem af9(v:AV):tP v.ai=tP v:=by simp[tP]
@[simp]theorem aio(v:AV):dI v.ai=dI v:=by simp[dI]
@[simp]theorem EJ(h:tP v=true):cJ 1 v=true:=by simp only[tP,aac]at h;exact h.1
@[simp]theorem og(h:tP v=true):aN v=true:=pW (EJ h)
@[simp]theorem akj(xs:List Int):tP (bK 1 (aO xs))=true:=by simp[tP,aO,cn]
@[simp]theorem ani(xs:List Int):dI (bK 1 (aO xs))=xs:=by simp only[dI,sH];exact Ds xs
@[simp]theorem aip:tP .af=true:=rfl
@[simp]theorem akk:dI .af=[]:=rfl
@[simp]theorem aiq(xs:List Int):tP (.eE 1 (aO xs))=true:=by simp[tP,aO,cn]
@[simp]theorem akl(xs:List Int):dI (.eE 1 (aO xs))=xs:=by simp only[dI,Qb];exact Ds xs
@[simp]theorem air(xs:List Int):tP (.k8 1 (aO xs))=true:=by simp[tP,aO,cn]
@[simp]theorem akm(xs:List Int):dI (.k8 1 (aO xs))=xs:=by simp only[dI,Qc];exact Ds xs
@[simp]theorem Ot(h:tP v=true):tP (pz v lo hi)=true:=by
 have h0:=og h;simp only[tP,aac,aaB]at *;refine⟨SW h.1,λr hr=>?_⟩;rw[Qd h0]at hr;exact h.2 r (adz (adA hr))
@[simp]theorem SX(h:tP v=true):dI (pz v lo hi)=((dI v).take hi).drop lo:=by
 simp[dI,og h,List.map_take,List.map_drop]
@[simp]theorem aga(n:Int):tP (.k8 1 [[.int .i64 n]])=true:=rfl
@[simp]theorem agb(n:Int):tP (.eE 1 [[.int .i64 n]])=true:=rfl
@[simp]theorem agc(a b:Int):tP (.eE 1 [[.int .i64 a],[.int .i64 b]])=true:=rfl
@[simp]theorem ais(a b:Int):dI (.eE 1 [[.int .i64 a],[.int .i64 b]])=[a,b]:=rfl
@[simp]theorem agd(a b c:Int):tP (.eE 1 [[.int .i64 a],[.int .i64 b],[.int .i64 c]])=true:=rfl
@[simp]theorem ait(a b c:Int):dI (.eE 1 [[.int .i64 a],[.int .i64 b],[.int .i64 c]])=[a,b,c]:=rfl
@[simp]theorem aiu(n:Int):dI (.eE 1 [[.int .i64 n]])=[n]:=rfl
def gC(xs:List Bool):List (List AV):=xs.map λb=>[.bool b]
@[simp]theorem aeb(xs:List Bool):(gC xs).length=xs.length:=by simp[gC]
@[simp]theorem aec(xs:List Bool)(i:Nat)(h:i<(gC xs).length):(gC xs)[i]=[.bool (xs[i]'(by simpa using h))]:=by simp[gC]
@[simp]theorem aed(xs:List Bool)(i:Nat)(b:Bool):(gC xs).set i [.bool b]=gC (xs.set i b):=by simp[gC]
@[simp]theorem st0(st:List α)(a:α)(l:List α):(st++a::l)[st.length]?=some a:=by simp
@[simp]theorem qQ(st:List α)(a b:α)(l:List α):(st++a::b::l)[st.length+1]?=some b:=by
 rw[aar (by omega)];simp
@[simp]theorem qb(st:List α)(a b c:α)(l:List α):(st++a::b::c::l)[st.length+2]?=some c:=by
 rw[aar (by omega)];simp
@[simp]theorem aoN(st:List α)(a x:α)(l:List α):(st++a::l).set st.length x=st++x::l:=by simp
@[simp]theorem aoO(st:List α)(a b x:α)(l:List α):(st++a::b::l).set (st.length+1) x=st++a::x::l:=by
 rw[aeh _ _ (by omega)];simp
@[simp]theorem aoP(st:List α)(a b c x:α)(l:List α):(st++a::b::c::l).set (st.length+2) x=st++a::b::x::l:=by
 rw[aeh _ _ (by omega)];simp
end Ax
namespace Ax
open Go
theorem bH{S:Nat->Option aL}{wl aa:Nat}{rs:List iW}{Q:Ex->St->Prop}{k:List th}{α:Type}{c b:bN}{s:St}(h:c=b)(f:α->St)(I:α->Prop)(μ:α->Nat)(a0:α)(hs:s=f a0)(h0:I a0)
  (round:∀a,I a->(∀a',I a'->μ a'<μ a->W S wl aa rs Q (.code (.loop c)::k) .normal (f a'))->W S wl aa rs Q (.code b::.uU c::k) .normal (f a)) :
  W S wl aa rs Q (.code (.loop c)::k) .normal s:=by
 subst hs;exact afX h f I μ round a0 h0
def Ru(v:AV):List AV:=(bt v).map λr=>r.headD .undef
def EK(v:AV):Bool:=cJ 1 v&&(bt v).all λr=>match r with | [x]=>tP x|_=>false
def dII(v:AV):List (List Int):=(Ru v).map dI
variable{v:AV}
theorem SY(h:EK v=true):bt v=(Ru v).map λx=>[x]:=by
 simp only[EK,aac,aaB]at h;unfold Ru;rw[List.map_map];conv=>lhs;rw[<-List.map_id (bt v)]
 refine acK λr hr=>?_;have:=h.2 r hr;split at this
 rfl
 cases this
theorem abj(h:EK v=true):∀x∈Ru v,tP x=true:=by
 intro x hx;have h1:=SY h;simp only[EK,aac,aaB]at h;have:[x]∈bt v:=by rw[h1];exact List.mem_map.2 ⟨x,hx,rfl⟩
 exact h.2 _ this
@[simp]theorem agf(v:AV):Ru v.ai=Ru v:=by simp[Ru]
@[simp]theorem aee(v:AV):EK v.ai=EK v:=by simp[EK]
@[simp]theorem agh(v:AV):dII v.ai=dII v:=by simp[dII]
@[simp]theorem Xo(h:EK v=true):cJ 1 v=true:=by simp only[EK,aac]at h;exact h.1
@[simp]theorem aiv(h:EK v=true):aN v=true:=pW (Xo h)
@[simp]theorem aiw(v:AV):(dII v).length=(Ru v).length:=by simp[dII]
@[simp]theorem aix(h:EK v=true)(i:Nat)(hi:i<(Ru v).length):tP (Ru v)[i]=true:=abj h _ (List.getElem_mem _)
end Ax
namespace Ax
@[simp]theorem cast_eq(a b:Nat):((a:Int)=(b:Int))↔a=b:=Int.natCast_inj
end Ax
namespace Ax
open Go
theorem SZ{S:Nat->Option aL}{f:Nat}{sf:aL}(hf:S f=some sf)(hm:sf.mode=.pure){args:List AV}(hp:AV.ax args=true){v:AV}{st0:ay}(h:(aZ S).call 0 0 f args []=some (v,st0))(wl aa:Nat)(st:ay) :
  (aZ S).call wl aa f args st=some (v,st):=by
 rw[Bu,hf]at h ⊢;have ha:tD sf args=true:=by simp[tD,hm,hp]
 simp only[fM,ha,aQ]at h ⊢;cases hc:eM (aZ S) 0 0 sf args [] with
 |none=>rw[hc]at h;cases h|some x=>rw[hc]at h;cases h;rfl
end Ax
namespace Ax
open Go
variable {P:Program}
variable{t:TypeId}{as:List AV}
theorem MA{k:IntKind}(h1:P.underlying t=some (.int k))(h:Ty P t as):∃n,as=[.int k n]/\k.min<=n/\n<=k.max:=by
 cases h with
 |int hu n a b=>rw[h1]at hu;cases hu;exact⟨n,rfl,a,b⟩|bool hu=>rw[h1]at hu;cases hu|str hu=>rw[h1]at hu;cases hu|af hu=>rw[h1]at hu;cases hu|mE hu=>rw[h1]at hu;cases hu|eE hu=>rw[h1]at hu;cases hu|SF hu=>rw[h1]at hu;cases hu
theorem abk(h1:P.underlying t=some .string)(h:Ty P t as):∃l:List UInt8,as=[.str l]/\l.length<=maxLen:=by
 cases h with
 |str hu l hl=>exact⟨l,rfl,hl⟩|bool hu=>rw[h1]at hu;cases hu|int hu=>rw[h1]at hu;cases hu|af hu=>rw[h1]at hu;cases hu|mE hu=>rw[h1]at hu;cases hu|eE hu=>rw[h1]at hu;cases hu|SF hu=>rw[h1]at hu;cases hu
theorem S1{e:TypeId}(h1:P.underlying t=some (.slice e))(h:Ty P t as):∃v,as=[v]/\cJ (P.cellsOf e) v=true/\(∀r∈bt v,Ty P e r)/\(bt v).length<=maxLen:=by
 cases h with
 |af hu=>exact⟨_,rfl,rfl,λr hr=>by simp[bt]at hr,by simp[bt]⟩|mE hu=>exact⟨_,rfl,rfl,λr hr=>by simp[bt]at hr,by simp[bt]⟩|eE hu rows hn hl h2=>
  rw[h1]at hu;cases hu;refine⟨_,rfl,?_,h2,hn⟩;simp only[dQ,beq_self_eq_true,aeD,cn,aaB,cz];exact hl
 |bool hu=>rw[h1]at hu;cases hu|int hu=>rw[h1]at hu;cases hu|str hu=>rw[h1]at hu;cases hu|SF hu=>rw[h1]at hu;cases hu
theorem akn{e:TypeId}(h1:P.underlying t=some (.slice e))(h2:P.underlying e=some (.int .i64))(h3:P.cellsOf e=1)(h:Ty P t as):∃v,as=[v]/\tP v=true/\(dI v).length<=maxLen/\∀n∈dI v,-9223372036854775808<=n/\n<=9223372036854775807:=by
 obtain⟨v,rfl,a,b,c⟩:=S1 h1 h;rw[h3]at a;refine⟨v,rfl,?_,by simpa [dI] using c,λn hn=>?_⟩;simp only[tP,a,aeD,aaB];intro r hr;obtain⟨n,rfl,_⟩:=MA h2 (b r hr)
 rfl
 simp only[dI,List.mem_map]at hn;obtain⟨r,hr,rfl⟩:=hn;obtain⟨n,rfl,l,u⟩:=MA h2 (b r hr);exact⟨l,u⟩
theorem Iu{a:AV}(h1:∀fs,P.underlying t≠some (.struct fs))(h:VK P t a):Ty P t [a]:=by
 rcases h with⟨fs,as,h2,_⟩|⟨_,h2⟩;exact aU h2 (h1 fs);exact h2
theorem MB{u v:TypeId}(h:WW P [t,u,v] as):∃a b c,as=[a,b,c]/\VK P t a/\VK P u b/\VK P v c:=by
 match as,h with
 |[a,b,c],h=>exact⟨a,b,c,rfl,h.1,h.2.1,h.2.2.1⟩
end Ax
namespace Ax
open Go
noncomputable def Kx (env:qz) (t:Nat):fL:=List.rec (motive:=λ_=>fL) fL.none (λp _ ih=>match aez p.1 t with|true=>p.2|false=>ih) env
noncomputable def S2 (env:qz) (t:Nat) (e:fL):qz:=List.rec (motive:=λ_=>qz) [(t,e)] (λp r ih=>match agj p.1 t with
  |false=>(t,e)::p::r|true=>match aez p.1 t with
   |true=>(t,e)::r|false=>p::ih) env
noncomputable def Hj (env:qz) (t:Nat):qz:=List.rec (motive:=λ_=>qz) [] (λp _ ih=>match aez p.1 t with|true=>ih|false=>p::ih) env
theorem EM{k t:Nat}(h:¬k=t):aez k t=false:=by
 cases hb:aez k t with
 |false=>rfl|true=>exact aU (Nat.eq_of_beq_eq_true hb) h
theorem Aw{k t:Nat}(h:k=t):aez k t=true:=by subst h;exact Nat.beq_refl k
theorem Ky:Kx=dK:=by
 funext env t;induction env with
 |nil=>rfl|cons p r ih=>
  obtain⟨k,e⟩:=p;show (match aez k t with|true=>e|false=>Kx r t)=dK ((k,e)::r) t;rw[ih];show _=(if k=t then e else dK r t);by_cases h:k=t;rw[Aw h,ah h];rw[EM h,U h]
theorem S3:S2=wK:=by
 funext env t e;induction env with
 |nil=>rfl|cons p r ih=>
  obtain⟨k,x⟩:=p;show (match agj k t with
   |false=>(t,e)::(k,x)::r|true=>match aez k t with
    |true=>(t,e)::r|false=>(k,x)::S2 r t e)=wK ((k,x)::r) t e
  rw[ih];show _=(if t<k then (t,e)::(k,x)::r else if t=k then (t,e)::r else (k,x)::wK r t e);by_cases h:t<k;have:agj k t=false:=by
   cases hb:agj k t with
   |false=>rfl|true=>have:=Nat.le_of_ble_eq_true hb;omega
  rw[this,ah h];have:agj k t=true:=Nat.ble_eq_true_of_le (by omega);rw[this,U h];by_cases h2:t=k;rw[Aw h2.symm,ah h2];rw[EM (λe=>h2 e.symm),U h2]
theorem Kz:Hj=CO:=by
 funext env t;induction env with
 |nil=>rfl|cons p r ih=>
  obtain⟨k,x⟩:=p;show (match aez k t with|true=>Hj r t|false=>(k,x)::Hj r t)=(if k=t then CO r t else (k,x)::CO r t);rw[ih];by_cases h:k=t;rw[Aw h,ah h];rw[EM h,U h]
noncomputable def KA (v:AV):AV:=match v with
 |.k8 sz rows=>.eE sz rows|.raw _ _=>.gone|.agg cs=>(AV.agg cs).ai|.fK cs=>(AV.fK cs).ai|v=>v
theorem KC(v:AV):KA v=v.ai:=by cases v<;>simp[KA,AV.ai]
noncomputable def Iv (l:List AV):List AV:=List.rec (motive:=λ_=>List AV) [] (λv _ ih=>KA v::ih) l
theorem Hl(l:List AV):Iv l=AV.cW l:=by
 induction l with
 |nil=>rfl|cons v l ih=>
  show KA v::Iv l=_;rw[ih,KC];rfl
noncomputable def Ou (v:AV):Bool:=match v with
 |.mu _ _|.ptr _ _ _ _|.map _=>false|.agg cs=>(AV.agg cs).aB|.fK cs=>(AV.fK cs).aB|.fn f a b=>(AV.fn f a b).aB|_=>true
theorem S4(v:AV):Ou v=v.aB:=by cases v<;>simp[Ou,AV.aB]
noncomputable def Iw (l:List AV):Bool:=List.rec (motive:=λ_=>Bool) true (λv _ ih=>match Ou v with|true=>ih|false=>false) l
theorem Qe(l:List AV):Iw l=AV.ax l:=by
 induction l with
 |nil=>rfl|cons v l ih=>
  show (match Ou v with|true=>Iw l|false=>false)=_;rw[ih,S4];simp only[AV.ax];cases v.aB<;>simp
noncomputable def S5 (e:fL):fL:=match e with|.val v=>.val (KA v)|.none=>.none|.fp j k=>.fp j k
theorem S6(e:fL):S5 e=e.ai:=by cases e<;>simp[S5,fL.ai,KC]
noncomputable def S7 (env:qz) (x:Src):fL:=match x with
 |.tmp t mv=>match mv with|true=>Kx env t|false=>S5 (Kx env t)
 |.const a=>.val a
theorem Ov:S7=Ju:=by
 funext env x;unfold S7 Ju;rw[Ky];cases x with
 |tmp t mv=>
  cases mv;exact S6 _
  rfl
 |const a=>rfl
noncomputable def xE (env:qz) (x:Src):qz:=match x with
 |.tmp t mv=>match mv with|true=>Hj env t|false=>env
 |.const _=>env
theorem Ho:xE=nc:=by
 funext env x;unfold xE nc;rw[Kz];cases x with
 |tmp t mv=>cases mv<;>rfl|const a=>rfl
noncomputable def tQ (l:List Nat) (env:qz):qz:=List.rec (motive:=λ_=>qz->qz) (λenv=>env) (λt _ ih env=>ih (Hj env t)) l env
theorem EN:tQ=jA:=by
 funext l;induction l with
 |nil=>rfl|cons t l ih=>
  funext env;show tQ l (Hj env t)=jA l (CO env t);rw[ih,Kz]
noncomputable def Hp (env:qz) (dst:Option Nat) (e:fL):qz:=match dst with|some d=>S2 env d e|none=>env
theorem S8:Hp=yL:=by
 funext env d e;unfold Hp yL;rw[S3]
 rfl
noncomputable def EO (env:qz) (g:Option (Nat×Bool)):Option Bool:=match g with
 |none=>some true|some (t,b)=>match Kx env t with
  |.val (.bool c)=>some (c==b)|.val .undef=>some false|_=>none
theorem KD:EO=nt:=by
 funext env g;unfold EO nt;rw[Ky]
 rfl
noncomputable def Ta (env:qz) (l:List Src):List fL:=List.rec (motive:=λ_=>List fL) [] (λx _ ih=>S7 env x::ih) l
theorem Tb(env:qz)(l:List Src):Ta env l=l.map (Ju env):=by
 induction l with
 |nil=>rfl|cons x l ih=>
  show S7 env x::Ta env l=_;rw[ih,Ov];rfl
noncomputable def EP (env:qz) (l:List Src):qz:=List.rec (motive:=λ_=>qz->qz) (λenv=>env) (λx _ ih env=>ih (xE env x)) l env
theorem Qf(l:List Src):∀env,EP env l=l.foldl nc env:=by
 induction l with
 |nil=>exact λ_=>rfl|cons x l ih=>
  intro env;show EP (xE env x) l=_;rw[ih,Ho];rfl
noncomputable def Xp (O:kL) (wl aa:Nat) (op:gq) (vals:List fL) (st:ay) (bx:bG):Option (fL×ay×bG):=match op with
 |.move=>match vals with
  |[e]=>some (e,st,bx)|_=>none
 |.load agg n take=>match take with
  |true=>bn wl aa (.load agg n true) vals st bx|false=>match vals with
   |[.val p]=>match iT st p n with
    |some cs=>match cm agg (Iv cs) with|some v=>some (.val v,st,bx)|none=>none
    |none=>none
   |_=>none
 |.gW j agg n take=>match take with
  |true=>bn wl aa (.gW j agg n true) vals st bx|false=>match vals with
   |[.fp j' k]=>match aez j j' with
    |true=>match bx[j]? with
     |some aF=>match cut aF k n with
      |some cs=>match cm agg (Iv cs) with|some v=>some (.val v,st,bx)|none=>none
      |none=>none
     |none=>none
    |false=>none
   |_=>none
 |.call f=>hJ O wl aa (nh (.call f) vals) st bx|.r7=>hJ O wl aa (nh .r7 vals) st bx|op=>bn wl aa op vals st bx
theorem Xq(O:kL)(wl aa:Nat)(op:gq)(vals:List fL)(st:ay)(bx:bG):Xp O wl aa op vals st bx=ud O wl aa op vals st bx:=by
 cases op
 case load agg n take=>
  cases take with
  |true=>rfl|false=>
   simp only[Xp,ud,bn,Hl]
   rfl
 case gW j agg n take=>
  cases take with
  |true=>rfl|false=>
   rcases vals with _|⟨e,_|⟨e2,l⟩⟩
   rfl
   cases e with
   |none=>rfl|val v=>rfl|fp j' k=>
    simp only[Xp,ud,bn,Hl];by_cases h:j=j';rw[Aw h,ah h];rfl;rw[EM h,U h]
   cases e<;>rfl
 all_goals rfl
noncomputable def Dt (O:kL) (wl aa:Nat) (o:aR) (s:St):Option St:=
 match EO s.env o.guard with
 |none=>none|some false=>some { s with env:=Hp s.env o.dst (.val .undef) }|some true=>
  match Xp O wl aa o.op (Ta s.env o.args) s.st s.bx with
  |none=>none|some (e,st',gX)=>
   match o.op.bV with
   |none=>some ⟨Hp (EP s.env o.args) o.dst e,gX,st'⟩|some j=>if mF j (Hp (EP s.env o.args) o.dst .none) then some ⟨Hp (EP s.env o.args) o.dst e,gX,st'⟩ else none
theorem MD(O:kL)(wl aa:Nat)(o:aR)(s:St):Dt O wl aa o s=iX O wl aa o s:=by
 unfold Dt iX;rw[KD,S8,Tb,Qf,Xq]
 rfl
noncomputable def uW (O:kL) (wl aa:Nat) (l:List aR) (s:St):Option St:=List.rec (motive:=λ_=>St->Option St) (λs=>some s)
 (λo _ ih s=>match Dt O wl aa o s with|some s'=>ih s'|none=>none) l s
theorem Ct(O:kL)(wl aa:Nat):∀(l:List aR)(s:St),uW O wl aa l s=gD O wl aa l s:=by
 intro l;induction l with
 |nil=>exact λ_=>rfl|cons o l ih=>
  intro s;show (match Dt O wl aa o s with|some s'=>uW O wl aa l s'|none=>none)=_;rw[MD];unfold gD;cases iX O wl aa o s with
  |none=>rfl|some s'=>exact ih s'
noncomputable def BJ (O:kL) (wl aa:Nat) (dO:List aR) (cw:List (Nat×Nat)) (s:St):Option St:=match cw with
 |[]=>match dO.all (bO s.env) with
  |true=>uW O wl aa dO s|false=>none
 |p::l=>iw O wl aa dO (p::l) s
theorem Ix(O:kL)(wl aa:Nat)(dO:List aR)(cw:List (Nat×Nat))(s:St):BJ O wl aa dO cw s=iw O wl aa dO cw s:=by
 cases cw with
 |cons p l=>rfl|nil=>
  show (match dO.all (bO s.env) with|true=>uW O wl aa dO s|false=>none)=_;cases h:dO.all (bO s.env) with
  |true=>rw[vL h];exact Ct ..
  |false=>
   unfold iw;cases eG O wl aa dO s with
   |none=>rfl|some y=>simp[h]
noncomputable def Du (env:qz) (c:Src):Option Bool:=
 match S7 env c with
 |.val (.bool b)=>some b|_=>none
theorem ME:Du=sd:=by
 funext env c;unfold Du sd;rw[Ov]
 rfl
noncomputable def IA (O:kL) (wl aa:Nat) (rs:List iW) (c:bN):St->Option (Ex×St):=bN.rec (motive:=λ_=>St->Option (Ex×St))
 (λs=>some (Ex.normal,s))
 (λdO draw dD s=>
  match (match draw with|none=>uW O wl aa dO s|some cw=>BJ O wl aa dO cw s) with
  |some s'=>some (Ex.normal,{ s' with env:=tQ dD s'.env })|none=>none)
 (λ_ _ ia ib s=>match ia s with
  |some (Ex.normal,s')=>ib s'|r=>r)
 (λc ca _ cb _ ia ib s=>match Du s.env c with
  |some true=>ia { s with env:=tQ ca (xE s.env c) }|some false=>ib { s with env:=tQ cb (xE s.env c) }|none=>none)
 (λid _ ic s=>match ic s with
  |some (Ex.exit Zd,s')=>if Zd=id then some (Ex.normal,s') else some (Ex.exit Zd,s')
  |r=>r)
 (λc _ s=>O.loop wl aa rs c s)
 (λid s=>some (Ex.exit id,s))
 (λs=>match yM s rs with|some v=>some (Ex.ret v,⟨[],[],s.st⟩)|none=>none)
 (λt s=>jf O wl aa rs (.Pn t) s)
 (λj k s=>jf O wl aa rs (.DJ j k) s)
 (λt off s=>jf O wl aa rs (.uE t off) s) c
theorem Ow(O:kL)(wl aa:Nat)(rs:List iW):∀(c:bN)(s:St),IA O wl aa rs c s=jf O wl aa rs c s:=by
 intro c;induction c with
 |skip=>exact λ_=>rfl|region dO draw dD=>
  intro s;show (match (match draw with|none=>uW O wl aa dO s|some cw=>BJ O wl aa dO cw s) with
  |some s'=>some (Ex.normal,{ s' with env:=tQ dD s'.env })|none=>none)=_
  rw[EN];simp only[jf];cases draw with
  |none=>rw[Ct];rfl|some p=>simp only[Ix];rfl
 |seq a b ia ib=>
  intro s;show (match IA O wl aa rs a s with
  |some (Ex.normal,s')=>IA O wl aa rs b s'|r=>r)=_
  rw[ia];simp only[jf];cases jf O wl aa rs a s with
  |none=>rfl|some y=>
   obtain⟨x,s'⟩:=y;cases x with
   |normal=>exact ib s'|exit _=>rfl|ret _=>rfl
 |cond c ca a cb b ia ib=>
  intro s;show (match Du s.env c with
  |some true=>IA O wl aa rs a { s with env:=tQ ca (xE s.env c) }|some false=>IA O wl aa rs b { s with env:=tQ cb (xE s.env c) }|none=>none)=_
  rw[ME,EN,Ho];simp only[jf];cases sd s.env c with
  |none=>rfl|some z=>cases z with
   |true=>exact ia _|false=>exact ib _
 |block id c ic=>
  intro s;show (match IA O wl aa rs c s with
  |some (Ex.exit Zd,s')=>if Zd=id then some (Ex.normal,s') else some (Ex.exit Zd,s')
  |r=>r)=_
  rw[ic]
  rfl
 |loop c _=>exact λ_=>rfl|exit id=>exact λ_=>rfl|ret=>exact λ_=>rfl|Pn t=>exact λ_=>rfl|DJ j k=>exact λ_=>rfl|uE t off=>exact λ_=>rfl
noncomputable def vN (O:kL) (wl aa:Nat) (sf:aL) (args:List AV) (st:ay):Option (AV×ay):=
 match aez args.length sf.aH with
 |true=>match IA O (sf.mode.wL st.length wl) (sf.mode.oW st.length aa) sf.results sf.body (qc sf args st) with
  |some (x,s)=>match Gf sf.results x s with
   |some v=>sf.mode.nu st v s.st|none=>none
  |none=>none
 |false=>none
theorem zd(O:kL)(wl aa:Nat)(sf:aL)(args:List AV)(st:ay):vN O wl aa sf args st=eM O wl aa sf args st:=by
 unfold vN eM;rw[Ow];by_cases h:args.length=sf.aH;rw[Aw h,ah h]
 rfl
 rw[EM h,U h]
noncomputable def yq (O:kL) (wl aa:Nat) (sf:aL) (args:List AV) (st:ay):Option (AV×ay):=
 match (match sf.mode with|.pure=>Iw args|_=>false) with
 |true=>(match vN O 0 0 sf args [] with|some r=>some (r.1,st)|none=>none)
 |false=>vN O wl aa sf args st
theorem IB(O:kL)(wl aa:Nat)(sf:aL)(args:List AV)(st:ay):yq O wl aa sf args st=fM O wl aa sf args st:=by
 unfold yq fM;rw[zd,zd];have:(match sf.mode with|.pure=>Iw args|_=>false)=tD sf args:=by
  unfold tD;rw[Qe];cases sf.mode<;>simp
 rw[this];cases tD sf args with
 |true=>simp only[aQ];cases eM O 0 0 sf args []<;>rfl|false=>simp
noncomputable def Qg (S:Nat->Option aL) (n:Nat):kL:=Nat.rec (motive:=λ_=>kL)
 ⟨λ_ _ _ _ _=>none,λ_ _ _ _ _=>none⟩
 (λ_ ih=>⟨λwl aa f args st=>match S f with
   |some sf=>yq ih wl aa sf args st|none=>none,
   λwl aa rs c s=>match IA ih wl aa rs c s with
   |some (Ex.normal,s')=>ih.loop wl aa rs c s'|r=>r⟩) n
theorem Xr(S:Nat->Option aL):∀n,Qg S n=qC S n:=by
 intro n;induction n with
 |zero=>rfl|succ n ih=>
  show (⟨λwl aa f args st=>match S f with
   |some sf=>yq (Qg S n) wl aa sf args st|none=>none,
   λwl aa rs c s=>match IA (Qg S n) wl aa rs c s with
   |some (Ex.normal,s')=>(Qg S n).loop wl aa rs c s'|r=>r⟩:kL)=qC S (n+1)
  rw[ih];simp only[IB,Ow]
  rfl
theorem abl{S:Nat->Option aL}{n wl aa f:Nat}{args:List AV}{st:ay}{r:AV×ay}(h:(Qg S n).call wl aa f args st=some r):(aZ S).call wl aa f args st=some r:=by
 rw[Xr]at h;exact(qY S n).call _ _ _ _ _ _ h
def abm(x:Option (AV×ay)):Bool:=match x with|some (.bool b,[])=>b|_=>false
theorem Xs{x:Option (AV×ay)}(h:abm x=true):x=some (.bool true,[]):=by
 unfold abm at h;split at h;subst h;rfl;cases h
end Ax
namespace Ax
@[simp]abbrev Src.t(n:Nat):Src:=.tmp n false
@[simp]abbrev Src.T(n:Nat):Src:=.tmp n true
@[simp]abbrev aR.o(d:Nat)(op:gq)(args:List Src):aR:=⟨some d,op,args,none⟩
@[simp]abbrev aR.n(op:gq)(args:List Src):aR:=⟨none,op,args,none⟩
@[simp]abbrev aR.y(d:Nat)(op:gq)(args:List Src)(t:Nat):aR:=⟨some d,op,args,some (t,true)⟩
@[simp]abbrev aR.z(d:Nat)(op:gq)(args:List Src)(t:Nat):aR:=⟨some d,op,args,some (t,false)⟩
@[simp]abbrev Src.b(x:Bool):Src:=.const (.bool x)
@[simp]abbrev AV.i(n:Int):AV:=.int .i64 n
@[simp]abbrev Src.i(n:Int):Src:=.const (.int .i64 n)
@[simp]abbrev aR.m(d:Nat)(a:Src):aR:=⟨some d,.move,[a],none⟩
@[simp]abbrev aR.f(d k:Nat)(a:Src):aR:=⟨some d,.fieldAddr k,[a],none⟩
@[simp]abbrev aR.l(d i:Nat)(a:Src):aR:=⟨some d,.gW i false 1 false,[a],none⟩
@[simp]abbrev aR.d(d:Nat)(a:Src):aR:=⟨some d,.load false 1 false,[a],none⟩
@[simp]abbrev bN.r:=bN.region
@[simp]abbrev aR.c(d f:Nat)(args:List Src):aR:=⟨some d,.call f,args,none⟩
@[simp]abbrev bN.g(l:List aR)(c:List Nat):bN:=.region l none c
end Ax
