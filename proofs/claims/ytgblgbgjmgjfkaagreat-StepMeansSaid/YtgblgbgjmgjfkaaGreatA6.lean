/- Part of a proof. -/
import Derived.Test.YtgblgbgjmgjfkaaGreatA5

open List renaming replicate->acp,isEmpty_cons->amC,all_eq_true->ac3,mem_of_mem_take->agM,mem_of_mem_drop->agN,map_congr_left->aeY,getElem?_append_right->acP,set_append_right->akO
open Option renaming bind_some->age
open Nat renaming beq->aiF,ble->alH
open Bool renaming and_eq_true->Ee,false_eq_true->acC,true_and->agC
namespace Ax
open Go
inductive uQ where
 |dK (l:List ct) (tc:List Nat)
 |code (c:aT)
 |kC (id:Nat)
 |yx (c:aT)
def rP(O:mC)(wl ah:Nat)(rs:List jv):List uQ->Ex->St->Option (Ex×St)
 |[],x,s=>some (x,s)|.kC id::k,x,s=>match x with
  |.normal=>rP O wl ah rs k .normal s|.exit i=>if i=id then rP O wl ah rs k .normal s else rP O wl ah rs k (.exit i) s
  |.ret v=>rP O wl ah rs k (.ret v) s
 |.dK l T::k,x,s=>match x with
  |.normal=>match g8 O wl ah l s with|some g=>rP O wl ah rs k .normal { g with env:=kB T g.env } | none=>none
  |x=>rP O wl ah rs k x s
 |.code c::k,x,s=>match x with
  |.normal=>match jU O wl ah rs c s with|some (X,g)=>rP O wl ah rs k X g|none=>none
  |x=>rP O wl ah rs k x s
 |.yx c::k,x,s=>match x with
  |.normal=>match jU O wl ah rs (.loop c) s with|some (X,g)=>rP O wl ah rs k X g|none=>none
  |x=>rP O wl ah rs k x s
def W(S:Nat->Option aL)(wl ah:Nat)(rs:List jv)(Q:Ex->St->Prop)(k:List uQ)(x:Ex)(s:St):Prop:=∃X g,rP (aZ S) wl ah rs k x s=some (X,g)/\Q X g
variable {S:Nat->Option aL}{wl ah:Nat}{rs:List jv}{Q:Ex->St->Prop}{k:List uQ}{s:St}
theorem apu{x:Ex}:W S wl ah rs Q [] x s↔Q x s:=by
 unfold W rP;constructor;rintro⟨X,g,h,l⟩;cases h;exact l;intro h;exact⟨x,s,rfl,h⟩
variable{id i:Nat}{v:AV}{l:List ct}{T m n:List Nat}{c:aT}{args:List AV}{r:AV×aj}
theorem apv:W S wl ah rs Q (.kC id::k) .normal s↔W S wl ah rs Q k .normal s:=Iff.rfl
theorem ajT:W S wl ah rs Q (.kC id::k) (.exit i) s↔if i=id then W S wl ah rs Q k .normal s else W S wl ah rs Q k (.exit i) s:=by
 unfold W;simp only[rP];split<;>exact Iff.rfl
theorem ajU:W S wl ah rs Q (.kC id::k) (.ret v) s↔W S wl ah rs Q k (.ret v) s:=Iff.rfl
theorem ajV:W S wl ah rs Q (.dK l T::k) (.exit i) s↔W S wl ah rs Q k (.exit i) s:=Iff.rfl
theorem ajW:W S wl ah rs Q (.dK l T::k) (.ret v) s↔W S wl ah rs Q k (.ret v) s:=Iff.rfl
theorem afv:W S wl ah rs Q (.code c::k) (.exit i) s↔W S wl ah rs Q k (.exit i) s:=Iff.rfl
theorem afw:W S wl ah rs Q (.code c::k) (.ret v) s↔W S wl ah rs Q k (.ret v) s:=Iff.rfl
theorem aaz:W S wl ah rs Q (.yx c::k) (.exit i) s↔W S wl ah rs Q k (.exit i) s:=Iff.rfl
theorem aaA:W S wl ah rs Q (.yx c::k) (.ret v) s↔W S wl ah rs Q k (.ret v) s:=Iff.rfl
theorem afx:W S wl ah rs Q (.yx c::k) .normal s↔W S wl ah rs Q (.code (.loop c)::k) .normal s:=Iff.rfl
theorem ajX:W S wl ah rs Q (.dK [] T::k) .normal s↔W S wl ah rs Q k .normal { s with env:=kB T s.env }:=Iff.rfl
theorem auI{o:ct}:W S wl ah rs Q (.dK (o::l) T::k) .normal s↔∃g,jA (aZ S) wl ah o s=some g/\W S wl ah rs Q (.dK l T::k) .normal g:=by
 unfold W;simp only[rP,g8];cases jA (aZ S) wl ah o s with
 |none=>simp|some g=>simp
theorem ajY:W S wl ah rs Q (.code .skip::k) .normal s↔W S wl ah rs Q k .normal s:=Iff.rfl
theorem ajZ:W S wl ah rs Q (.code (.exit id)::k) .normal s↔W S wl ah rs Q k (.exit id) s:=Iff.rfl
theorem apw:W S wl ah rs Q (.code .ret::k) .normal s↔∃v,CC s rs=some v/\W S wl ah rs Q k (.ret v) ⟨[],[],s.st⟩:=by
 unfold W;simp only[rP,jU];cases CC s rs with
 |none=>simp|some v=>simp
theorem apx{a b:aT}:W S wl ah rs Q (.code (.seq a b)::k) .normal s↔W S wl ah rs Q (.code a::.code b::k) .normal s:=by
 unfold W;simp only[rP,jU];cases h:jU (aZ S) wl ah rs a s with
 |none=>simp|some y=>
  obtain⟨x,g⟩:=y;cases x<;>simp
theorem aaB:W S wl ah rs Q (.code (.region l none T)::k) .normal s↔W S wl ah rs Q (.dK l T::k) .normal s:=by
 unfold W;simp only[rP,jU];cases h:g8 (aZ S) wl ah l s with
 |none=>simp|some g=>simp
theorem GU{O:mC}:∀{l:List ct}{s:St},(cR O wl ah l s).map (·.1)=g8 O wl ah l s
 |[],s=>rfl|o::l,s=>by
  simp only[cR,g8];cases h:jA O wl ah o s with
  |none=>rfl|some g=>
   simp only;rw[<-GU (l:=l) (s:=g)];cases cR O wl ah l g with
   |none=>rfl|some y=>rfl
def aC:List ct->Bool
 |[]=>true|o::l=>(match o.op.bM with|some _=>false|none=>true)&&aC l
theorem JG{env:tN}:∀{l:List ct},aC l=true->l.all (di env)=true
 |[],_=>rfl|o::l,h=>by
  simp only[aC,Ee]at h;simp only[List.all_cons,JG h.2,Bool.and_true];unfold di;cases H:o.op.bM with
  |none=>rfl|some j=>rw[H]at h;simp at h
theorem zl{O:mC}(h:l.all (di s.env)=true):iL O wl ah l [] s=g8 O wl ah l s:=by
 unfold iL;rw[<-GU];cases cR O wl ah l s with
 |none=>rfl|some y=>
  obtain⟨e,lX⟩:=y;simp only[List.all_nil,h,Bool.and_self,bh,Option.map_some]
theorem aD(h:aC l=true):W S wl ah rs Q (.code (.region l (some []) T)::k) .normal s↔W S wl ah rs Q (.dK l T::k) .normal s:=by
 unfold W;simp only[rP,jU,zl (JG h)];cases h:g8 (aZ S) wl ah l s with
 |none=>simp|some g=>simp
theorem dX:W S wl ah rs Q (.code (.region l (some []) T)::k) .normal s↔l.all (di s.env)=true/\W S wl ah rs Q (.dK l T::k) .normal s:=by
 by_cases h:l.all (di s.env)=true;unfold W;simp only[rP,jU,zl h];cases H:g8 (aZ S) wl ah l s with
 |none=>simp|some g=>simp[h]
 unfold W;simp only[rP,jU,iL];cases H:cR (aZ S) wl ah l s with
 |none=>simp[h]|some y=>obtain⟨e,lX⟩:=y;simp[h]
theorem gO{C:List (Nat×Nat)}:W S wl ah rs Q (.code (.region l (some C) T)::k) .normal s↔
  ∃e lX,cR (aZ S) wl ah l s=some (e,lX)/\(C.all (eR (aZ S) wl ah l lX)&&l.all (di s.env))=true/\W S wl ah rs Q k .normal { e with env:=kB T e.env }:=by
 unfold W;simp only[rP,jU,iL];cases h:cR (aZ S) wl ah l s with
 |none=>simp|some y=>
  obtain⟨e,lX⟩:=y;by_cases g:(C.all (eR (aZ S) wl ah l lX)&&l.all (di s.env))=true;simp only[g,bh];constructor;rintro⟨x,j,H,n⟩;exact⟨e,lX,rfl,g,x,j,H,n⟩;rintro⟨E,m,r,_,x,j,H,n⟩;cases r;exact⟨x,j,H,n⟩;simp only[g];constructor;rintro⟨x,j,H,_⟩;cases H;rintro⟨E,m,r,o,_⟩;cases r;exact au o g
theorem aj0{c:Src}{a b:aT}:W S wl ah rs Q (.code (.cond c m a n b)::k) .normal s↔
  ∃t,vG s.env c=some t/\W S wl ah rs Q (.code (if t then a else b)::k) .normal { s with env:=kB (if t then m else n) (pG s.env c) }:=by
 unfold W;simp only[rP,jU];cases vG s.env c with
 |none=>simp|some t=>cases t<;>simp
theorem afy:W S wl ah rs Q (.code (.block id c)::k) .normal s↔W S wl ah rs Q (.code c::.kC id::k) .normal s:=by
 unfold W;simp only[rP,jU];cases h:jU (aZ S) wl ah rs c s with
 |none=>simp|some y=>
  obtain⟨x,g⟩:=y;cases x with
  |normal=>simp|exit i=>by_cases H:i=id<;>simp[H]|ret v=>simp
theorem aj1:W S wl ah rs Q (.code (.loop c)::k) .normal s↔W S wl ah rs Q (.code c::.yx c::k) .normal s:=by
 unfold W;simp only[rP,jU];rw[WZ];cases h:jU (aZ S) wl ah rs c s with
 |none=>simp|some y=>
  obtain⟨x,g⟩:=y;cases x<;>simp
theorem DE{t off:Nat}:W S wl ah rs Q (.code (.qL t off)::k) .normal s↔∃id C i K v V qg pg,dZ s.env t=.val (.ptr id C i K)/\gm s.st (.ptr id C i (K+off)) 1=some [v]/\qM wl v s.st=some (V,qg)/\
  fR wl ah qg (.ptr id C i (K+off)) [V]=some pg/\W S wl ah rs Q k .normal ⟨s.env,s.bx,pg⟩:=by
 constructor;intro h;unfold W at h;simp only[rP]at h;cases H:jU (aZ S) wl ah rs (.qL t off) s with
 |none=>rw[H]at h;simp at h|some y=>
  obtain⟨l,j⟩:=y;rw[H]at h;obtain⟨rfl,id,C,i,K,v,V,qg,pg,g,G,Y,J,rfl⟩:=IK H;exact⟨id,C,i,K,v,V,qg,pg,g,G,Y,J,h⟩
 rintro⟨id,C,i,K,v,V,qg,pg,g,G,Y,J,h⟩;unfold W;simp only[rP,jU,g,G,Y,J];exact h
theorem W.imp{q:Ex->St->Prop}{x:Ex}(h:W S wl ah rs Q k x s)(l:∀x s,Q x s->q x s):W S wl ah rs q k x s:=by
 obtain⟨X,j,H,g⟩:=h;exact⟨X,j,H,l _ _ g⟩
theorem JH{sf:aL}{st:aj}(m:args.length=sf.sJ)
  (h:W S (sf.mode.AJ st.length wl) (sf.mode.tf st.length ah) sf.results (λx s=>∃v,K6 sf.results x s=some v/\sf.mode.oJ st v s.st=some r) [.code sf.body] .normal (uG sf args st)) :
  eN (aZ S) wl ah sf args st=some r:=by
 simp only[eN,m,bh];obtain⟨X,n,H,v,g,l⟩:=h;simp only[rP]at H;cases j:jU (aZ S) (sf.mode.AJ st.length wl) (sf.mode.tf st.length ah) sf.results sf.body (uG sf args st) with
 |none=>rw[j]at H;cases H|some y=>
  obtain⟨x,s⟩:=y;rw[j]at H;simp only at H;cases H;simp only[g,l]
theorem XA{f:Nat}{g:aL}(j:S f=some g){st:aj}(H:Ac g args=false)(l:args.length=g.sJ)
  (h:W S (g.mode.AJ st.length wl) (g.mode.tf st.length ah) g.results (λx s=>∃v,K6 g.results x s=some v/\g.mode.oJ st v s.st=some r) [.code g.body] .normal (uG g args st)) :
  (aZ S).call wl ah f args st=some r:=by
 rw[Fw,j];simp only[fU,H,acC,br];exact JH l h
theorem XB{f:Nat}{sf:aL}(m:S f=some sf)(H:sf.mode=.pure){st:aj}(o:AV.aB args=true)(n:args.length=sf.sJ)(p:v.aH=true)
  (h:W S 0 0 sf.results (λx s=>K6 sf.results x s=some v) [.code sf.body] .normal (uG sf args [])) :
  (aZ S).call wl ah f args st=some (v,st):=by
 rw[Fw,m];have l:Ac sf args=true:=by simp[Ac,H,o]
 simp only[fU,l,bh];have:=JH (S:=S) (wl:=0) (ah:=0) (sf:=sf) (args:=args) (st:=[]) n (r:=(v,[])) (by
  rw[H];obtain⟨X,q,g,j⟩:=h;exact⟨X,q,g,v,j,by simp[Mode.oJ,p]⟩)
 rw[this]
 rfl
def WO(S:Nat->Option aL)(wl ah:Nat)(rs:List jv)(Q:Ex->St->Prop)(l:List ct)(T:List Nat)(k:List uQ):Option St->Prop
 |some s=>W S wl ah rs Q (.dK l T::k) .normal s|none=>False
def WC(S:Nat->Option aL)(wl ah:Nat)(rs:List jv)(Q:Ex->St->Prop)(m n:List Nat)(a b:aT)(k:List uQ)(s:St):Option Bool->Prop
 |some true=>W S wl ah rs Q (.code a::k) .normal { s with env:=kB m s.env }|some false=>W S wl ah rs Q (.code b::k) .normal { s with env:=kB n s.env }|none=>False
def WV(S:Nat->Option aL)(wl ah:Nat)(rs:List jv)(Q:Ex->St->Prop)(k:List uQ)(st:aj):Option AV->Prop
 |some v=>W S wl ah rs Q k (.ret v) ⟨[],[],st⟩|none=>False
theorem apy{o:ct}:W S wl ah rs Q (.dK (o::l) T::k) .normal s↔WO S wl ah rs Q l T k (jA (aZ S) wl ah o s):=by
 rw[auI];cases jA (aZ S) wl ah o s with
 |none=>simp[WO]|some g=>simp[WO]
theorem afz{c:Src}{a b:aT}:W S wl ah rs Q (.code (.cond c m a n b)::k) .normal s↔WC S wl ah rs Q m n a b k { s with env:=pG s.env c } (vG s.env c):=by
 rw[aj0];cases vG s.env c with
 |none=>simp[WC]|some t=>cases t<;>simp[WC]
theorem aj2:W S wl ah rs Q (.code .ret::k) .normal s↔WV S wl ah rs Q k s.st (CC s rs):=by
 rw[apw];cases CC s rs with
 |none=>simp[WV]|some v=>simp[WV]
theorem afA:WO S wl ah rs Q l T k (some s)↔W S wl ah rs Q (.dK l T::k) .normal s:=Iff.rfl
theorem afB:WO S wl ah rs Q l T k none↔False:=Iff.rfl
theorem aj3{c:Prop} [Decidable c]:WO S wl ah rs Q l T k (if c then some s else none)↔c/\W S wl ah rs Q (.dK l T::k) .normal s:=by
 by_cases h:c<;>simp[h,WO]
theorem afC{a b:aT}:WC S wl ah rs Q m n a b k s (some true)↔W S wl ah rs Q (.code a::k) .normal { s with env:=kB m s.env }:=Iff.rfl
theorem aaC{a b:aT}:WC S wl ah rs Q m n a b k s (some false)↔W S wl ah rs Q (.code b::k) .normal { s with env:=kB n s.env }:=Iff.rfl
theorem afD{st:aj}:WV S wl ah rs Q k st (some v)↔W S wl ah rs Q k (.ret v) ⟨[],[],st⟩:=Iff.rfl
end Ax
namespace Ax
open Go
attribute [simp ↓] apu apv ajT ajU ajV ajW afv afw aaz aaA ajX apy ajY ajZ aj2 apx aaB afz afy
attribute [simp] afA afB aj3 afC aaC afD
attribute [simp] jA pZ xO O9 pG CB fZ.bM kB fz.ai AV.ai AV.cC wW CC Dp IG
 AV.aH AV.aB dZ AF Hu uG Mode.AJ Mode.tf Mode.oJ K6 LI vG bH cut kS iF pH AI fz.s9
variable {S:Nat->Option aL}{wl ah:Nat}{rs:List jv}{Q:Ex->St->Prop}{k:List uQ}{st:aj}{bx:bK}
def uR(st:aj)(bx:bK):Option AV->Option (fz×aj×bK)
 |some v=>some (.val v,st,bx)|none=>none
variable{v x:AV}{g id C i n j off bytes h:Nat}{r:List (List AV)}{l:List UInt8}{op:BinOp}{agg:Bool}{zero:List AV}
@[simp]theorem anm:uR st bx (some v)=some (.val v,st,bx):=rfl
@[simp]theorem ano:uR st bx none=none:=rfl
@[simp]theorem apz{c:Prop} [Decidable c]:uR st bx (if c then some v else none)=if c then some (.val v,st,bx) else none:=by by_cases h:c<;>simp[h]
theorem zm{c b:aT}{s:St}(h:c=b):W S wl ah rs Q (.code (.loop c)::k) .normal s↔W S wl ah rs Q (.code b::.yx c::k) .normal s:=by
 rw[aj1];subst h;exact Iff.rfl
@[simp]theorem aj4:fA st .aF=some []:=rfl
@[simp]theorem aj5:fA st .oI=some []:=rfl
@[simp]theorem aj6:fA st (.dV g r)=some r:=rfl
@[simp]theorem aj7:fA st (.ju g r)=some r:=rfl
@[simp]theorem anp:fA st (.mu id C)=match st[id]? with|some (.rows v _ rows)=>if v=C then some rows else none|_=>none:=rfl
@[simp]theorem afE:dG st .aF=some []:=rfl
@[simp]theorem afF:dG st .oI=some []:=rfl
@[simp]theorem afG:dG st (.dV g r)=some r:=rfl
@[simp]theorem afH:dG st (.ju g r)=some r:=rfl
@[simp]theorem afI:dG st (.str l)=some (qu l):=rfl
@[simp]theorem apC:td st .str (.str l)=some l.length:=rfl
@[simp]theorem afJ:td st .sl v=(fA st v).map List.length:=by
 cases v<;>simp only[td]<;>cases fA st _<;>rfl
@[simp]theorem asA:td st .mp (.map id)=match st[id]? with|some (.map E)=>some E.length|_=>none:=rfl
def HF(g:Nat)(st:aj)(x:AV)(i:Int):Option AV:=match x with
 |.dV s rows|.ju s rows=>if s=g/\0<=i/\i<rows.length then some (.tM g rows i.toNat 0) else none
 |.mu id C=>match st[id]? with
  |some (.rows v s rows)=>if v=C/\s=g/\0<=i/\i<rows.length then some (.ptr id C i.toNat 0) else none
  |_=>none
 |_=>none
@[simp]theorem apD{s:Nat}{i:Int}:HF g st (.dV s r) i=if s=g/\0<=i/\i<r.length then some (.tM g r i.toNat 0) else none:=rfl
@[simp]theorem apE{s:Nat}{i:Int}:HF g st (.ju s r) i=if s=g/\0<=i/\i<r.length then some (.tM g r i.toNat 0) else none:=rfl
@[simp]theorem asB{i:Int}:HF g st (.mu id C) i=match st[id]? with|some (.rows v s rows)=>if v=C/\s=g/\0<=i/\i<rows.length then some (.ptr id C i.toNat 0) else none|_=>none:=rfl
def v8(sz bytes:Nat)(s:AV)(new:List (List AV)):Option AV:=
 if cr sz new=true then match s with
  |.aF|.oI=>if new.isEmpty then some s else if new.length*bytes<=cZ then some (.ju sz new) else none
  |.ju l jf=>if l=sz/\(jf.length+new.length)*bytes<=cZ then some (.ju sz (jf++new)) else none
  |_=>none else none
@[simp]theorem auK{e:fz}:bz wl ah .move [e] st bx=some (e,st,bx):=rfl
@[simp]theorem auL{b:Bool}{x y:fz}:bz wl ah .pick [.val (.bool b),x,y] st bx=some (if b then x else y,st,bx):=rfl
@[simp]theorem ayI{y:AV}:bz wl ah (.bin op) [.val x,.val y] st bx=uR st bx (Hv op x y):=by
 simp only[bz];cases Hv op x y<;>rfl
@[simp]theorem ayJ{kk:EqK}{neg:Bool}{y:AV}:bz wl ah (.eqv kk neg) [.val x,.val y] st bx=uR st bx ((MM kk x y).map λb=>.bool (if neg then !b else b)):=by
 simp only[bz];cases MM kk x y<;>rfl
@[simp]theorem aAN{op:UnOp}:bz wl ah (.un op) [.val x] st bx=uR st bx (unV op x):=by
 simp only[bz];cases unV op x<;>rfl
@[simp]theorem auM{kk l:IntKind}{n:Int}:bz wl ah (.conv kk) [.val (.int l n)] st bx=some (.val (.int kk (kk.wrap n)),st,bx):=rfl
@[simp]theorem asC:bz wl ah .Zz [.val x] st bx=uR st bx (((fA st x).bind HX).map .str):=by
 simp only[bz];cases fA st x with
 |none=>rfl|some r=>simp only[age];cases HX r<;>rfl
@[simp]theorem aiw{l:LK}:bz wl ah (.len l) [.val x] st bx=uR st bx ((td st l x).map λn=>.int .i64 n):=by
 simp only[bz];cases td st l x<;>rfl
@[simp]theorem apF{M:Bool}{kk:IntKind}{a b:Int}:bz wl ah (.Fu M) [.val (.int kk a),.val (.int kk b)] st bx=some (.val (.int kk (if M then (if b > a then b else a) else (if b<a then b else a))),st,bx):=by
 simp[bz]
@[simp]theorem auN:bz wl ah .nilCheck [.fp j i] st bx=some (.fp j i,st,bx):=rfl
@[simp]theorem auO{a b c d:Nat}:bz wl ah .nilCheck [.val (.ptr a b c d)] st bx=some (.val (.ptr a b c d),st,bx):=rfl
@[simp]theorem auP{a:Nat}{c d:Nat}:bz wl ah .nilCheck [.val (.tM a r c d)] st bx=some (.val (.tM a r c d),st,bx):=rfl
@[simp]theorem anq{vs:List AV}:bz wl ah (.extract i) [.val (.eY vs)] st bx=uR st bx vs[i]?:=by
 simp only[bz];cases vs[i]?<;>rfl
@[simp]theorem asD{C:List AV}:bz wl ah (.field off n agg) [.val (.agg C)] st bx=uR st bx ((cut C off n).bind (bH agg)):=by
 simp only[bz];cases cut C off n with
 |none=>rfl|some r=>simp only[age];cases bH agg r<;>rfl
@[simp]theorem asE{parts:List (Nat×Nat)}{l:List fz}:bz wl ah (.build zero parts) l st bx=uR st bx (((kS l).bind (kq zero parts)).map .agg):=by
 simp only[bz];cases kS l with
 |none=>rfl|some vs=>simp only[age];cases kq zero parts vs<;>rfl
@[simp]theorem ayK{parts:List Nat}{l:List fz}:bz wl ah (.lit g n zero parts) l st bx =
  uR st bx (((kS l).bind λvs=>iK g (acp n zero) parts (AV.cC vs)).bind λrows=>if rows.all AV.aB&&rows.all AV.bC then some (if n=0 then .oI else .dV g rows) else none):=by
 simp only[bz];cases kS l with
 |none=>rfl|some vs=>
  simp only[age];cases iK g (acp n zero) parts (AV.cC vs) with
  |none=>rfl|some rows=>simp only[age];split<;>rfl
@[simp]theorem afK:bz wl ah (.fieldAddr off) [.fp j i] st bx=some (.fp j (i+off),st,bx):=rfl
@[simp]theorem afL{a b c d:Nat}:bz wl ah (.fieldAddr off) [.val (.ptr a b c d)] st bx=some (.val (.ptr a b c (d+off)),st,bx):=rfl
@[simp]theorem afM{a c d:Nat}:bz wl ah (.fieldAddr off) [.val (.tM a r c d)] st bx=some (.val (.tM a r c (d+off)),st,bx):=rfl
@[simp]theorem aix{i:Int}:bz wl ah (.indexAddr g) [.val x,.val (.int .i64 i)] st bx=uR st bx (HF g st x i):=by
 cases x<;>try rfl
 case dV s r=>simp only[bz,HF,Ee,aA,and_assoc];split<;>rfl
 case ju s r=>simp only[bz,HF,Ee,aA,and_assoc];split<;>rfl
 case mu id C=>
  simp only[bz,HF,Ee,aA,and_assoc];cases st[id]? with
  |none=>rfl|some O=>cases O with
   |rows v s r=>simp only;split<;>rfl|map E=>rfl
@[simp]theorem asF{i:Int}:bz wl ah .index [.val (.str l),.val (.int .i64 i)] st bx=if 0<=i then uR st bx (l[i.toNat]?.map λb=>.int .u8 b.toNat) else none:=by
 simp only[bz];cases l[i.toNat]?<;>rfl
@[simp]theorem aE{p:AV}:bz wl ah (.load agg n false) [.val p] st bx=uR st bx ((gm st p n).bind λC=>bH agg (AV.cC C)):=by
 simp only[bz];cases gm st p n with
 |none=>rfl|some C=>simp only[age,acC,br];cases bH agg (AV.cC C)<;>rfl
@[simp]theorem asG:bz wl ah (.alloc zero) [] st bx=some (.val (.ptr st.length 0 0 0),st++[.rows 0 zero.length [zero]],bx):=rfl
@[simp]theorem apG{s:AV}:bz wl ah (.append g bytes) [.val s,.val x] st bx=uR st bx ((dG [] x).bind (v8 g bytes s)):=by
 simp only[bz];cases dG [] x with
 |none=>rfl|some new=>
  simp only[age,v8];by_cases H:cr g new=true
  ·simp only[H,bh];cases s<;>simp only[Ee,aA]<;>(try rfl)<;>repeat' split
   all_goals rfl
  simp only[H];rfl
@[simp]theorem apH{n c:Int}:bz wl ah (.yV g bytes zero false) [.val (.int .i64 n),.val (.int .i64 c)] st bx =
  if 0<=n/\n<=c/\c*bytes<=cZ/\zero.length=g then (if AV.aB zero then some (.val (.ju g (acp n.toNat zero)),st,bx) else none) else none:=rfl
@[simp]theorem anr{n c:Int}:bz wl ah (.DZ g bytes zero) [.val (.int .i64 n),.val (.int .i64 c)] st bx =
  if 0<=n/\n<=c/\c*bytes<=cZ/\zero.length=g/\AV.aB zero=true then some (.val (.raw g (acp n.toNat zero)),st,bx) else none:=rfl
@[simp]theorem Mb{n c:Int}:bz wl ah (.yV g bytes zero true) [.val (.int .i64 n),.val (.int .i64 c)] st bx =
  if 0<=n/\n<=c/\c*bytes<=cZ/\zero.length=g then some (.val (.mu st.length 0),st++[.rows 0 g (acp n.toNat zero)],bx) else none:=rfl
@[simp]theorem ax{p:AV}:bz wl ah (.store n) [.val p,.val v] st bx=if v.cells.length=n/\AV.bC v.cells=true then (fR wl ah st p v.cells).map λs=>(.none,s,bx) else none:=by
 simp only[bz,Ee,aA];split;cases fR wl ah st p v.cells<;>rfl
 rfl
@[simp]theorem aj8{cells:List AV}:fR wl ah st (.ptr id C i j) cells=match st[id]? with
  |some (.rows v g rows)=>if v=C/\bu wl ah id cells=true then rows[i]?.bind λr=>if j+cells.length<=r.length then some (st.set id (.rows v g (rows.set i (ay r j cells)))) else none else none
  |_=>none:=by
 simp only[fR];cases st[id]? with
 |none=>rfl|some O=>cases O with
  |map E=>rfl|rows v g rows=>
   simp only[Ee,aA];split;cases rows[i]?<;>rfl
   rfl
attribute [simp] bu
@[simp]theorem yy{h:Int}:bz wl ah (.vF g) [.val (.mu id C),.val (.int .i64 h)] st bx=match st[id]? with
  |some (.rows v s rows)=>if v=C/\s=g/\0<=h/\h<=rows.length/\wl<=id then some (.val (.mu id (v+1)),st.set id (.rows (v+1) s (rows.take h.toNat)),bx) else none
  |_=>none:=by
 simp only[bz,Ee,aA,and_assoc];cases st[id]? with
 |none=>rfl|some O=>cases O<;>rfl
@[simp]theorem yz:bz wl ah (.jH g bytes) [.val (.mu id C),.val x] st bx=(dG st x).bind λnew=>if cr g new=true then match st[id]? with
  |some (.rows v l jf)=>if v=C/\l=g/\(jf.length+new.length)*bytes<=cZ/\wl<=id/\(ah<=id\/new.all AV.aB=true) then some (.val (.mu id (v+1)),st.set id (.rows (v+1) g (jf++new)),bx) else none
  |_=>none else none:=by
 simp only[bz,tR,Ee,aA,Bool.or_eq_true,and_assoc];cases dG st x with
 |none=>rfl|some new=>rfl
@[simp]theorem auQ:bz wl ah .aey [.val .aF] st bx=some (.val (.int .i64 0),st,bx):=rfl
@[simp]theorem B6{s:AV}{n:Int}:bz wl ah (.wU g bytes zero) [.val s,.val (.int .i64 n)] st bx =
  if 0<=n/\n*bytes<=cZ/\zero.length=g/\AV.aB zero=true then tR wl ah g bytes s (acp n.toNat zero) st bx else none:=rfl
@[simp]theorem rQ:bz wl ah (.jH g bytes) [.val .aF,.val x] st bx=(dG st x).bind λnew=>if cr g new=true then (if new.isEmpty=true then some (.val .aF,st,bx) else if new.length*bytes<=cZ then some (.val (.mu st.length 0),st++[.rows 0 g new],bx) else none) else none:=by
 simp only[bz];cases dG st x with
 |none=>rfl|some new=>rfl
@[simp]theorem aj9:bz wl ah (.jH g bytes) [.val .oI,.val x] st bx=(dG st x).bind λnew=>if cr g new=true then (if new.length*bytes<=cZ then some (.val (.mu st.length 0),st++[.rows 0 g new],bx) else none) else none:=by
 simp only[bz];cases dG st x with
 |none=>rfl|some new=>rfl
@[simp]theorem asH:bz wl ah (.yc j agg n false) [.fp j i] st bx=uR st bx ((bx[j]?.bind λh=>cut h i n).bind λC=>bH agg (AV.cC C)):=by
 simp only[bz,bh];cases bx[j]? with
 |none=>rfl|some h=>
  simp only[age];cases cut h i n with
  |none=>rfl|some C=>simp only[age,acC,br];cases bH agg (AV.cC C)<;>rfl
@[simp]theorem apI:bz wl ah (.yc j agg n true) [.fp j i] st bx=(bx[j]?.bind λh=>(cut h i n).bind λC=>(bH agg C).map λv=>(.val v,st,bx.set j (ay h i (C.map AV.gi)))):=by
 simp only[bz,bh];cases bx[j]? with
 |none=>rfl|some h=>
  simp only[age];cases cut h i n with
  |none=>rfl|some C=>simp only[age];cases bH agg C<;>rfl
@[simp]theorem apJ:bz wl ah (.xM j n) [.fp j i,.val v] st bx=if v.cells.length=n/\AV.bC v.cells=true then bx[j]?.bind λh=>(if i+n<=h.length then some (.none,st,bx.set j (ay h i v.cells)) else none) else none:=by
 simp only[bz,Ee,aA,true_and];split;cases bx[j]?<;>rfl
 rfl
@[simp]theorem apK:bz wl ah (.xN j zero) [] st bx=if j<bx.length then some (.fp j 0,st,bx.set j zero) else none:=rfl
@[simp]theorem ayL:bz wl ah (.box n) [.val v] st bx=if v.cells.length=n/\AV.bC v.cells=true then some (.val (.ptr st.length 0 0 0),st++[.rows 0 n [v.cells]],bx) else none:=by
 simp only[bz,Ee,aA]
@[simp]theorem auR:bz wl ah (.K4 j n) [.val v] st bx=if j<bx.length/\v.cells.length=n/\AV.bC v.cells=true then some (.fp j 0,st,bx.set j v.cells) else none:=by
 simp only[bz,Ee,aA,and_assoc]
@[simp]theorem aka{f:Nat}{l:List fz}:bz wl ah (.makeFunc f n) l st bx=uR st bx ((kS l).map λvs=>.fn f (AV.cC (vs.take n)) (AV.cC (vs.drop n))):=by
 simp only[bz];cases kS l<;>rfl
@[simp]theorem ans{g:Bool}{b:Int}:bz wl ah (.slice g false true false h) [.val x,.val (.int .i64 b)] st bx=(td st (if g then .str else .sl) x).bind λ_=>uR st bx (mL g h x 0 b none):=by
 simp only[bz];cases td st (if g then LK.str else LK.sl) x with
 |none=>rfl|some n=>simp only[wW,acC,br,bh,age];cases mL g h x 0 b none<;>rfl
@[simp]theorem ant{g:Bool}{a:Int}:bz wl ah (.slice g true false false h) [.val x,.val (.int .i64 a)] st bx=(td st (if g then .str else .sl) x).bind λn=>uR st bx (mL g h x a n none):=by
 simp only[bz];cases td st (if g then LK.str else LK.sl) x with
 |none=>rfl|some n=>simp only[wW,acC,br,bh,age];cases mL g h x a n none<;>rfl
@[simp]theorem anu{g:Bool}{a b:Int}:bz wl ah (.slice g true true false h) [.val x,.val (.int .i64 a),.val (.int .i64 b)] st bx=(td st (if g then .str else .sl) x).bind λ_=>uR st bx (mL g h x a b none):=by
 simp only[bz];cases td st (if g then LK.str else LK.sl) x with
 |none=>rfl|some n=>simp only[wW,bh,age];cases mL g h x a b none<;>rfl
@[simp]theorem akb{s:List UInt8}{a b:Int}:mL true g (.str s) a b none=if 0<=a/\a<=b/\b<=s.length then some (.str ((s.take b.toNat).drop a.toNat)) else none:=by
 simp[mL,and_assoc]
attribute [simp] AV.gi
@[simp]theorem apL{kk:IntKind}{a b:Int}:Hv op (.int kk a) (.int kk b)=nP op kk a b:=by simp[Hv]
@[simp]theorem auS{a b:List UInt8}:Hv .add (.str a) (.str b)=if a.length+b.length<=4611686018427387904 then some (.str (a++b)) else none:=rfl
@[simp]theorem auT{a b:List UInt8}:Hv .eql (.str a) (.str b)=some (.bool (decide (a=b))):=by simp only[Hv];by_cases h:a=b<;>simp[h]
@[simp]theorem auU{a b:List UInt8}:Hv .neq (.str a) (.str b)=some (.bool (!decide (a=b))):=by simp only[Hv];by_cases h:a=b<;>simp[h]
@[simp]theorem asI{b:Bool}:unV .not (.bool b)=some (.bool (!b)):=rfl
@[simp]theorem asJ{kk:IntKind}{a:Int}:unV .neg (.int kk a)=some (.int kk (kk.wrap (0-a))):=rfl
@[simp]theorem apM{a b:Bool}:MM (.sc .bool) (.bool a) (.bool b)=some (decide (a=b)):=by cases a<;>cases b<;>rfl
@[simp]theorem asK{kk:IntKind}{a b:Int}:MM (.sc .int) (.int kk a) (.int kk b)=some (decide (a=b)):=by simp[MM,K5];by_cases h:a=b<;>simp[h]
@[simp]theorem asL{a b:List UInt8}:MM (.sc .str) (.str a) (.str b)=some (decide (a=b)):=by simp[MM,K5];by_cases h:a=b<;>simp[h]
@[simp]theorem apN{K:List SK}{a b:List AV}:MM (.flat K) (.agg a) (.agg b)=KX K a b:=rfl
attribute [simp] KX
@[simp]theorem apO{a b:Bool}:K5 .bool (.bool a) (.bool b)=some (decide (a=b)):=by cases a<;>cases b<;>rfl
@[simp]theorem asM{kk:IntKind}{a b:Int}:K5 .int (.int kk a) (.int kk b)=some (decide (a=b)):=by simp[K5];by_cases h:a=b<;>simp[h]
@[simp]theorem asN{a b:List UInt8}:K5 .str (.str a) (.str b)=some (decide (a=b)):=by simp[K5];by_cases h:a=b<;>simp[h]
section
variable {kk:IntKind}{a b:Int}
@[simp]theorem auV:nP .add kk a b=some (.int kk (kk.wrap (a+b))):=rfl
@[simp]theorem auW:nP .sub kk a b=some (.int kk (kk.wrap (a-b))):=rfl
@[simp]theorem auX:nP .mul kk a b=some (.int kk (kk.wrap (a*b))):=rfl
@[simp]theorem auY:nP .quo kk a b=if b=0 then none else some (.int kk (kk.wrap (a.tdiv b))):=rfl
@[simp]theorem auZ:nP .rem kk a b=if b=0 then none else some (.int kk (a.tmod b)):=rfl
@[simp]theorem au0:nP .and kk a b=some (.int kk (kk.wrap ((BitVec.ofInt kk.bits a &&& BitVec.ofInt kk.bits b).toNat))):=rfl
@[simp]theorem au1:nP .eql kk a b=some (.bool (decide (a=b))):=by simp only[nP];by_cases h:a=b<;>simp[h]
@[simp]theorem au2:nP .neq kk a b=some (.bool (!decide (a=b))):=by simp only[nP];by_cases h:a=b<;>simp[h]
@[simp]theorem au3:nP .lss kk a b=some (.bool (decide (a<b))):=rfl
@[simp]theorem au4:nP .leq kk a b=some (.bool (decide (a<=b))):=rfl
@[simp]theorem au5:nP .gtr kk a b=some (.bool (decide (b<a))):=rfl
@[simp]theorem au6:nP .geq kk a b=some (.bool (decide (b<=a))):=rfl
end
@[simp]theorem anv{rows:List (List AV)}{kk:Nat}:gm st (.tM g rows i kk) n=rows[i]?.bind λr=>cut r kk n:=by
 simp only[gm];cases rows[i]?<;>rfl
@[simp]theorem anw{kk:Nat}:gm st (.ptr id C i kk) n=match st[id]? with
  |some (.rows v _ rows)=>if v=C then rows[i]?.bind λr=>cut r kk n else none
  |_=>none:=by
 simp only[gm];cases st[id]? with
 |none=>rfl|some O=>cases O with
  |rows v s r=>
   simp only;split;cases r[i]?<;>rfl
   rfl
  |map E=>rfl
@[simp]theorem akc(b:Bool):AV.cells (.bool b)=[.bool b]:=rfl
@[simp]theorem aiy(b:Bool):AV.cM (.bool b)=true:=rfl
@[simp]theorem anx(kk:IntKind)(n:Int):AV.cells (.int kk n)=[.int kk n]:=rfl
@[simp]theorem akd(kk:IntKind)(n:Int):AV.cM (.int kk n)=true:=rfl
@[simp]theorem anz(l:List UInt8):AV.cells (.str l)=[.str l]:=rfl
@[simp]theorem ake(l:List UInt8):AV.cM (.str l)=true:=rfl
@[simp]theorem afN:AV.cells (.eP)=[.eP]:=rfl
@[simp]theorem aef:AV.cM (.eP)=true:=rfl
@[simp]theorem aiz:AV.cells (.aF)=[.aF]:=rfl
@[simp]theorem afO:AV.cM (.aF)=true:=rfl
@[simp]theorem afP:AV.cells (.gu)=[.gu]:=rfl
@[simp]theorem aeg:AV.cM (.gu)=true:=rfl
@[simp]theorem aiA:AV.cells (.je)=[.je]:=rfl
@[simp]theorem afQ:AV.cM (.je)=true:=rfl
@[simp]theorem aiB:AV.cells (.lz)=[.lz]:=rfl
@[simp]theorem afR:AV.cM (.lz)=true:=rfl
@[simp]theorem anA(s:Nat)(r:List (List AV)):AV.cells (.dV s r)=[.dV s r]:=rfl
@[simp]theorem akf(s:Nat)(r:List (List AV)):AV.cM (.dV s r)=true:=rfl
@[simp]theorem anB(s:Nat)(r:List (List AV)):AV.cells (.ju s r)=[.ju s r]:=rfl
@[simp]theorem akg(s:Nat)(r:List (List AV)):AV.cM (.ju s r)=true:=rfl
@[simp]theorem anC:AV.cells (.oI)=[.oI]:=rfl
@[simp]theorem akh:AV.cM (.oI)=true:=rfl
@[simp]theorem apP(a b:Nat):AV.cells (.mu a b)=[.mu a b]:=rfl
@[simp]theorem anD(a b:Nat):AV.cM (.mu a b)=true:=rfl
@[simp]theorem anE(a b c d:Nat):AV.cells (.ptr a b c d)=[.ptr a b c d]:=rfl
@[simp]theorem aki(a b c d:Nat):AV.cM (.ptr a b c d)=true:=rfl
@[simp]theorem anF(a:Nat)(r:List (List AV))(c d:Nat):AV.cells (.tM a r c d)=[.tM a r c d]:=rfl
@[simp]theorem akj(a:Nat)(r:List (List AV))(c d:Nat):AV.cM (.tM a r c d)=true:=rfl
@[simp]theorem anG(a:Nat):AV.cells (.map a)=[.map a]:=rfl
@[simp]theorem akk(a:Nat):AV.cM (.map a)=true:=rfl
@[simp]theorem apQ(f:Nat)(a b:List AV):AV.cells (.fn f a b)=[.fn f a b]:=rfl
@[simp]theorem anH(f:Nat)(a b:List AV):AV.cM (.fn f a b)=true:=rfl
@[simp]theorem akl:AV.cells (.gone)=[.gone]:=rfl
@[simp]theorem aiC:AV.cM (.gone)=true:=rfl
@[simp]theorem anI(C:List AV):AV.cells (.agg C)=C:=rfl
@[simp]theorem afS:AV.bC []=true:=rfl
@[simp]theorem aeh(a:AV)(l:List AV):AV.bC (a::l)=(a.cM&&AV.bC l):=rfl
attribute [simp] iK kq ay
theorem dY{n:Int}(h : -9223372036854775808<=n)(H:n<=9223372036854775807):IntKind.i64.wrap n=n:=IntWalk.i64_in n ⟨h,H⟩
theorem wk(k:Nat)(h:k<9000000000000000000):IntKind.i64.wrap ((k:Int)+1)=((k+1:Nat):Int):=by rw[dY]<;>omega
end Ax
namespace Ax
open Go
variable {S:Nat->Option aL}{wl ah:Nat}{rs:List jv}{Q:Ex->St->Prop}{k:List uQ}{st:aj}{bx:bK}
def HH(rs:List jv)(m:Mode)(st:aj)(r:AV×aj)(x:Ex)(s:St):Prop:=∃v,K6 rs x s=some v/\m.oJ st v s.st=some r
variable{args:List AV}{r:List (List AV)}{m:Mode}{v:AV}{g sz H:Nat}
theorem aG{f:Nat}{sf:aL}(g:S f=some sf)(H:Ac sf args=false)(j:args.length=sf.sJ){r:AV×aj}
  (h:W S (sf.mode.AJ st.length wl) (sf.mode.tf st.length ah) sf.results (HH sf.results sf.mode st r) [.code sf.body] .normal (uG sf args st)) :
  (aZ S).call wl ah f args st=some r:=XA g H j h
@[simp]theorem Qt{r:AV×aj}{s:St}:HH rs m st r (.ret v) s↔m.oJ st v s.st=some r:=by
 simp[HH,K6]
@[simp]theorem Qu{r:AV×aj}{s:St}:HH rs m st r .normal s↔∃v,CC s rs=some v/\m.oJ st v s.st=some r:=Iff.rfl
def Qv(rs:List jv)(v:AV)(x:Ex)(s:St):Prop:=K6 rs x s=some v
@[simp]theorem anJ{u:AV}{s:St}:Qv rs v (.ret u) s↔u=v:=by simp[Qv,K6]
@[simp]theorem anK{s:St}:Qv rs v .normal s↔CC s rs=some v:=Iff.rfl
theorem bE{f:Nat}{sf:aL}(H:S f=some sf)(j:sf.mode=.pure)(l:AV.aB args=true)(g:args.length=sf.sJ)(p:v.aH=true)
  (h:W S 0 0 sf.results (Qv sf.results v) [.code sf.body] .normal (uG sf args [])) :
  (aZ S).call wl ah f args st=some (v,st):=XB H j l g p h
theorem apR{l:Type}{c b:aT}(h:c=b)(f:l->St)(I:l->Prop)(j:l->Nat)
  (round:∀a,I a->(∀g,I g->j g<j a->W S wl ah rs Q (.code (.loop c)::k) .normal (f g))->W S wl ah rs Q (.code b::.yx c::k) .normal (f a)) :
  ∀a,I a->W S wl ah rs Q (.code (.loop c)::k) .normal (f a):=by
 have key:∀n a,j a=n->I a->W S wl ah rs Q (.code (.loop c)::k) .normal (f a):=by
  intro n;induction n using Nat.strongRecOn with
  |_ n m=>
   intro a o H;rw[zm h];exact round a H λg p F=>m (j g) (by omega) g rfl p
 exact λa H=>key _ a rfl H
def aY:AV->List (List AV)
 |.dV _ r|.ju _ r=>r|_=>[]
def bf:AV->Bool
 |.aF|.oI|.dV _ _|.ju _ _=>true|_=>false
def cN(sz:Nat):AV->Bool
 |.aF|.oI=>true|.dV s r|.ju s r=>s==sz&&cr sz r|_=>false
@[simp]theorem JI(v:AV):aY v.ai=aY v:=by cases v<;>simp[aY,AV.ai]
@[simp]theorem vq(v:AV):bf v.ai=bf v:=by cases v<;>simp[bf,AV.ai]
@[simp]theorem Mc(sz:Nat)(v:AV):cN sz v.ai=cN sz v:=by cases v<;>simp[cN,AV.ai]
@[simp]theorem anL:aY .aF=[]:=rfl
@[simp]theorem anM:aY .oI=[]:=rfl
@[simp]theorem XC:aY (.dV g r)=r:=rfl
@[simp]theorem XE:aY (.ju g r)=r:=rfl
@[simp]theorem apS:bf .aF=true:=rfl
@[simp]theorem apT:bf .oI=true:=rfl
@[simp]theorem apU:bf (.dV g r)=true:=rfl
@[simp]theorem apV:bf (.ju g r)=true:=rfl
@[simp]theorem apW:cN g .aF=true:=rfl
@[simp]theorem apX:cN g .oI=true:=rfl
@[simp]theorem ji{s:Nat}:cN sz (.dV s r)=(s==sz&&cr sz r):=rfl
@[simp]theorem apY{s:Nat}:cN g (.ju s r)=(s==g&&cr g r):=rfl
theorem kL(h:cN g v=true):bf v=true:=by cases v<;>simp_all [cN,bf]
@[simp]theorem anN(h:bf v=true):fA st v=some (aY v):=by cases v<;>simp_all [bf,aY]
@[simp]theorem aiD(h:bf v=true):dG st v=some (aY v):=by cases v<;>simp_all [bf,aY]
@[simp]theorem asO{i:Int}(h:cN g v=true):HF g st v i=if 0<=i/\i<(aY v).length then some (.tM g (aY v) i.toNat 0) else none:=by
 by_cases H:0<=i/\i<(aY v).length
 ·rw[af H];cases v<;>simp[cN]at h
  case aF=>have:=H.2;simp[aY]at this;omega
  case oI=>have:=H.2;simp[aY]at this;omega
  case dV s r=>simp only[HF,aY];rw[af ⟨h.1,H⟩]
  case ju s r=>simp only[HF,aY];rw[af ⟨h.1,H⟩]
 ·rw[U H];cases v<;>simp[cN]at h
  case aF=>rfl
  case oI=>rfl
  case dV s r=>simp only[HF];rw[U λc=>H c.2]
  case ju s r=>simp only[HF];rw[U λc=>H c.2]
mutual
theorem JJ:∀v:AV,v.ai.ai=v.ai
 |.ju _ _=>rfl|.raw _ _=>rfl|.agg C=>by simp only[AV.ai];rw[A8 C]|.eY C=>by simp only[AV.ai];rw[A8 C]|.undef|.gone|.bool _|.int _ _|.str _|.eP|.aF|.gu|.je|.lz|.dV _ _|.oI|.mu _ _|.ptr _ _ _ _|.tM _ _ _ _|.map _|.fn _ _ _=>rfl
theorem A8:∀C:List AV,AV.cC (AV.cC C)=AV.cC C
 |[]=>rfl|c::C=>by simp only[AV.cC];rw[JJ c,A8 C]
end
@[simp]theorem vr(v:AV):v.ai.ai=v.ai:=JJ v
@[simp]theorem eC(h:bf v=true):v.aH=true:=by cases v<;>simp_all [bf]
@[simp]theorem apZ(h:bf v=true):v.cells=[v]:=by cases v<;>simp_all [bf,AV.cells]
@[simp]theorem jI(h:bf v=true):v.cM=true:=by cases v<;>simp_all [bf,AV.cM]
def cq(sz:Nat)(r:List (List AV)):AV:=if r.isEmpty then .aF else .ju sz r
@[simp]theorem oe:aY (cq sz r)=r:=by
 cases r<;>rfl
@[simp]theorem dM:bf (cq sz r)=true:=by
 cases r<;>rfl
@[simp]theorem Ih:cN g (cq g r)=cr g r:=by
 cases r<;>simp[cq,cN,cr]
theorem sQ:cq sz []=.aF:=rfl
theorem gP{bytes:Nat}{new:List (List AV)}(h:cr sz new=true)(H:(r.length+new.length)*bytes<=cZ):v8 sz bytes (cq sz r) new=some (cq sz (r++new)):=by
 unfold v8;rw[af h];cases r with
 |nil=>
  cases new with
  |nil=>rfl|cons a l=>simp only[cq,List.isEmpty_nil,bh,amC,acC,br,List.nil_append];rw[af (by simpa using H)]
 |cons b r=>simp only[cq,amC,acC,br,List.cons_append];rw[af ⟨trivial,H⟩]
def rR(v:AV)(lo hi:Nat):AV:=match v with
 |.dV s r|.ju s r=>.dV s ((r.take hi).drop lo)|x=>x
@[simp]theorem anO{j:Nat}{l g:Int}(h:cN j v=true):mL false j v l g none=if 0<=l/\l<=g/\g<=(aY v).length then some (rR v l.toNat g.toNat) else none:=by
 by_cases H:0<=l/\l<=g/\g<=(aY v).length
 ·rw[af H];cases v<;>simp[cN]at h
  case aF=>
   simp[aY]at H;have:l=0/\g=0:=by omega
   obtain⟨rfl,rfl⟩:=this
   rfl
  case oI=>
   simp[aY]at H;have:l=0/\g=0:=by omega
   obtain⟨rfl,rfl⟩:=this
   rfl
  case dV s r=>simp only[aY]at H;simp[mL,rR,h.1,H]
  case ju s r=>simp only[aY]at H;simp[mL,rR,h.1,H]
 ·rw[U H];cases v<;>simp[cN]at h
  case aF=>
   simp only[mL];refine U λh=>H ?_;simp at h;obtain⟨rfl,rfl⟩:=h;simp[aY]
  case oI=>
   simp only[mL];refine U λh=>H ?_;simp at h;obtain⟨rfl,rfl⟩:=h;simp[aY]
  case dV s r=>
   simp only[mL];refine U λh=>H ?_;simp at h;simp only[aY];exact⟨h.1.1.2,h.1.2,h.2⟩
  case ju s r=>
   simp only[mL];refine U λh=>H ?_;simp at h;simp only[aY];exact⟨h.1.1.2,h.1.2,h.2⟩
@[simp]theorem aaD{l:Nat}(h:bf v=true):bf (rR v l H)=true:=by
 cases v<;>simp_all [bf,rR]
@[simp]theorem XF{l:Nat}(h:bf v=true):aY (rR v l H)=((aY v).take H).drop l:=by
 cases v<;>simp_all [bf,rR,aY]
theorem aaE{L:Nat}(h:cr g r=true):cr g ((r.take H).drop L)=true:=by
 simp only[cr,ac3]at *;exact λx l=>h x (agM (agN l))
@[simp]theorem aaF{l:Nat}(h:cN g v=true):cN g (rR v l H)=true:=by
 cases v<;>simp_all [cN,rR,aaE]
def aP(x:List Int):List (List AV):=x.map λn=>[.int .i64 n]
def dI(v:AV):List Int:=(aY v).map λr=>match r with | [.int .i64 n]=>n|_=>0
def mK(v:AV):Bool:=cN 1 v&&(aY v).all λr=>match r with | [.int .i64 _]=>true|_=>false
theorem Ek(X:List Int):((aP X).map λr=>match r with | [AV.int .i64 n]=>n|_=>(0:Int))=X:=by
 induction X with
 |nil=>rfl|cons x X I=>simp only[aP,List.map_cons]at *;rw[I]
@[simp]theorem ap0(x:List Int):(aP x).length=x.length:=by simp[aP]
@[simp]theorem ap1(x:List Int)(i:Nat)(h:i<(aP x).length):(aP x)[i]=[.int .i64 (x[i]'(by simpa using h))]:=by simp[aP]
@[simp]theorem anP(x:List Int):cr 1 (aP x)=true:=by simp[cr,aP]
@[simp]theorem anQ(x:List Int)(k:Nat):List.take k (aP x)=aP (x.take k):=by simp[aP]
@[simp]theorem akm(x:List Bool)(k:Nat):List.take k (x.map λb=>[AV.bool b])=(x.take k).map λb=>[AV.bool b]:=by simp
@[simp]theorem anR(x:List Int)(k:Nat):List.drop k (aP x)=aP (x.drop k):=by simp[aP]
@[simp]theorem aiE(x y:List Int):aP x++aP y=aP (x++y):=by simp[aP]
@[simp]theorem afT(x:List Int)(n:Int):aP x++[[.int .i64 n]]=aP (x++[n]):=by simp[aP]
theorem cY(h:mK v=true):aY v=aP (dI v):=by
 simp only[mK,Ee,ac3]at h;unfold aP dI;rw[List.map_map];conv=>lhs;rw[<-List.map_id (aY v)]
 refine aeY λr H=>?_;have:=h.2 r H;split at this
 rfl
 cases this
@[simp]theorem ap2(v:AV):mK v.ai=mK v:=by simp[mK]
@[simp]theorem asP(v:AV):dI v.ai=dI v:=by simp[dI]
@[simp]theorem DF(h:mK v=true):cN 1 v=true:=by simp only[mK,Ee]at h;exact h.1
@[simp]theorem eA(h:mK v=true):bf v=true:=kL (DF h)
@[simp]theorem au7(x:List Int):mK (cq 1 (aP x))=true:=by simp[mK,aP,cr]
@[simp]theorem ayM(x:List Int):dI (cq 1 (aP x))=x:=by simp only[dI,oe];exact Ek x
@[simp]theorem asQ:mK .aF=true:=rfl
@[simp]theorem au8:dI .aF=[]:=rfl
@[simp]theorem asR(x:List Int):mK (.dV 1 (aP x))=true:=by simp[mK,aP,cr]
@[simp]theorem au9(x:List Int):dI (.dV 1 (aP x))=x:=by simp only[dI,XC];exact Ek x
@[simp]theorem asS(x:List Int):mK (.ju 1 (aP x))=true:=by simp[mK,aP,cr]
@[simp]theorem ava(x:List Int):dI (.ju 1 (aP x))=x:=by simp only[dI,XE];exact Ek x
@[simp]theorem Nn{lo hi:Nat}(h:mK v=true):mK (rR v lo hi)=true:=by
 have g:=eA h;simp only[mK,Ee,ac3]at *;refine⟨aaF h.1,λr H=>?_⟩;rw[XF g]at H;exact h.2 r (agM (agN H))
@[simp]theorem akn{lo hi:Nat}(h:mK v=true):dI (rR v lo hi)=((dI v).take hi).drop lo:=by
 simp[dI,eA h,List.map_take,List.map_drop]
@[simp]theorem ap3(n:Int):mK (.ju 1 [[.int .i64 n]])=true:=rfl
@[simp]theorem ap4(n:Int):mK (.dV 1 [[.int .i64 n]])=true:=rfl
@[simp]theorem ap5(a b:Int):mK (.dV 1 [[.int .i64 a],[.int .i64 b]])=true:=rfl
@[simp]theorem asT(a b:Int):dI (.dV 1 [[.int .i64 a],[.int .i64 b]])=[a,b]:=rfl
@[simp]theorem ap6(a b c:Int):mK (.dV 1 [[.int .i64 a],[.int .i64 b],[.int .i64 c]])=true:=rfl
@[simp]theorem asU(a b c:Int):dI (.dV 1 [[.int .i64 a],[.int .i64 b],[.int .i64 c]])=[a,b,c]:=rfl
@[simp]theorem asV(n:Int):dI (.dV 1 [[.int .i64 n]])=[n]:=rfl
def kG(x:List Bool):List (List AV):=x.map λb=>[.bool b]
@[simp]theorem anS(x:List Bool):(kG x).length=x.length:=by simp[kG]
@[simp]theorem anT(x:List Bool)(i:Nat)(h:i<(kG x).length):(kG x)[i]=[.bool (x[i]'(by simpa using h))]:=by simp[kG]
@[simp]theorem anU(x:List Bool)(i:Nat)(b:Bool):(kG x).set i [.bool b]=kG (x.set i b):=by simp[kG]
@[simp]theorem st0{g:Type}(st:List g)(a:g)(l:List g):(st++a::l)[st.length]?=some a:=by simp
@[simp]theorem qg{g:Type}(st:List g)(a b:g)(l:List g):(st++a::b::l)[st.length+1]?=some b:=by
 rw[acP (by omega)];simp
@[simp]theorem pg{g:Type}(st:List g)(a b c:g)(l:List g):(st++a::b::c::l)[st.length+2]?=some c:=by
 rw[acP (by omega)];simp
@[simp]theorem aAO{g:Type}(st:List g)(a x:g)(l:List g):(st++a::l).set st.length x=st++x::l:=by simp
@[simp]theorem aAP{g:Type}(st:List g)(a b x:g)(l:List g):(st++a::b::l).set (st.length+1) x=st++a::x::l:=by
 rw[akO _ _ (by omega)];simp
@[simp]theorem aAQ{g:Type}(st:List g)(a b c x:g)(l:List g):(st++a::b::c::l).set (st.length+2) x=st++a::b::x::l:=by
 rw[akO _ _ (by omega)];simp
end Ax
namespace Ax
open Go
theorem bN{S:Nat->Option aL}{wl ah:Nat}{rs:List jv}{Q:Ex->St->Prop}{k:List uQ}{g:Type}{c b:aT}{s:St}(h:c=b)(f:g->St)(I:g->Prop)(m:g->Nat)(l:g)(H:s=f l)(r:I l)
  (round:∀a,I a->(∀j,I j->m j<m a->W S wl ah rs Q (.code (.loop c)::k) .normal (f j))->W S wl ah rs Q (.code b::.yx c::k) .normal (f a)) :
  W S wl ah rs Q (.code (.loop c)::k) .normal s:=by
 subst H;exact apR h f I m round l r
def ZA(v:AV):List AV:=(aY v).map λr=>r.headD .undef
def JK(v:AV):Bool:=cN 1 v&&(aY v).all λr=>match r with | [x]=>mK x|_=>false
def dII(v:AV):List (List Int):=(ZA v).map dI
variable{v:AV}
theorem aaG(h:JK v=true):aY v=(ZA v).map λx=>[x]:=by
 simp only[JK,Ee,ac3]at h;unfold ZA;rw[List.map_map];conv=>lhs;rw[<-List.map_id (aY v)]
 refine aeY λr H=>?_;have:=h.2 r H;split at this
 rfl
 cases this
theorem ako(h:JK v=true):∀x∈ZA v,mK x=true:=by
 intro x l;have H:=aaG h;simp only[JK,Ee,ac3]at h;have:[x]∈aY v:=by rw[H];exact List.mem_map.2 ⟨x,l,rfl⟩
 exact h.2 _ this
@[simp]theorem ap8(v:AV):ZA v.ai=ZA v:=by simp[ZA]
@[simp]theorem anV(v:AV):JK v.ai=JK v:=by simp[JK]
@[simp]theorem ap9(v:AV):dII v.ai=dII v:=by simp[dII]
@[simp]theorem afU(h:JK v=true):cN 1 v=true:=by simp only[JK,Ee]at h;exact h.1
@[simp]theorem asW(h:JK v=true):bf v=true:=kL (afU h)
@[simp]theorem asX(v:AV):(dII v).length=(ZA v).length:=by simp[dII]
@[simp]theorem asY(h:JK v=true)(i:Nat)(H:i<(ZA v).length):mK (ZA v)[i]=true:=ako h _ (List.getElem_mem _)
end Ax
namespace Ax
@[simp]theorem cast_eq(a b:Nat):((a:Int)=(b:Int))↔a=b:=Int.natCast_inj
end Ax
namespace Ax
open Go
theorem aaH{S:Nat->Option aL}{f:Nat}{sf:aL}(j:S f=some sf)(l:sf.mode=.pure){args:List AV}(m:AV.aB args=true){v:AV}{st0:aj}(h:(aZ S).call 0 0 f args []=some (v,st0))(wl ah:Nat)(st:aj) :
  (aZ S).call wl ah f args st=some (v,st):=by
 rw[Fw,j]at h ⊢;have g:Ac sf args=true:=by simp[Ac,l,m]
 simp only[fU,g,bh]at h ⊢;cases H:eN (aZ S) 0 0 sf args [] with
 |none=>rw[H]at h;cases h|some x=>rw[H]at h;cases h;rfl
end Ax
namespace Ax
open Go
variable {P:Program}
variable{t:TypeId}{as:List AV}
theorem Th{k:IntKind}(H:P.underlying t=some (.int k))(h:Ty P t as):∃n,as=[.int k n]/\k.min<=n/\n<=k.max:=by
 cases h with
 |int g n a b=>rw[H]at g;cases g;exact⟨n,rfl,a,b⟩|bool g=>rw[H]at g;cases g|str g=>rw[H]at g;cases g|aF g=>rw[H]at g;cases g|oI g=>rw[H]at g;cases g|dV g=>rw[H]at g;cases g|aat g=>rw[H]at g;cases g
theorem akp(H:P.underlying t=some .string)(h:Ty P t as):∃l:List UInt8,as=[.str l]/\l.length<=maxLen:=by
 cases h with
 |str g l j=>exact⟨l,rfl,j⟩|bool g=>rw[H]at g;cases g|int g=>rw[H]at g;cases g|aF g=>rw[H]at g;cases g|oI g=>rw[H]at g;cases g|dV g=>rw[H]at g;cases g|aat g=>rw[H]at g;cases g
theorem aaI{e:TypeId}(H:P.underlying t=some (.slice e))(h:Ty P t as):∃v,as=[v]/\cN (P.cellsOf e) v=true/\(∀r∈aY v,Ty P e r)/\(aY v).length<=maxLen:=by
 cases h with
 |aF g=>exact⟨_,rfl,rfl,λr j=>by simp[aY]at j,by simp[aY]⟩|oI g=>exact⟨_,rfl,rfl,λr j=>by simp[aY]at j,by simp[aY]⟩|dV g rows n m l=>
  rw[H]at g;cases g;refine⟨_,rfl,?_,l,n⟩;simp only[ji,beq_self_eq_true,agC,cr,ac3,cD];exact m
 |bool g=>rw[H]at g;cases g|int g=>rw[H]at g;cases g|str g=>rw[H]at g;cases g|aat g=>rw[H]at g;cases g
theorem avb{e:TypeId}(m:P.underlying t=some (.slice e))(g:P.underlying e=some (.int .i64))(o:P.cellsOf e=1)(h:Ty P t as):∃v,as=[v]/\mK v=true/\(dI v).length<=maxLen/\∀n∈dI v,-9223372036854775808<=n/\n<=9223372036854775807:=by
 obtain⟨v,rfl,a,b,c⟩:=aaI m h;rw[o]at a;refine⟨v,rfl,?_,by simpa [dI] using c,λn j=>?_⟩;simp only[mK,a,agC,ac3];intro r H;obtain⟨n,rfl,_⟩:=Th g (b r H)
 rfl
 simp only[dI,List.mem_map]at j;obtain⟨r,H,rfl⟩:=j;obtain⟨n,rfl,l,u⟩:=Th g (b r H);exact⟨l,u⟩
theorem No{a:AV}(g:∀fs,P.underlying t≠some (.struct fs))(h:TyV P t a):Ty P t [a]:=by
 rcases h with⟨fs,as,H,_⟩|⟨_,H⟩;exact au H (g fs);exact H
theorem Ti{u v:TypeId}(h:aft P [t,u,v] as):∃a b c,as=[a,b,c]/\TyV P t a/\TyV P u b/\TyV P v c:=by
 match as,h with
 |[a,b,c],h=>exact⟨a,b,c,rfl,h.1,h.2.1,h.2.2.1⟩
end Ax
namespace Ax
open Go
noncomputable def Qw (env:tN) (t:Nat):fz:=List.rec (motive:=λ_=>fz) fz.none (λp _ I=>match aiF p.1 t with|true=>p.2|false=>I) env
noncomputable def aaJ (env:tN) (t:Nat) (e:fz):tN:=List.rec (motive:=λ_=>tN) [(t,e)] (λp r I=>match alH p.1 t with
  |false=>(t,e)::p::r|true=>match aiF p.1 t with
   |true=>(t,e)::r|false=>p::I) env
noncomputable def Md (env:tN) (t:Nat):tN:=List.rec (motive:=λ_=>tN) [] (λp _ I=>match aiF p.1 t with|true=>I|false=>p::I) env
theorem JL{k t:Nat}(h:¬k=t):aiF k t=false:=by
 cases l:aiF k t with
 |false=>rfl|true=>exact au (Nat.eq_of_beq_eq_true l) h
theorem El{k t:Nat}(h:k=t):aiF k t=true:=by subst h;exact Nat.beq_refl k
theorem Qx:Qw=dZ:=by
 funext env t;induction env with
 |nil=>rfl|cons p r I=>
  obtain⟨k,e⟩:=p;show (match aiF k t with|true=>e|false=>Qw r t)=dZ ((k,e)::r) t;rw[I];show _=(if k=t then e else dZ r t);by_cases h:k=t;rw[El h,af h];rw[JL h,U h]
theorem aaK:aaJ=AF:=by
 funext env t e;induction env with
 |nil=>rfl|cons p r I=>
  obtain⟨k,x⟩:=p;show (match alH k t with
   |false=>(t,e)::(k,x)::r|true=>match aiF k t with
    |true=>(t,e)::r|false=>(k,x)::aaJ r t e)=AF ((k,x)::r) t e
  rw[I];show _=(if t<k then (t,e)::(k,x)::r else if t=k then (t,e)::r else (k,x)::AF r t e);by_cases h:t<k;have:alH k t=false:=by
   cases l:alH k t with
   |false=>rfl|true=>have:=Nat.le_of_ble_eq_true l;omega
  rw[this,af h];have:alH k t=true:=Nat.ble_eq_true_of_le (by omega);rw[this,U h];by_cases H:t=k;rw[El H.symm,af H];rw[JL (λe=>H e.symm),U H]
theorem Qy:Md=Hu:=by
 funext env t;induction env with
 |nil=>rfl|cons p r I=>
  obtain⟨k,x⟩:=p;show (match aiF k t with|true=>Md r t|false=>(k,x)::Md r t)=(if k=t then Hu r t else (k,x)::Hu r t);rw[I];by_cases h:k=t;rw[El h,af h];rw[JL h,U h]
noncomputable def Qz (v:AV):AV:=match v with
 |.ju g rows=>.dV g rows|.raw _ _=>.gone|.agg C=>(AV.agg C).ai|.eY C=>(AV.eY C).ai|v=>v
theorem QA(v:AV):Qz v=v.ai:=by cases v<;>simp[Qz,AV.ai]
noncomputable def Np (l:List AV):List AV:=List.rec (motive:=λ_=>List AV) [] (λv _ I=>Qz v::I) l
theorem Me(l:List AV):Np l=AV.cC l:=by
 induction l with
 |nil=>rfl|cons v l I=>
  show Qz v::Np l=_;rw[I,QA];rfl
noncomputable def Vh (v:AV):Bool:=match v with
 |.mu _ _|.ptr _ _ _ _|.map _=>false|.agg C=>(AV.agg C).aH|.eY C=>(AV.eY C).aH|.fn f a b=>(AV.fn f a b).aH|_=>true
theorem aaL(v:AV):Vh v=v.aH:=by cases v<;>simp[Vh,AV.aH]
noncomputable def Nq (l:List AV):Bool:=List.rec (motive:=λ_=>Bool) true (λv _ I=>match Vh v with|true=>I|false=>false) l
theorem XG(l:List AV):Nq l=AV.aB l:=by
 induction l with
 |nil=>rfl|cons v l I=>
  show (match Vh v with|true=>Nq l|false=>false)=_;rw[I,aaL];simp only[AV.aB];cases v.aH<;>simp
noncomputable def aaM (e:fz):fz:=match e with|.val v=>.val (Qz v)|.none=>.none|.fp j k=>.fp j k
theorem aaN(e:fz):aaM e=e.ai:=by cases e<;>simp[aaM,fz.ai,QA]
noncomputable def aaO (env:tN) (x:Src):fz:=match x with
 |.tmp t m=>match m with|true=>Qw env t|false=>aaM (Qw env t)
 |.const a=>.val a
theorem Vi:aaO=O9:=by
 funext env x;unfold aaO O9;rw[Qx];cases x with
 |tmp t m=>
  cases m;exact aaN _
  rfl
 |const a=>rfl
noncomputable def A9 (env:tN) (x:Src):tN:=match x with
 |.tmp t m=>match m with|true=>Md env t|false=>env
 |.const _=>env
theorem Mf:A9=pG:=by
 funext env x;unfold A9 pG;rw[Qy];cases x with
 |tmp t m=>cases m<;>rfl|const a=>rfl
noncomputable def xq (l:List Nat) (env:tN):tN:=List.rec (motive:=λ_=>tN->tN) (λenv=>env) (λt _ I env=>I (Md env t)) l env
theorem JM:xq=kB:=by
 funext l;induction l with
 |nil=>rfl|cons t l I=>
  funext env;show xq l (Md env t)=kB l (Hu env t);rw[I,Qy]
noncomputable def Mg (env:tN) (dst:Option Nat) (e:fz):tN:=match dst with|some d=>aaJ env d e|none=>env
theorem aaP:Mg=CB:=by
 funext env d e;unfold Mg CB;rw[aaK]
 rfl
noncomputable def JN (env:tN) (g:Option (Nat×Bool)):Option Bool:=match g with
 |none=>some true|some (t,b)=>match Qw env t with
  |.val (.bool c)=>some (c==b)|.val .undef=>some false|_=>none
theorem QB:JN=pZ:=by
 funext env g;unfold JN pZ;rw[Qx]
 rfl
noncomputable def aaQ (env:tN) (l:List Src):List fz:=List.rec (motive:=λ_=>List fz) [] (λx _ I=>aaO env x::I) l
theorem aaR(env:tN)(l:List Src):aaQ env l=l.map (O9 env):=by
 induction l with
 |nil=>rfl|cons x l I=>
  show aaO env x::aaQ env l=_;rw[I,Vi];rfl
noncomputable def JO (env:tN) (l:List Src):tN:=List.rec (motive:=λ_=>tN->tN) (λenv=>env) (λx _ I env=>I (A9 env x)) l env
theorem XH(l:List Src):∀env,JO env l=l.foldl pG env:=by
 induction l with
 |nil=>exact λ_=>rfl|cons x l I=>
  intro env;show JO (A9 env x) l=_;rw[I,Mf];rfl
noncomputable def afV (O:mC) (wl ah:Nat) (op:fZ) (vals:List fz) (st:aj) (bx:bK):Option (fz×aj×bK):=match op with
 |.move=>match vals with
  |[e]=>some (e,st,bx)|_=>none
 |.load agg n t=>match t with
  |true=>bz wl ah (.load agg n true) vals st bx|false=>match vals with
   |[.val p]=>match gm st p n with
    |some C=>match bH agg (Np C) with|some v=>some (.val v,st,bx)|none=>none
    |none=>none
   |_=>none
 |.yc j agg n t=>match t with
  |true=>bz wl ah (.yc j agg n true) vals st bx|false=>match vals with
   |[.fp J k]=>match aiF j J with
    |true=>match bx[j]? with
     |some h=>match cut h k n with
      |some C=>match bH agg (Np C) with|some v=>some (.val v,st,bx)|none=>none
      |none=>none
     |none=>none
    |false=>none
   |_=>none
 |.call f=>iF O wl ah (pH (.call f) vals) st bx|.wV=>iF O wl ah (pH .wV vals) st bx|op=>bz wl ah op vals st bx
theorem afW(O:mC)(wl ah:Nat)(op:fZ)(vals:List fz)(st:aj)(bx:bK):afV O wl ah op vals st bx=xO O wl ah op vals st bx:=by
 cases op
 case load agg n t=>
  cases t with
  |true=>rfl|false=>
   simp only[afV,xO,bz,Me]
   rfl
 case yc j agg n t=>
  cases t with
  |true=>rfl|false=>
   rcases vals with _|⟨e,_|⟨q,l⟩⟩
   rfl
   cases e with
   |none=>rfl|val v=>rfl|fp J k=>
    simp only[afV,xO,bz,Me];by_cases h:j=J;rw[El h,af h];rfl;rw[JL h,U h]
   cases e<;>rfl
 all_goals rfl
noncomputable def Ii (O:mC) (wl ah:Nat) (o:ct) (s:St):Option St:=
 match JN s.env o.guard with
 |none=>none|some false=>some { s with env:=Mg s.env o.dst (.val .undef) }|some true=>
  match afV O wl ah o.op (aaQ s.env o.args) s.st s.bx with
  |none=>none|some (e,g,I)=>
   match o.op.bM with
   |none=>some ⟨Mg (JO s.env o.args) o.dst e,I,g⟩|some j=>if AI j (Mg (JO s.env o.args) o.dst .none) then some ⟨Mg (JO s.env o.args) o.dst e,I,g⟩ else none
theorem Tj(O:mC)(wl ah:Nat)(o:ct)(s:St):Ii O wl ah o s=jA O wl ah o s:=by
 unfold Ii jA;rw[QB,aaP,aaR,XH,afW]
 rfl
noncomputable def yA (O:mC) (wl ah:Nat) (l:List ct) (s:St):Option St:=List.rec (motive:=λ_=>St->Option St) (λs=>some s)
 (λo _ I s=>match Ii O wl ah o s with|some g=>I g|none=>none) l s
theorem GW(O:mC)(wl ah:Nat):∀(l:List ct)(s:St),yA O wl ah l s=g8 O wl ah l s:=by
 intro l;induction l with
 |nil=>exact λ_=>rfl|cons o l I=>
  intro s;show (match Ii O wl ah o s with|some g=>yA O wl ah l g|none=>none)=_;rw[Tj];unfold g8;cases jA O wl ah o s with
  |none=>rfl|some g=>exact I g
noncomputable def FJ (O:mC) (wl ah:Nat) (dK:List ct) (C:List (Nat×Nat)) (s:St):Option St:=match C with
 |[]=>match dK.all (di s.env) with
  |true=>yA O wl ah dK s|false=>none
 |p::l=>iL O wl ah dK (p::l) s
theorem Nr(O:mC)(wl ah:Nat)(dK:List ct)(C:List (Nat×Nat))(s:St):FJ O wl ah dK C s=iL O wl ah dK C s:=by
 cases C with
 |cons p l=>rfl|nil=>
  show (match dK.all (di s.env) with|true=>yA O wl ah dK s|false=>none)=_;cases h:dK.all (di s.env) with
  |true=>rw[zl h];exact GW ..
  |false=>
   unfold iL;cases cR O wl ah dK s with
   |none=>rfl|some y=>simp[h]
noncomputable def Ij (env:tN) (c:Src):Option Bool:=
 match aaO env c with
 |.val (.bool b)=>some b|_=>none
theorem Tl:Ij=vG:=by
 funext env c;unfold Ij vG;rw[Vi]
 rfl
noncomputable def Ns (O:mC) (wl ah:Nat) (rs:List jv) (c:aT):St->Option (Ex×St):=aT.rec (motive:=λ_=>St->Option (Ex×St))
 (λs=>some (Ex.normal,s))
 (λdK D T s=>
  match (match D with|none=>yA O wl ah dK s|some C=>FJ O wl ah dK C s) with
  |some g=>some (Ex.normal,{ g with env:=xq T g.env })|none=>none)
 (λ_ _ h l s=>match h s with
  |some (Ex.normal,g)=>l g|r=>r)
 (λc m _ n _ h l s=>match Ij s.env c with
  |some true=>h { s with env:=xq m (A9 s.env c) }|some false=>l { s with env:=xq n (A9 s.env c) }|none=>none)
 (λid _ o s=>match o s with
  |some (Ex.exit I,g)=>if I=id then some (Ex.normal,g) else some (Ex.exit I,g)
  |r=>r)
 (λc _ s=>O.loop wl ah rs c s)
 (λid s=>some (Ex.exit id,s))
 (λs=>match CC s rs with|some v=>some (Ex.ret v,⟨[],[],s.st⟩)|none=>none)
 (λt s=>jU O wl ah rs (.ZB t) s)
 (λj k s=>jU O wl ah rs (.IE j k) s)
 (λt off s=>jU O wl ah rs (.qL t off) s) c
theorem Vj(O:mC)(wl ah:Nat)(rs:List jv):∀(c:aT)(s:St),Ns O wl ah rs c s=jU O wl ah rs c s:=by
 intro c;induction c with
 |skip=>exact λ_=>rfl|region dK D T=>
  intro s;show (match (match D with|none=>yA O wl ah dK s|some C=>FJ O wl ah dK C s) with
  |some g=>some (Ex.normal,{ g with env:=xq T g.env })|none=>none)=_
  rw[JM];simp only[jU];cases D with
  |none=>rw[GW];rfl|some p=>simp only[Nr];rfl
 |seq a b h l=>
  intro s;show (match Ns O wl ah rs a s with
  |some (Ex.normal,g)=>Ns O wl ah rs b g|r=>r)=_
  rw[h];simp only[jU];cases jU O wl ah rs a s with
  |none=>rfl|some y=>
   obtain⟨x,g⟩:=y;cases x with
   |normal=>exact l g|exit _=>rfl|ret _=>rfl
 |cond c m a n b h l=>
  intro s;show (match Ij s.env c with
  |some true=>Ns O wl ah rs a { s with env:=xq m (A9 s.env c) }|some false=>Ns O wl ah rs b { s with env:=xq n (A9 s.env c) }|none=>none)=_
  rw[Tl,JM,Mf];simp only[jU];cases vG s.env c with
  |none=>rfl|some z=>cases z with
   |true=>exact h _|false=>exact l _
 |block id c o=>
  intro s;show (match Ns O wl ah rs c s with
  |some (Ex.exit I,g)=>if I=id then some (Ex.normal,g) else some (Ex.exit I,g)
  |r=>r)=_
  rw[o]
  rfl
 |loop c _=>exact λ_=>rfl|exit id=>exact λ_=>rfl|ret=>exact λ_=>rfl|ZB t=>exact λ_=>rfl|IE j k=>exact λ_=>rfl|qL t off=>exact λ_=>rfl
noncomputable def zn (O:mC) (wl ah:Nat) (g:aL) (args:List AV) (st:aj):Option (AV×aj):=
 match aiF args.length g.sJ with
 |true=>match Ns O (g.mode.AJ st.length wl) (g.mode.tf st.length ah) g.results g.body (uG g args st) with
  |some (x,s)=>match K6 g.results x s with
   |some v=>g.mode.oJ st v s.st|none=>none
  |none=>none
 |false=>none
theorem Db(O:mC)(wl ah:Nat)(g:aL)(args:List AV)(st:aj):zn O wl ah g args st=eN O wl ah g args st:=by
 unfold zn eN;rw[Vj];by_cases h:args.length=g.sJ;rw[El h,af h]
 rfl
 rw[JL h,U h]
noncomputable def B7 (O:mC) (wl ah:Nat) (g:aL) (args:List AV) (st:aj):Option (AV×aj):=
 match (match g.mode with|.pure=>Nq args|_=>false) with
 |true=>(match zn O 0 0 g args [] with|some r=>some (r.1,st)|none=>none)
 |false=>zn O wl ah g args st
theorem Nt(O:mC)(wl ah:Nat)(g:aL)(args:List AV)(st:aj):B7 O wl ah g args st=fU O wl ah g args st:=by
 unfold B7 fU;rw[Db,Db];have:(match g.mode with|.pure=>Nq args|_=>false)=Ac g args:=by
  unfold Ac;rw[XG];cases g.mode<;>simp
 rw[this];cases Ac g args with
 |true=>simp only[bh];cases eN O 0 0 g args []<;>rfl|false=>simp
noncomputable def XI (S:Nat->Option aL) (n:Nat):mC:=Nat.rec (motive:=λ_=>mC)
 ⟨λ_ _ _ _ _=>none,λ_ _ _ _ _=>none⟩
 (λ_ I=>⟨λwl ah f args st=>match S f with
   |some h=>B7 I wl ah h args st|none=>none,
   λwl ah rs c s=>match Ns I wl ah rs c s with
   |some (Ex.normal,g)=>I.loop wl ah rs c g|r=>r⟩) n
theorem afX(S:Nat->Option aL):∀n,XI S n=tS S n:=by
 intro n;induction n with
 |zero=>rfl|succ n I=>
  show (⟨λwl ah f args st=>match S f with
   |some h=>B7 (XI S n) wl ah h args st|none=>none,
   λwl ah rs c s=>match Ns (XI S n) wl ah rs c s with
   |some (Ex.normal,g)=>(XI S n).loop wl ah rs c g|r=>r⟩:mC)=tS S (n+1)
  rw[I];simp only[Nt,Vj]
  rfl
theorem akq{S:Nat->Option aL}{n wl ah f:Nat}{args:List AV}{st:aj}{r:AV×aj}(h:(XI S n).call wl ah f args st=some r):(aZ S).call wl ah f args st=some r:=by
 rw[afX]at h;exact(uI S n).call _ _ _ _ _ _ h
def akr(x:Option (AV×aj)):Bool:=match x with|some (.bool b,[])=>b|_=>false
theorem afY{x:Option (AV×aj)}(h:akr x=true):x=some (.bool true,[]):=by
 unfold akr at h;split at h;subst h;rfl;cases h
end Ax
