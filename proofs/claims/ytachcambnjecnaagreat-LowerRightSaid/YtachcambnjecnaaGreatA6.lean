/- The library of this proof, part 6: an abstract interpreter of the loaded code, and its soundness. -/
import Derived.Test.YtachcambnjecnaaGreatA5
import Derived.IntWalk

namespace Ax
open Go
inductive Bz where
 |ops (l:List aZ) (dc:List Nat)
 |code (c:bG)
 |iZ (id:Nat)
 |again (c:bG)
def feed (O:jo)(wl aa:Nat)(rs:List jP):List Bz->Ex->St->Option (Ex×St)
 |[],x,s=>some (x,s)
 |.iZ id::k,x,s=>match x with
  |.normal=>feed O wl aa rs k .normal s
  |.exit i=>if i=id then feed O wl aa rs k .normal s else feed O wl aa rs k (.exit i) s
  |.ret v=>feed O wl aa rs k (.ret v) s
 |.ops l dc::k,x,s=>match x with
  |.normal=>match eM O wl aa l s with|some s'=>feed O wl aa rs k .normal { s' with env:=gX dc s'.env } | none=>none
  |x=>feed O wl aa rs k x s
 |.code c::k,x,s=>match x with
  |.normal=>match gu O wl aa rs c s with|some (x',s')=>feed O wl aa rs k x' s'|none=>none
  |x=>feed O wl aa rs k x s
 |.again c::k,x,s=>match x with
  |.normal=>match gu O wl aa rs (.loop c) s with|some (x',s')=>feed O wl aa rs k x' s'|none=>none
  |x=>feed O wl aa rs k x s
def W (S:Nat->Option aC)(wl aa:Nat)(rs:List jP)(Q:Ex->St->Prop)(k:List Bz)(x:Ex)(s:St):Prop:=∃x' s',feed (aU S) wl aa rs k x s=some (x',s')/\Q x' s'
variable {S:Nat->Option aC}{wl aa:Nat}{rs:List jP}{Q:Ex->St->Prop}{k:List Bz}{s:St}
theorem ab4 {x:Ex}:W S wl aa rs Q [] x s↔Q x s:=by
 unfold W feed
 constructor
 ·rintro⟨x',s',h,hq⟩;cases h;exact hq
 ·intro h;exact⟨x,s,rfl,h⟩
theorem ab5 {id:Nat}:W S wl aa rs Q (.iZ id::k) .normal s↔W S wl aa rs Q k .normal s:=Iff.rfl
theorem Xo {id i:Nat}:W S wl aa rs Q (.iZ id::k) (.exit i) s↔if i=id then W S wl aa rs Q k .normal s else W S wl aa rs Q k (.exit i) s:=by
 unfold W
 simp only[feed]
 split<;>exact Iff.rfl
theorem Xp {id:Nat}{v:AV}:W S wl aa rs Q (.iZ id::k) (.ret v) s↔W S wl aa rs Q k (.ret v) s:=Iff.rfl
theorem Xq {l:List aZ}{dc:List Nat}{i:Nat}:W S wl aa rs Q (.ops l dc::k) (.exit i) s↔W S wl aa rs Q k (.exit i) s:=Iff.rfl
theorem Xr {l:List aZ}{dc:List Nat}{v:AV}:W S wl aa rs Q (.ops l dc::k) (.ret v) s↔W S wl aa rs Q k (.ret v) s:=Iff.rfl
theorem TN {c:bG}{i:Nat}:W S wl aa rs Q (.code c::k) (.exit i) s↔W S wl aa rs Q k (.exit i) s:=Iff.rfl
theorem TO {c:bG}{v:AV}:W S wl aa rs Q (.code c::k) (.ret v) s↔W S wl aa rs Q k (.ret v) s:=Iff.rfl
theorem OX {c:bG}{i:Nat}:W S wl aa rs Q (.again c::k) (.exit i) s↔W S wl aa rs Q k (.exit i) s:=Iff.rfl
theorem OY {c:bG}{v:AV}:W S wl aa rs Q (.again c::k) (.ret v) s↔W S wl aa rs Q k (.ret v) s:=Iff.rfl
theorem Xs {dc:List Nat}:W S wl aa rs Q (.ops [] dc::k) .normal s↔W S wl aa rs Q k .normal { s with env:=gX dc s.env }:=Iff.rfl
theorem agG {o:aZ}{l:List aZ}{dc:List Nat}:W S wl aa rs Q (.ops (o::l) dc::k) .normal s↔∃s',evalOp (aU S) wl aa o s=some s'/\W S wl aa rs Q (.ops l dc::k) .normal s':=by
 unfold W
 simp only[feed,eM]
 cases evalOp (aU S) wl aa o s with
 |none=>simp
 |some s'=>simp
theorem Xt:W S wl aa rs Q (.code .skip::k) .normal s↔W S wl aa rs Q k .normal s:=Iff.rfl
theorem Xu {id:Nat}:W S wl aa rs Q (.code (.exit id)::k) .normal s↔W S wl aa rs Q k (.exit id) s:=Iff.rfl
theorem ab6:W S wl aa rs Q (.code .ret::k) .normal s↔∃v,v8 s rs=some v/\W S wl aa rs Q k (.ret v) ⟨[],[],s.st⟩:=by
 unfold W
 simp only[feed,gu]
 cases v8 s rs with
 |none=>simp
 |some v=>simp
theorem ab7 {a b:bG}:W S wl aa rs Q (.code (.seq a b)::k) .normal s↔W S wl aa rs Q (.code a::.code b::k) .normal s:=by
 unfold W
 simp only[feed,gu]
 cases h:gu (aU S) wl aa rs a s with
 |none=>simp
 |some y=>
  obtain⟨x,s'⟩:=y
  cases x<;>simp
theorem OZ {l:List aZ}{dc:List Nat}:W S wl aa rs Q (.code (.region l none dc)::k) .normal s↔W S wl aa rs Q (.ops l dc::k) .normal s:=by
 unfold W
 simp only[feed,gu]
 cases h:eM (aU S) wl aa l s with
 |none=>simp
 |some s'=>simp
theorem zf {O:jo}:∀{l:List aZ}{s:St},(dD O wl aa l s).map (·.1)=eM O wl aa l s
 |[],s=>rfl
 |o::l,s=>by
  simp only[dD,eM]
  cases h:evalOp O wl aa o s with
  |none=>rfl
  |some s'=>
   simp only
   rw[<-zf (l:=l) (s:=s')]
   cases dD O wl aa l s' with
   |none=>rfl
   |some y=>rfl
def az:List aZ->Bool
 |[]=>true
 |o::l=>(match o.op.aF with|some _=>false|none=>true)&&az l
theorem BA {env:Env}:∀{l:List aZ},az l=true->l.all (aI env)=true
 |[],_=>rfl
 |o::l,h=>by
  simp only[az,Bool.and_eq_true]at h
  simp only[List.all_cons,BA h.2,Bool.and_true]
  unfold aI
  cases hb:o.op.aF with
  |none=>rfl
  |some j=>rw[hb]at h;simp at h
theorem rU {O:jo}{l:List aZ}(h:l.all (aI s.env)=true):fH O wl aa l [] s=eM O wl aa l s:=by
 unfold fH
 rw[<-zf]
 cases dD O wl aa l s with
 |none=>rfl
 |some y=>
  obtain⟨e,gw⟩:=y
  simp only[List.all_nil,h,Bool.and_self,if_true,Option.map_some]
theorem aA {l:List aZ}{dc:List Nat}(h:az l=true):W S wl aa rs Q (.code (.region l (some []) dc)::k) .normal s↔W S wl aa rs Q (.ops l dc::k) .normal s:=by
 unfold W
 simp only[feed,gu,rU (BA h)]
 cases h:eM (aU S) wl aa l s with
 |none=>simp
 |some s'=>simp
theorem aB {l:List aZ}{dc:List Nat}:W S wl aa rs Q (.code (.region l (some []) dc)::k) .normal s↔l.all (aI s.env)=true/\W S wl aa rs Q (.ops l dc::k) .normal s:=by
 by_cases h:l.all (aI s.env)=true
 ·unfold W
  simp only[feed,gu,rU h]
  cases h2:eM (aU S) wl aa l s with
  |none=>simp
  |some s'=>simp[h]
 ·unfold W
  simp only[feed,gu,fH]
  cases h2:dD (aU S) wl aa l s with
  |none=>simp[h]
  |some y=>obtain⟨e,gw⟩:=y;simp[h]
theorem rV {l:List aZ}{bH:List (Nat×Nat)}{dc:List Nat}:W S wl aa rs Q (.code (.region l (some bH) dc)::k) .normal s↔
  ∃e gw,dD (aU S) wl aa l s=some (e,gw)/\(bH.all (gW (aU S) wl aa l gw)&&l.all (aI s.env))=true/\W S wl aa rs Q k .normal { e with env:=gX dc e.env }:=by
 unfold W
 simp only[feed,gu,fH]
 cases h:dD (aU S) wl aa l s with
 |none=>simp
 |some y=>
  obtain⟨e,gw⟩:=y
  by_cases hc:(bH.all (gW (aU S) wl aa l gw)&&l.all (aI s.env))=true
  ·simp only[hc,if_true]
   constructor
   ·rintro⟨x',s',h1,h2⟩;exact⟨e,gw,rfl,hc,x',s',h1,h2⟩
   ·rintro⟨e',agH,h0,_,x',s',h1,h2⟩;cases h0;exact⟨x',s',h1,h2⟩
  ·simp only[hc]
   constructor
   ·rintro⟨x',s',h1,_⟩;cases h1
   ·rintro⟨e',agH,h0,hf,_⟩;cases h0;exact absurd hf hc
theorem Xv {c:Src}{ca cb:List Nat}{a b:bG}:W S wl aa rs Q (.code (.cond c ca a cb b)::k) .normal s↔
  ∃t,oW s.env c=some t/\W S wl aa rs Q (.code (if t then a else b)::k) .normal { s with env:=gX (if t then ca else cb) (kU s.env c) }:=by
 unfold W
 simp only[feed,gu]
 cases oW s.env c with
 |none=>simp
 |some t=>cases t<;>simp
theorem TP {id:Nat}{c:bG}:W S wl aa rs Q (.code (.block id c)::k) .normal s↔W S wl aa rs Q (.code c::.iZ id::k) .normal s:=by
 unfold W
 simp only[feed,gu]
 cases h:gu (aU S) wl aa rs c s with
 |none=>simp
 |some y=>
  obtain⟨x,s'⟩:=y
  cases x with
  |normal=>simp
  |exit i=>by_cases hi:i=id<;>simp[hi]
  |ret v=>simp
theorem Xw {c:bG}:W S wl aa rs Q (.code (.loop c)::k) .normal s↔W S wl aa rs Q (.code c::.again c::k) .normal s:=by
 unfold W
 simp only[feed,gu]
 rw[LQ]
 cases h:gu (aU S) wl aa rs c s with
 |none=>simp
 |some y=>
  obtain⟨x,s'⟩:=y
  cases x<;>simp
theorem Xx {t off:Nat}:W S wl aa rs Q (.code (.vo t off)::k) .normal s↔∃id bU i k' v v' lz lN,cC s.env t=.val (.ptr id bU i k')/\fN s.st (.ptr id bU i (k'+off)) 1=some [v]/\om wl v s.st=some (v',lz)/\
  dL wl aa lz (.ptr id bU i (k'+off)) [v']=some lN/\W S wl aa rs Q k .normal ⟨s.env,s.bx,lN⟩:=by
 constructor
 ·intro h
  unfold W at h
  simp only[feed]at h
  cases hc:gu (aU S) wl aa rs (.vo t off) s with
  |none=>rw[hc]at h;simp at h
  |some y=>
   obtain⟨x1,s1⟩:=y
   rw[hc]at h
   obtain⟨rfl,id,bU,i,k',v,v',lz,lN,g1,g2,g3,g4,rfl⟩:=AI hc
   exact⟨id,bU,i,k',v,v',lz,lN,g1,g2,g3,g4,h⟩
 ·rintro⟨id,bU,i,k',v,v',lz,lN,g1,g2,g3,g4,h⟩
  unfold W
  simp only[feed,gu,g1,g2,g3,g4]
  exact h
theorem W.imp {Q':Ex->St->Prop}{x:Ex}(h:W S wl aa rs Q k x s)(hq:∀x s,Q x s->Q' x s):W S wl aa rs Q' k x s:=by
 obtain⟨x',s',h1,h2⟩:=h
 exact⟨x',s',h1,hq _ _ h2⟩
theorem BB {sf:aC}{args:List AV}{st:an}(hl:args.length=sf.nparams){r:AV×an}
  (h:W S (sf.mode.v9 st.length wl) (sf.mode.oX st.length aa) sf.results (λx s=>∃v,CS sf.results x s=some v/\sf.mode.fin st v s.st=some r) [.code sf.body] .normal (oY sf args st)) :
  cQ (aU S) wl aa sf args st=some r:=by
 simp only[cQ,hl,if_true]
 obtain⟨x',s',h1,v,h2,h3⟩:=h
 simp only[feed]at h1
 cases hs:gu (aU S) (sf.mode.v9 st.length wl) (sf.mode.oX st.length aa) sf.results sf.body (oY sf args st) with
 |none=>rw[hs]at h1;cases h1
 |some y=>
  obtain⟨x,s⟩:=y
  rw[hs]at h1
  simp only at h1
  cases h1
  simp only[h2,h3]
theorem Mm {f:Nat}{sf:aC}(hf:S f=some sf){args:List AV}{st:an}(ha:alone sf args=false)(hl:args.length=sf.nparams){r:AV×an}
  (h:W S (sf.mode.v9 st.length wl) (sf.mode.oX st.length aa) sf.results (λx s=>∃v,CS sf.results x s=some v/\sf.mode.fin st v s.st=some r) [.code sf.body] .normal (oY sf args st)) :
  (aU S).call wl aa f args st=some r:=by
 rw[ye,hf]
 simp only[dO,ha,Bool.false_eq_true,if_false]
 exact BB hl h
theorem Mn {f:Nat}{sf:aC}(hf:S f=some sf)(hm:sf.mode=.pure){args:List AV}{st:an}(hp:AV.ai args=true)(hl:args.length=sf.nparams){v:AV}(hv:v.au=true)
  (h:W S 0 0 sf.results (λx s=>CS sf.results x s=some v) [.code sf.body] .normal (oY sf args [])) :
  (aU S).call wl aa f args st=some (v,st):=by
 rw[ye,hf]
 have ha:alone sf args=true:=by simp[alone,hm,hp]
 simp only[dO,ha,if_true]
 have:=BB (S:=S) (wl:=0) (aa:=0) (sf:=sf) (args:=args) (st:=[]) hl (r:=(v,[])) (by
  rw[hm]
  obtain⟨x',s',h1,h2⟩:=h
  exact⟨x',s',h1,v,h2,by simp[Mode.fin,hv]⟩)
 rw[this]
 rfl
def WO (S:Nat->Option aC)(wl aa:Nat)(rs:List jP)(Q:Ex->St->Prop)(l:List aZ)(dc:List Nat)(k:List Bz):Option St->Prop
 |some s=>W S wl aa rs Q (.ops l dc::k) .normal s
 |none=>False
def WC (S:Nat->Option aC)(wl aa:Nat)(rs:List jP)(Q:Ex->St->Prop)(ca cb:List Nat)(a b:bG)(k:List Bz)(s:St):Option Bool->Prop
 |some true=>W S wl aa rs Q (.code a::k) .normal { s with env:=gX ca s.env }
 |some false=>W S wl aa rs Q (.code b::k) .normal { s with env:=gX cb s.env }
 |none=>False
def WV (S:Nat->Option aC)(wl aa:Nat)(rs:List jP)(Q:Ex->St->Prop)(k:List Bz)(st:an):Option AV->Prop
 |some v=>W S wl aa rs Q k (.ret v) ⟨[],[],st⟩
 |none=>False
theorem ab8 {o:aZ}{l:List aZ}{dc:List Nat}:W S wl aa rs Q (.ops (o::l) dc::k) .normal s↔WO S wl aa rs Q l dc k (evalOp (aU S) wl aa o s):=by
 rw[agG]
 cases evalOp (aU S) wl aa o s with
 |none=>simp[WO]
 |some s'=>simp[WO]
theorem TQ {c:Src}{ca cb:List Nat}{a b:bG}:W S wl aa rs Q (.code (.cond c ca a cb b)::k) .normal s↔WC S wl aa rs Q ca cb a b k { s with env:=kU s.env c } (oW s.env c):=by
 rw[Xv]
 cases oW s.env c with
 |none=>simp[WC]
 |some t=>cases t<;>simp[WC]
theorem Xy:W S wl aa rs Q (.code .ret::k) .normal s↔WV S wl aa rs Q k s.st (v8 s rs):=by
 rw[ab6]
 cases v8 s rs with
 |none=>simp[WV]
 |some v=>simp[WV]
theorem TR {l:List aZ}{dc:List Nat}:WO S wl aa rs Q l dc k (some s)↔W S wl aa rs Q (.ops l dc::k) .normal s:=Iff.rfl
theorem TS {l:List aZ}{dc:List Nat}:WO S wl aa rs Q l dc k none↔False:=Iff.rfl
theorem Xz {l:List aZ}{dc:List Nat}{c:Prop} [Decidable c]:WO S wl aa rs Q l dc k (if c then some s else none)↔c/\W S wl aa rs Q (.ops l dc::k) .normal s:=by
 by_cases h:c<;>simp[h,WO]
theorem TT {ca cb:List Nat}{a b:bG}:WC S wl aa rs Q ca cb a b k s (some true)↔W S wl aa rs Q (.code a::k) .normal { s with env:=gX ca s.env }:=Iff.rfl
theorem O1 {ca cb:List Nat}{a b:bG}:WC S wl aa rs Q ca cb a b k s (some false)↔W S wl aa rs Q (.code b::k) .normal { s with env:=gX cb s.env }:=Iff.rfl
theorem TU {st:an}{v:AV}:WV S wl aa rs Q k st (some v)↔W S wl aa rs Q k (.ret v) ⟨[],[],st⟩:=Iff.rfl
end Ax
namespace Ax
open Go
attribute [simp ↓] ab4 ab5 Xo Xp Xq Xr TN TO OX OY Xs ab8 Xt Xu Xy ab7 OZ TQ TP
attribute [simp] TR TS Xz TT O1 TU
attribute [simp] evalOp kZ act FZ kU vp cL.aF gX dX.view AV.view AV.cz pZ v8 v7 AF
 AV.au AV.ai cC tq zC oY Mode.v9 Mode.oX Mode.fin CS Dh oW bZ cut iz eY kV cP dX.ny
variable {S:Nat->Option aC}{wl aa:Nat}{rs:List jP}{Q:Ex->St->Prop}{k:List Bz}{st:an}{bx:aX}
def pU (st:an)(bx:aX):Option AV->Option (dX×an×aX)
 |some v=>some (.val v,st,bx)
 |none=>none
@[simp] theorem aae {v:AV}:pU st bx (some v)=some (.val v,st,bx):=rfl
@[simp] theorem aaf:pU st bx none=none:=rfl
@[simp] theorem ab9 {c:Prop} [Decidable c] {v:AV}:pU st bx (if c then some v else none)=if c then some (.val v,st,bx) else none:=by by_cases h:c<;>simp[h]
theorem EJ {c b:bG}{s:St}(h:c=b):W S wl aa rs Q (.code (.loop c)::k) .normal s↔W S wl aa rs Q (.code b::.again c::k) .normal s:=by
 rw[Xw];subst h;exact Iff.rfl
@[simp] theorem XA:rowsOf st .U=some []:=rfl
@[simp] theorem XB:rowsOf st .emp=some []:=rfl
@[simp] theorem XC {sz:Nat} {r:List (List AV)}:rowsOf st (.cU sz r)=some r:=rfl
@[simp] theorem XE {sz:Nat} {r:List (List AV)}:rowsOf st (.own sz r)=some r:=rfl
@[simp] theorem aag {id bU:Nat}:rowsOf st (.mu id bU)=match st[id]? with|some (.rows v _ rows)=>if v=bU then some rows else none|_=>none:=rfl
@[simp] theorem TV:dy st .U=some []:=rfl
@[simp] theorem TW:dy st .emp=some []:=rfl
@[simp] theorem TX {sz:Nat} {r:List (List AV)}:dy st (.cU sz r)=some r:=rfl
@[simp] theorem TY {sz:Nat} {r:List (List AV)}:dy st (.own sz r)=some r:=rfl
@[simp] theorem TZ {l:List UInt8}:dy st (.str l)=some (ee l):=rfl
@[simp] theorem acd {l:List UInt8}:mJ st .str (.str l)=some l.length:=rfl
@[simp] theorem aex {v:AV}:mJ st .sl v=(rowsOf st v).map List.length:=by
 cases v<;>simp only[mJ]<;>cases rowsOf st _<;>rfl
@[simp] theorem aey {id:Nat}:mJ st .mp (.map id)=match st[id]? with|some (.map es)=>some es.length|_=>none:=rfl
def zQ (sz:Nat)(st:an)(x:AV)(i:Int):Option AV:=match x with
 |.cU s rows|.own s rows=>if s=sz/\0<=i/\i<rows.length then some (.n8 sz rows i.toNat 0) else none
 |.mu id bU=>match st[id]? with
  |some (.rows v s rows)=>if v=bU/\s=sz/\0<=i/\i<rows.length then some (.ptr id bU i.toNat 0) else none
  |_=>none
 |_=>none
@[simp] theorem ace {sz s:Nat} {r:List (List AV)} {i:Int}:zQ sz st (.cU s r) i=if s=sz/\0<=i/\i<r.length then some (.n8 sz r i.toNat 0) else none:=rfl
@[simp] theorem acf {sz s:Nat} {r:List (List AV)} {i:Int}:zQ sz st (.own s r) i=if s=sz/\0<=i/\i<r.length then some (.n8 sz r i.toNat 0) else none:=rfl
@[simp] theorem aez {sz id bU:Nat} {i:Int}:zQ sz st (.mu id bU) i=match st[id]? with|some (.rows v s rows)=>if v=bU/\s=sz/\0<=i/\i<rows.length then some (.ptr id bU i.toNat 0) else none|_=>none:=rfl
def vv (sz bytes:Nat)(s:AV)(new:List (List AV)):Option AV:=
 if fits sz new=true then match s with
  |.U|.emp=>if new.isEmpty then some s else if new.length*bytes<=room then some (.own sz new) else none
  |.own iP old=>if iP=sz/\(old.length+new.length)*bytes<=room then some (.own sz (old++new)) else none
  |_=>none else none
@[simp] theorem agI {e:dX}:aL wl aa .move [e] st bx=some (e,st,bx):=rfl
@[simp] theorem agJ {b:Bool} {x y:dX}:aL wl aa .pick [.val (.bool b),x,y] st bx=some (if b then x else y,st,bx):=rfl
@[simp] theorem ajl {op:BinOp} {x y:AV}:aL wl aa (.bin op) [.val x,.val y] st bx=pU st bx (zD op x y):=by
 simp only[aL];cases zD op x y<;>rfl
@[simp] theorem ajm {kk:ZY} {neg:Bool} {x y:AV}:aL wl aa (.eqv kk neg) [.val x,.val y] st bx=pU st bx ((Ef kk x y).map λb=>.bool (if neg then !b else b)):=by
 simp only[aL];cases Ef kk x y<;>rfl
@[simp] theorem akW {op:UnOp} {x:AV}:aL wl aa (.un op) [.val x] st bx=pU st bx (WI op x):=by
 simp only[aL];cases WI op x<;>rfl
@[simp] theorem agK {kk l:IntKind} {n:Int}:aL wl aa (.conv kk) [.val (.int l n)] st bx=some (.val (.int kk (kk.wrap n)),st,bx):=rfl
@[simp] theorem aeA {x:AV}:aL wl aa .toStr [.val x] st bx=pU st bx (((rowsOf st x).bind bytesOf).map .str):=by
 simp only[aL];cases rowsOf st x with
 |none=>rfl
 |some r=>simp only[Option.bind_some];cases bytesOf r<;>rfl
@[simp] theorem ajn {lk:LK} {x:AV}:aL wl aa (.len lk) [.val x] st bx=pU st bx ((mJ st lk x).map λn=>.int .i64 n):=by
 simp only[aL];cases mJ st lk x<;>rfl
@[simp] theorem acg {mx:Bool} {kk:IntKind} {a b:Int}:aL wl aa (.Ee mx) [.val (.int kk a),.val (.int kk b)] st bx=some (.val (.int kk (if mx then (if b > a then b else a) else (if b<a then b else a))),st,bx):=by
 simp[aL]
@[simp] theorem agL {j i:Nat}:aL wl aa .nilCheck [.fp j i] st bx=some (.fp j i,st,bx):=rfl
@[simp] theorem agM {a b c d:Nat}:aL wl aa .nilCheck [.val (.ptr a b c d)] st bx=some (.val (.ptr a b c d),st,bx):=rfl
@[simp] theorem agN {a:Nat} {r:List (List AV)} {c d:Nat}:aL wl aa .nilCheck [.val (.n8 a r c d)] st bx=some (.val (.n8 a r c d),st,bx):=rfl
@[simp] theorem aah {i:Nat} {vs:List AV}:aL wl aa (.extract i) [.val (.fz vs)] st bx=pU st bx vs[i]?:=by
 simp only[aL];cases vs[i]?<;>rfl
@[simp] theorem aeB {off n:Nat} {agg:Bool} {cs:List AV}:aL wl aa (.field off n agg) [.val (.agg cs)] st bx=pU st bx ((cut cs off n).bind (bZ agg)):=by
 simp only[aL];cases cut cs off n with
 |none=>rfl
 |some r=>simp only[Option.bind_some];cases bZ agg r<;>rfl
@[simp] theorem aeC {zero:List AV} {parts:List (Nat×Nat)} {l:List dX}:aL wl aa (.build zero parts) l st bx=pU st bx (((iz l).bind (gO zero parts)).map .agg):=by
 simp only[aL];cases iz l with
 |none=>rfl
 |some vs=>simp only[Option.bind_some];cases gO zero parts vs<;>rfl
@[simp] theorem ajo {sz n:Nat} {zero:List AV} {parts:List Nat} {l:List dX}:aL wl aa (.lit sz n zero parts) l st bx =
  pU st bx (((iz l).bind λvs=>fG sz (List.replicate n zero) parts (AV.cz vs)).bind λrows=>if rows.all AV.ai&&rows.all AV.aK then some (if n=0 then .emp else .cU sz rows) else none):=by
 simp only[aL];cases iz l with
 |none=>rfl
 |some vs=>
  simp only[Option.bind_some]
  cases fG sz (List.replicate n zero) parts (AV.cz vs) with
  |none=>rfl
  |some rows=>simp only[Option.bind_some];split<;>rfl
@[simp] theorem T1 {off j i:Nat}:aL wl aa (.fieldAddr off) [.fp j i] st bx=some (.fp j (i+off),st,bx):=rfl
@[simp] theorem T2 {off a b c d:Nat}:aL wl aa (.fieldAddr off) [.val (.ptr a b c d)] st bx=some (.val (.ptr a b c (d+off)),st,bx):=rfl
@[simp] theorem T4 {off a c d:Nat} {r:List (List AV)}:aL wl aa (.fieldAddr off) [.val (.n8 a r c d)] st bx=some (.val (.n8 a r c (d+off)),st,bx):=rfl
@[simp] theorem V2 {sz:Nat} {x:AV} {i:Int}:aL wl aa (.indexAddr sz) [.val x,.val (.int .i64 i)] st bx=pU st bx (zQ sz st x i):=by
 cases x<;>try rfl
 case cU s r=>simp only[aL,zQ,Bool.and_eq_true,decide_eq_true_eq,and_assoc];split<;>rfl
 case own s r=>simp only[aL,zQ,Bool.and_eq_true,decide_eq_true_eq,and_assoc];split<;>rfl
 case mu id bU=>
  simp only[aL,zQ,Bool.and_eq_true,decide_eq_true_eq,and_assoc]
  cases st[id]? with
  |none=>rfl
  |some ob=>cases ob with
   |rows v s r=>simp only;split<;>rfl
   |map es=>rfl
@[simp] theorem aeD {l:List UInt8} {i:Int}:aL wl aa .index [.val (.str l),.val (.int .i64 i)] st bx=if 0<=i then pU st bx (l[i.toNat]?.map λb=>.int .u8 b.toNat) else none:=by
 simp only[aL];cases l[i.toNat]?<;>rfl
@[simp] theorem ax {agg:Bool} {n:Nat} {p:AV}:aL wl aa (.load agg n false) [.val p] st bx=pU st bx ((fN st p n).bind λcs=>bZ agg (AV.cz cs)):=by
 simp only[aL];cases fN st p n with
 |none=>rfl
 |some cs=>simp only[Option.bind_some,Bool.false_eq_true,if_false];cases bZ agg (AV.cz cs)<;>rfl
@[simp] theorem aeE {zero:List AV}:aL wl aa (.alloc zero) [] st bx=some (.val (.ptr st.length 0 0 0),st++[.rows 0 zero.length [zero]],bx):=rfl
@[simp] theorem ach {sz bytes:Nat} {s x:AV}:aL wl aa (.append sz bytes) [.val s,.val x] st bx=pU st bx ((dy [] x).bind (vv sz bytes s)):=by
 simp only[aL];cases dy [] x with
 |none=>rfl
 |some new=>
  simp only[Option.bind_some,vv]
  by_cases hf:fits sz new=true
  ·simp only[hf,if_true]
   cases s<;>simp only[Bool.and_eq_true,decide_eq_true_eq]<;>(try rfl)<;>repeat' split
   all_goals rfl
  ·simp only[hf];rfl
@[simp] theorem aci {sz bytes:Nat} {zero:List AV} {n c:Int}:aL wl aa (.rD sz bytes zero false) [.val (.int .i64 n),.val (.int .i64 c)] st bx =
  if 0<=n/\n<=c/\c*bytes<=room/\zero.length=sz then (if AV.ai zero then some (.val (.own sz (List.replicate n.toNat zero)),st,bx) else none) else none:=rfl
@[simp] theorem aai {sz bytes:Nat} {zero:List AV} {n c:Int}:aL wl aa (.z5 sz bytes zero) [.val (.int .i64 n),.val (.int .i64 c)] st bx =
  if 0<=n/\n<=c/\c*bytes<=room/\zero.length=sz/\AV.ai zero=true then some (.val (.raw sz (List.replicate n.toNat zero)),st,bx) else none:=rfl
@[simp] theorem DH {sz bytes:Nat} {zero:List AV} {n c:Int}:aL wl aa (.rD sz bytes zero true) [.val (.int .i64 n),.val (.int .i64 c)] st bx =
  if 0<=n/\n<=c/\c*bytes<=room/\zero.length=sz then some (.val (.mu st.length 0),st++[.rows 0 sz (List.replicate n.toNat zero)],bx) else none:=rfl
@[simp] theorem ah {n:Nat} {p v:AV}:aL wl aa (.store n) [.val p,.val v] st bx=if v.cells.length=n/\AV.aK v.cells=true then (dL wl aa st p v.cells).map λs=>(.none,s,bx) else none:=by
 simp only[aL,Bool.and_eq_true,decide_eq_true_eq]
 split
 ·cases dL wl aa st p v.cells<;>rfl
 ·rfl
@[simp] theorem XF {id bU i j:Nat} {cells:List AV}:dL wl aa st (.ptr id bU i j) cells=match st[id]? with
  |some (.rows v sz rows)=>if v=bU/\bp wl aa id cells=true then rows[i]?.bind λr=>if j+cells.length<=r.length then some (st.set id (.rows v sz (rows.set i (af r j cells)))) else none else none
  |_=>none:=by
 simp only[dL]
 cases st[id]? with
 |none=>rfl
 |some ob=>cases ob with
  |map es=>rfl
  |rows v sz rows=>
   simp only[Bool.and_eq_true,decide_eq_true_eq]
   split
   ·cases rows[i]?<;>rfl
   ·rfl
attribute [simp] bp
@[simp] theorem acj {sz id bU:Nat} {hi:Int}:aL wl aa (.vZ sz) [.val (.mu id bU),.val (.int .i64 hi)] st bx=match st[id]? with
  |some (.rows v s rows)=>if v=bU/\s=sz/\0<=hi/\hi<=rows.length/\wl<=id then some (.val (.mu id (v+1)),st.set id (.rows (v+1) s (rows.take hi.toNat)),bx) else none
  |_=>none:=by
 simp only[aL,Bool.and_eq_true,decide_eq_true_eq,and_assoc]
 cases st[id]? with
 |none=>rfl
 |some ob=>cases ob<;>rfl
@[simp] theorem aaj {sz bytes id bU:Nat} {x:AV}:aL wl aa (.lT sz bytes) [.val (.mu id bU),.val x] st bx=(dy st x).bind λnew=>if fits sz new=true then match st[id]? with
  |some (.rows v iP old)=>if v=bU/\iP=sz/\(old.length+new.length)*bytes<=room/\wl<=id/\(aa<=id\/new.all AV.ai=true) then some (.val (.mu id (v+1)),st.set id (.rows (v+1) sz (old++new)),bx) else none
  |_=>none else none:=by
 simp only[aL,yc,Bool.and_eq_true,decide_eq_true_eq,Bool.or_eq_true,and_assoc]
 cases dy st x with
 |none=>rfl
 |some new=>rfl
@[simp] theorem agO:aL wl aa .SF [.val .U] st bx=some (.val (.int .i64 0),st,bx):=rfl
@[simp] theorem aak {sz bytes:Nat} {s:AV} {zero:List AV} {n:Int}:aL wl aa (.uC sz bytes zero) [.val s,.val (.int .i64 n)] st bx =
  if 0<=n/\n*bytes<=room/\zero.length=sz/\AV.ai zero=true then yc wl aa sz bytes s (List.replicate n.toNat zero) st bx else none:=rfl
@[simp] theorem XG {sz bytes:Nat} {x:AV}:aL wl aa (.lT sz bytes) [.val .U,.val x] st bx=(dy st x).bind λnew=>if fits sz new=true then (if new.isEmpty=true then some (.val .U,st,bx) else if new.length*bytes<=room then some (.val (.mu st.length 0),st++[.rows 0 sz new],bx) else none) else none:=by
 simp only[aL]
 cases dy st x with
 |none=>rfl
 |some new=>rfl
@[simp] theorem XH {sz bytes:Nat} {x:AV}:aL wl aa (.lT sz bytes) [.val .emp,.val x] st bx=(dy st x).bind λnew=>if fits sz new=true then (if new.length*bytes<=room then some (.val (.mu st.length 0),st++[.rows 0 sz new],bx) else none) else none:=by
 simp only[aL]
 cases dy st x with
 |none=>rfl
 |some new=>rfl
@[simp] theorem aeF {j i n:Nat} {agg:Bool}:aL wl aa (.aj j agg n false) [.fp j i] st bx=pU st bx ((bx[j]?.bind λrow=>cut row i n).bind λcs=>bZ agg (AV.cz cs)):=by
 simp only[aL,if_true]
 cases bx[j]? with
 |none=>rfl
 |some row=>
  simp only[Option.bind_some]
  cases cut row i n with
  |none=>rfl
  |some cs=>simp only[Option.bind_some,Bool.false_eq_true,if_false];cases bZ agg (AV.cz cs)<;>rfl
@[simp] theorem ack {j i n:Nat} {agg:Bool}:aL wl aa (.aj j agg n true) [.fp j i] st bx=(bx[j]?.bind λrow=>(cut row i n).bind λcs=>(bZ agg cs).map λv=>(.val v,st,bx.set j (af row i (cs.map AV.ir)))):=by
 simp only[aL,if_true]
 cases bx[j]? with
 |none=>rfl
 |some row=>
  simp only[Option.bind_some]
  cases cut row i n with
  |none=>rfl
  |some cs=>simp only[Option.bind_some];cases bZ agg cs<;>rfl
@[simp] theorem acm {j i n:Nat} {v:AV}:aL wl aa (.ag j n) [.fp j i,.val v] st bx=if v.cells.length=n/\AV.aK v.cells=true then bx[j]?.bind λrow=>(if i+n<=row.length then some (.none,st,bx.set j (af row i v.cells)) else none) else none:=by
 simp only[aL,Bool.and_eq_true,decide_eq_true_eq,true_and]
 split
 ·cases bx[j]?<;>rfl
 ·rfl
@[simp] theorem acn {j:Nat} {zero:List AV}:aL wl aa (.aE j zero) [] st bx=if j<bx.length then some (.fp j 0,st,bx.set j zero) else none:=rfl
@[simp] theorem KM {n:Nat} {v:AV}:aL wl aa (.box n) [.val v] st bx=if v.cells.length=n/\AV.aK v.cells=true then some (.val (.ptr st.length 0 0 0),st++[.rows 0 n [v.cells]],bx) else none:=by
 simp only[aL,Bool.and_eq_true,decide_eq_true_eq]
@[simp] theorem agP {j n:Nat} {v:AV}:aL wl aa (.dW j n) [.val v] st bx=if j<bx.length/\v.cells.length=n/\AV.aK v.cells=true then some (.fp j 0,st,bx.set j v.cells) else none:=by
 simp only[aL,Bool.and_eq_true,decide_eq_true_eq,and_assoc]
@[simp] theorem XI {f n:Nat} {l:List dX}:aL wl aa (.makeFunc f n) l st bx=pU st bx ((iz l).map λvs=>.fn f (AV.cz (vs.take n)) (AV.cz (vs.drop n))):=by
 simp only[aL];cases iz l<;>rfl
@[simp] theorem aal {tr:Bool} {sz:Nat} {x:AV} {b:Int}:aL wl aa (.slice tr false true false sz) [.val x,.val (.int .i64 b)] st bx=(mJ st (if tr then .str else .sl) x).bind λ_=>pU st bx (jx tr sz x 0 b none):=by
 simp only[aL]
 cases mJ st (if tr then LK.str else LK.sl) x with
 |none=>rfl
 |some n=>simp only[pZ,Bool.false_eq_true,if_false,if_true,Option.bind_some];cases jx tr sz x 0 b none<;>rfl
@[simp] theorem aam {tr:Bool} {sz:Nat} {x:AV} {a:Int}:aL wl aa (.slice tr true false false sz) [.val x,.val (.int .i64 a)] st bx=(mJ st (if tr then .str else .sl) x).bind λn=>pU st bx (jx tr sz x a n none):=by
 simp only[aL]
 cases mJ st (if tr then LK.str else LK.sl) x with
 |none=>rfl
 |some n=>simp only[pZ,Bool.false_eq_true,if_false,if_true,Option.bind_some];cases jx tr sz x a n none<;>rfl
@[simp] theorem aan {tr:Bool} {sz:Nat} {x:AV} {a b:Int}:aL wl aa (.slice tr true true false sz) [.val x,.val (.int .i64 a),.val (.int .i64 b)] st bx=(mJ st (if tr then .str else .sl) x).bind λ_=>pU st bx (jx tr sz x a b none):=by
 simp only[aL]
 cases mJ st (if tr then LK.str else LK.sl) x with
 |none=>rfl
 |some n=>simp only[pZ,if_true,Option.bind_some];cases jx tr sz x a b none<;>rfl
@[simp] theorem XJ {sz:Nat} {s:List UInt8} {a b:Int}:jx true sz (.str s) a b none=if 0<=a/\a<=b/\b<=s.length then some (.str ((s.take b.toNat).drop a.toNat)) else none:=by
 simp[jx,and_assoc]
attribute [simp] AV.ir
@[simp] theorem aco {op:BinOp} {kk:IntKind} {a b:Int}:zD op (.int kk a) (.int kk b)=j4 op kk a b:=by simp[zD]
@[simp] theorem agQ {a b:List UInt8}:zD .add (.str a) (.str b)=if a.length+b.length<=4611686018427387904 then some (.str (a++b)) else none:=rfl
@[simp] theorem agR {a b:List UInt8}:zD .eql (.str a) (.str b)=some (.bool (decide (a=b))):=by simp only[zD];by_cases h:a=b<;>simp[h]
@[simp] theorem agS {a b:List UInt8}:zD .neq (.str a) (.str b)=some (.bool (!decide (a=b))):=by simp only[zD];by_cases h:a=b<;>simp[h]
@[simp] theorem aeG {b:Bool}:WI .not (.bool b)=some (.bool (!b)):=rfl
@[simp] theorem aeH {kk:IntKind} {a:Int}:WI .neg (.int kk a)=some (.int kk (kk.wrap (0-a))):=rfl
@[simp] theorem acp {a b:Bool}:Ef (.sc .bool) (.bool a) (.bool b)=some (decide (a=b)):=by cases a<;>cases b<;>rfl
@[simp] theorem aeI {kk:IntKind} {a b:Int}:Ef (.sc .int) (.int kk a) (.int kk b)=some (decide (a=b)):=by simp[Ef,CF];by_cases h:a=b<;>simp[h]
@[simp] theorem aeJ {a b:List UInt8}:Ef (.sc .str) (.str a) (.str b)=some (decide (a=b)):=by simp[Ef,CF];by_cases h:a=b<;>simp[h]
@[simp] theorem acq {ks:List SK} {a b:List AV}:Ef (.flat ks) (.agg a) (.agg b)=CG ks a b:=rfl
attribute [simp] CG
@[simp] theorem acr {a b:Bool}:CF .bool (.bool a) (.bool b)=some (decide (a=b)):=by cases a<;>cases b<;>rfl
@[simp] theorem aeK {kk:IntKind} {a b:Int}:CF .int (.int kk a) (.int kk b)=some (decide (a=b)):=by simp[CF];by_cases h:a=b<;>simp[h]
@[simp] theorem aeL {a b:List UInt8}:CF .str (.str a) (.str b)=some (decide (a=b)):=by simp[CF];by_cases h:a=b<;>simp[h]
section
variable {kk:IntKind}{a b:Int}
@[simp] theorem agT:j4 .add kk a b=some (.int kk (kk.wrap (a+b))):=rfl
@[simp] theorem agU:j4 .sub kk a b=some (.int kk (kk.wrap (a-b))):=rfl
@[simp] theorem agV:j4 .mul kk a b=some (.int kk (kk.wrap (a*b))):=rfl
@[simp] theorem agW:j4 .quo kk a b=if b=0 then none else some (.int kk (kk.wrap (a.tdiv b))):=rfl
@[simp] theorem agX:j4 .rem kk a b=if b=0 then none else some (.int kk (a.tmod b)):=rfl
@[simp] theorem agY:j4 .and kk a b=some (.int kk (kk.wrap ((BitVec.ofInt kk.bits a &&& BitVec.ofInt kk.bits b).toNat))):=rfl
@[simp] theorem agZ:j4 .eql kk a b=some (.bool (decide (a=b))):=by simp only[j4];by_cases h:a=b<;>simp[h]
@[simp] theorem ag0:j4 .neq kk a b=some (.bool (!decide (a=b))):=by simp only[j4];by_cases h:a=b<;>simp[h]
@[simp] theorem ag1:j4 .lss kk a b=some (.bool (decide (a<b))):=rfl
@[simp] theorem ag2:j4 .leq kk a b=some (.bool (decide (a<=b))):=rfl
@[simp] theorem ag3:j4 .gtr kk a b=some (.bool (decide (b<a))):=rfl
@[simp] theorem ag4:j4 .geq kk a b=some (.bool (decide (b<=a))):=rfl
end
@[simp] theorem aao {sz:Nat} {rows:List (List AV)} {i kk n:Nat}:fN st (.n8 sz rows i kk) n=rows[i]?.bind λr=>cut r kk n:=by
 simp only[fN];cases rows[i]?<;>rfl
@[simp] theorem aap {id bU i kk n:Nat}:fN st (.ptr id bU i kk) n=match st[id]? with
  |some (.rows v _ rows)=>if v=bU then rows[i]?.bind λr=>cut r kk n else none
  |_=>none:=by
 simp only[fN];cases st[id]? with
 |none=>rfl
 |some ob=>cases ob with
  |rows v s r=>
   simp only;split
   ·cases r[i]?<;>rfl
   ·rfl
  |map es=>rfl
@[simp] theorem XK (b:Bool):AV.cells (.bool b)=[.bool b]:=rfl
@[simp] theorem V3 (b:Bool):AV.cw (.bool b)=true:=rfl
@[simp] theorem aaq (kk:IntKind) (n:Int):AV.cells (.int kk n)=[.int kk n]:=rfl
@[simp] theorem XL (kk:IntKind) (n:Int):AV.cw (.int kk n)=true:=rfl
@[simp] theorem aar (l:List UInt8):AV.cells (.str l)=[.str l]:=rfl
@[simp] theorem XM (l:List UInt8):AV.cw (.str l)=true:=rfl
@[simp] theorem T5:AV.cells (.eC)=[.eC]:=rfl
@[simp] theorem Su:AV.cw (.eC)=true:=rfl
@[simp] theorem V4:AV.cells (.U)=[.U]:=rfl
@[simp] theorem T6:AV.cw (.U)=true:=rfl
@[simp] theorem T7:AV.cells (.fh)=[.fh]:=rfl
@[simp] theorem Sv:AV.cw (.fh)=true:=rfl
@[simp] theorem V5:AV.cells (.gV)=[.gV]:=rfl
@[simp] theorem T8:AV.cw (.gV)=true:=rfl
@[simp] theorem V6:AV.cells (.jt)=[.jt]:=rfl
@[simp] theorem T9:AV.cw (.jt)=true:=rfl
@[simp] theorem aas (s:Nat) (r:List (List AV)):AV.cells (.cU s r)=[.cU s r]:=rfl
@[simp] theorem XN (s:Nat) (r:List (List AV)):AV.cw (.cU s r)=true:=rfl
@[simp] theorem aat (s:Nat) (r:List (List AV)):AV.cells (.own s r)=[.own s r]:=rfl
@[simp] theorem XO (s:Nat) (r:List (List AV)):AV.cw (.own s r)=true:=rfl
@[simp] theorem aau:AV.cells (.emp)=[.emp]:=rfl
@[simp] theorem XP:AV.cw (.emp)=true:=rfl
@[simp] theorem acs (a b:Nat):AV.cells (.mu a b)=[.mu a b]:=rfl
@[simp] theorem aav (a b:Nat):AV.cw (.mu a b)=true:=rfl
@[simp] theorem aaw (a b c d:Nat):AV.cells (.ptr a b c d)=[.ptr a b c d]:=rfl
@[simp] theorem XQ (a b c d:Nat):AV.cw (.ptr a b c d)=true:=rfl
@[simp] theorem aax (a:Nat) (r:List (List AV)) (c d:Nat):AV.cells (.n8 a r c d)=[.n8 a r c d]:=rfl
@[simp] theorem XR (a:Nat) (r:List (List AV)) (c d:Nat):AV.cw (.n8 a r c d)=true:=rfl
@[simp] theorem aay (a:Nat):AV.cells (.map a)=[.map a]:=rfl
@[simp] theorem XS (a:Nat):AV.cw (.map a)=true:=rfl
@[simp] theorem acu (f:Nat) (a b:List AV):AV.cells (.fn f a b)=[.fn f a b]:=rfl
@[simp] theorem aaz (f:Nat) (a b:List AV):AV.cw (.fn f a b)=true:=rfl
@[simp] theorem XT:AV.cells (.gone)=[.gone]:=rfl
@[simp] theorem V8:AV.cw (.gone)=true:=rfl
@[simp] theorem aaA (cs:List AV):AV.cells (.agg cs)=cs:=rfl
@[simp] theorem Ua:AV.aK []=true:=rfl
@[simp] theorem Sw (a:AV) (l:List AV):AV.aK (a::l)=(a.cw&&AV.aK l):=rfl
attribute [simp] fG gO af
theorem wrap64 {n:Int}(h1 : -9223372036854775808<=n)(h2:n<=9223372036854775807):IntKind.i64.wrap n=n:=IntWalk.i64_in n ⟨h1,h2⟩
end Ax
namespace Ax
open Go
variable {S:Nat->Option aC}{wl aa:Nat}{rs:List jP}{Q:Ex->St->Prop}{k:List Bz}{st:an}{bx:aX}
def G6 (rs:List jP)(m:Mode)(st:an)(r:AV×an)(x:Ex)(s:St):Prop:=∃v,CS rs x s=some v/\m.fin st v s.st=some r
theorem ay {f:Nat}{sf:aC}(hf:S f=some sf){args:List AV}(ha:alone sf args=false)(hl:args.length=sf.nparams){r:AV×an}
  (h:W S (sf.mode.v9 st.length wl) (sf.mode.oX st.length aa) sf.results (G6 sf.results sf.mode st r) [.code sf.body] .normal (oY sf args st)) :
  (aU S).call wl aa f args st=some r:=Mm hf ha hl h
@[simp] theorem G7 {m:Mode} {r:AV×an} {v:AV} {s:St}:G6 rs m st r (.ret v) s↔m.fin st v s.st=some r:=by
 simp[G6,CS]
@[simp] theorem O2 {m:Mode} {r:AV×an} {s:St}:G6 rs m st r .normal s↔∃v,v8 s rs=some v/\m.fin st v s.st=some r:=Iff.rfl
def G8 (rs:List jP)(v:AV)(x:Ex)(s:St):Prop:=CS rs x s=some v
@[simp] theorem aaB {v u:AV} {s:St}:G8 rs v (.ret u) s↔u=v:=by simp[G8,CS]
@[simp] theorem aaC {v:AV} {s:St}:G8 rs v .normal s↔v8 s rs=some v:=Iff.rfl
theorem bf {f:Nat}{sf:aC}(hf:S f=some sf)(hm:sf.mode=.pure){args:List AV}(hp:AV.ai args=true)(hl:args.length=sf.nparams){v:AV}(hv:v.au=true)
  (h:W S 0 0 sf.results (G8 sf.results v) [.code sf.body] .normal (oY sf args [])) :
  (aU S).call wl aa f args st=some (v,st):=Mn hf hm hp hl hv h
theorem acv {α:Type}{c b:bG}(h:c=b)(f:α->St)(I:α->Prop)(μ:α->Nat)
  (round:∀a,I a->(∀a',I a'->μ a'<μ a->W S wl aa rs Q (.code (.loop c)::k) .normal (f a'))->W S wl aa rs Q (.code b::.again c::k) .normal (f a)) :
  ∀a,I a->W S wl aa rs Q (.code (.loop c)::k) .normal (f a):=by
 have key:∀n a,μ a=n->I a->W S wl aa rs Q (.code (.loop c)::k) .normal (f a):=by
  intro n
  induction n using Nat.strongRecOn with
  |_ n ih=>
   intro a hn ha
   rw[EJ h]
   exact round a ha λa' h' aV=>ih (μ a') (by omega) a' rfl h'
 exact λa ha=>key _ a rfl ha
def aP:AV->List (List AV)
 |.cU _ r|.own _ r=>r
 |_=>[]
def aG:AV->Bool
 |.U|.emp|.cU _ _|.own _ _=>true
 |_=>false
def cD (sz:Nat):AV->Bool
 |.U|.emp=>true
 |.cU s r|.own s r=>s==sz&&fits sz r
 |_=>false
@[simp] theorem BD (v:AV):aP v.view=aP v:=by cases v<;>simp[aP,AV.view]
@[simp] theorem qW (v:AV):aG v.view=aG v:=by cases v<;>simp[aG,AV.view]
@[simp] theorem yx (sz:Nat) (v:AV):cD sz v.view=cD sz v:=by cases v<;>simp[cD,AV.view]
@[simp] theorem aaD:aP .U=[]:=rfl
@[simp] theorem aaE:aP .emp=[]:=rfl
@[simp] theorem Mo {sz:Nat} {r:List (List AV)}:aP (.cU sz r)=r:=rfl
@[simp] theorem Mp {sz:Nat} {r:List (List AV)}:aP (.own sz r)=r:=rfl
@[simp] theorem acw:aG .U=true:=rfl
@[simp] theorem acy:aG .emp=true:=rfl
@[simp] theorem acz {sz:Nat} {r:List (List AV)}:aG (.cU sz r)=true:=rfl
@[simp] theorem acA {sz:Nat} {r:List (List AV)}:aG (.own sz r)=true:=rfl
@[simp] theorem acB {sz:Nat}:cD sz .U=true:=rfl
@[simp] theorem acC {sz:Nat}:cD sz .emp=true:=rfl
@[simp] theorem iJ {sz s:Nat} {r:List (List AV)}:cD sz (.cU s r)=(s==sz&&fits sz r):=rfl
@[simp] theorem acD {sz s:Nat} {r:List (List AV)}:cD sz (.own s r)=(s==sz&&fits sz r):=rfl
theorem iK {sz:Nat}{v:AV}(h:cD sz v=true):aG v=true:=by cases v<;>simp_all [cD,aG]
@[simp] theorem aaF {v:AV} (h:aG v=true):rowsOf st v=some (aP v):=by cases v<;>simp_all [aG,aP]
@[simp] theorem V9 {v:AV} (h:aG v=true):dy st v=some (aP v):=by cases v<;>simp_all [aG,aP]
@[simp] theorem aeM {sz:Nat} {v:AV} {i:Int} (h:cD sz v=true):zQ sz st v i=if 0<=i/\i<(aP v).length then some (.n8 sz (aP v) i.toNat 0) else none:=by
 by_cases hi:0<=i/\i<(aP v).length
 ·rw[if_pos hi]
  cases v<;>simp[cD]at h
  case U=>have:=hi.2;simp[aP]at this;omega
  case emp=>have:=hi.2;simp[aP]at this;omega
  case cU s r=>simp only[zQ,aP];rw[if_pos ⟨h.1,hi⟩]
  case own s r=>simp only[zQ,aP];rw[if_pos ⟨h.1,hi⟩]
 ·rw[if_neg hi]
  cases v<;>simp[cD]at h
  case U=>rfl
  case emp=>rfl
  case cU s r=>simp only[zQ];rw[if_neg λc=>hi c.2]
  case own s r=>simp only[zQ];rw[if_neg λc=>hi c.2]
mutual
theorem BE:∀v:AV,v.view.view=v.view
 |.own _ _=>rfl
 |.raw _ _=>rfl
 |.agg cs=>by simp only[AV.view];rw[tT cs]
 |.fz cs=>by simp only[AV.view];rw[tT cs]
 |.undef|.gone|.bool _|.int _ _|.str _|.eC|.U|.fh|.gV|.jt|.cU _ _|.emp|.mu _ _|.ptr _ _ _ _|.n8 _ _ _ _|.map _|.fn _ _ _=>rfl
theorem tT:∀cs:List AV,AV.cz (AV.cz cs)=AV.cz cs
 |[]=>rfl
 |c::cs=>by simp only[AV.cz];rw[BE c,tT cs]
end
@[simp] theorem Mq (v:AV):v.view.view=v.view:=BE v
@[simp] theorem bC {v:AV} (h:aG v=true):v.au=true:=by cases v<;>simp_all [aG]
@[simp] theorem acE {v:AV} (h:aG v=true):v.cells=[v]:=by cases v<;>simp_all [aG,AV.cells]
@[simp] theorem bD {v:AV} (h:aG v=true):v.cw=true:=by cases v<;>simp_all [aG,AV.cw]
def cp (sz:Nat)(r:List (List AV)):AV:=if r.isEmpty then .U else .own sz r
@[simp] theorem tU {sz:Nat} {r:List (List AV)}:aP (cp sz r)=r:=by
 cases r<;>rfl
@[simp] theorem dm {sz:Nat} {r:List (List AV)}:aG (cp sz r)=true:=by
 cases r<;>rfl
@[simp] theorem Ag {sz:Nat} {r:List (List AV)}:cD sz (cp sz r)=fits sz r:=by
 cases r<;>simp[cp,cD,fits]
theorem nk {sz:Nat}:cp sz []=.U:=rfl
theorem fL {sz bytes:Nat}{r new:List (List AV)}(hf:fits sz new=true)(hr:(r.length+new.length)*bytes<=room):vv sz bytes (cp sz r) new=some (cp sz (r++new)):=by
 unfold vv
 rw[if_pos hf]
 cases r with
 |nil=>
  cases new with
  |nil=>rfl
  |cons a l=>simp only[cp,List.isEmpty_nil,if_true,List.isEmpty_cons,Bool.false_eq_true,if_false,List.nil_append];rw[if_pos (by simpa using hr)]
 |cons b r=>simp only[cp,List.isEmpty_cons,Bool.false_eq_true,if_false,List.cons_append];rw[if_pos ⟨trivial,hr⟩]
def BF (v:AV)(lo hi:Nat):AV:=match v with
 |.cU s r|.own s r=>.cU s ((r.take hi).drop lo)
 |x=>x
@[simp] theorem aaG {sz:Nat} {v:AV} {lo hi:Int} (h:cD sz v=true):jx false sz v lo hi none=if 0<=lo/\lo<=hi/\hi<=(aP v).length then some (BF v lo.toNat hi.toNat) else none:=by
 by_cases hc:0<=lo/\lo<=hi/\hi<=(aP v).length
 ·rw[if_pos hc]
  cases v<;>simp[cD]at h
  case U=>
   simp[aP]at hc
   have:lo=0/\hi=0:=by omega
   obtain⟨rfl,rfl⟩:=this
   rfl
  case emp=>
   simp[aP]at hc
   have:lo=0/\hi=0:=by omega
   obtain⟨rfl,rfl⟩:=this
   rfl
  case cU s r=>simp only[aP]at hc;simp[jx,BF,h.1,hc]
  case own s r=>simp only[aP]at hc;simp[jx,BF,h.1,hc]
 ·rw[if_neg hc]
  cases v<;>simp[cD]at h
  case U=>
   simp only[jx]
   refine if_neg λh=>hc ?_
   simp at h
   obtain⟨rfl,rfl⟩:=h
   simp[aP]
  case emp=>
   simp only[jx]
   refine if_neg λh=>hc ?_
   simp at h
   obtain⟨rfl,rfl⟩:=h
   simp[aP]
  case cU s r=>
   simp only[jx]
   refine if_neg λh=>hc ?_
   simp at h
   simp only[aP];exact⟨h.1.1.2,h.1.2,h.2⟩
  case own s r=>
   simp only[jx]
   refine if_neg λh=>hc ?_
   simp at h
   simp only[aP];exact⟨h.1.1.2,h.1.2,h.2⟩
@[simp] theorem acF {v:AV} {lo hi:Nat} (h:aG v=true):aG (BF v lo hi)=true:=by
 cases v<;>simp_all [aG,BF]
@[simp] theorem Mr {v:AV} {lo hi:Nat} (h:aG v=true):aP (BF v lo hi)=((aP v).take hi).drop lo:=by
 cases v<;>simp_all [aG,BF,aP]
theorem O3 {sz lo hi:Nat}{r:List (List AV)}(h:fits sz r=true):fits sz ((r.take hi).drop lo)=true:=by
 simp only[fits,List.all_eq_true]at *
 exact λx hx=>h x (List.mem_of_mem_take (List.mem_of_mem_drop hx))
@[simp] theorem O4 {sz:Nat} {v:AV} {lo hi:Nat} (h:cD sz v=true):cD sz (BF v lo hi)=true:=by
 cases v<;>simp_all [cD,BF,O3]
def ints (xs:List Int):List (List AV):=xs.map λn=>[.int .i64 n]
def dI (v:AV):List Int:=(aP v).map λr=>match r with | [.int .i64 n]=>n|_=>0
def th (v:AV):Bool:=cD 1 v&&(aP v).all λr=>match r with | [.int .i64 _]=>true|_=>false
theorem Ah (xs:List Int):((ints xs).map λr=>match r with | [AV.int .i64 n]=>n|_=>(0:Int))=xs:=by
 induction xs with
 |nil=>rfl
 |cons x xs ih=>simp only[ints,List.map_cons]at *;rw[ih]
@[simp] theorem acG (xs:List Int):(ints xs).length=xs.length:=by simp[ints]
@[simp] theorem acH (xs:List Int) (i:Nat) (h:i<(ints xs).length):(ints xs)[i]=[.int .i64 (xs[i]'(by simpa using h))]:=by simp[ints]
@[simp] theorem aaH (xs:List Int):fits 1 (ints xs)=true:=by simp[fits,ints]
@[simp] theorem aaI (xs:List Int) (k:Nat):List.take k (ints xs)=ints (xs.take k):=by simp[ints]
@[simp] theorem XU (xs:List Bool) (k:Nat):List.take k (xs.map λb=>[AV.bool b])=(xs.take k).map λb=>[AV.bool b]:=by simp
@[simp] theorem aaJ (xs:List Int) (k:Nat):List.drop k (ints xs)=ints (xs.drop k):=by simp[ints]
@[simp] theorem Wa (xs ys:List Int):ints xs++ints ys=ints (xs++ys):=by simp[ints]
@[simp] theorem Ub (xs:List Int) (n:Int):ints xs++[[.int .i64 n]]=ints (xs++[n]):=by simp[ints]
theorem l5 {v:AV}(h:th v=true):aP v=ints (dI v):=by
 simp only[th,Bool.and_eq_true,List.all_eq_true]at h
 unfold ints dI
 rw[List.map_map]
 conv=>lhs;rw[<-List.map_id (aP v)]
 refine List.map_congr_left λr hr=>?_
 have:=h.2 r hr
 split at this
 ·rfl
 ·cases this
@[simp] theorem acI (v:AV):th v.view=th v:=by simp[th]
@[simp] theorem aeN (v:AV):dI v.view=dI v:=by simp[dI]
@[simp] theorem XW {v:AV} (h:th v=true):cD 1 v=true:=by simp only[th,Bool.and_eq_true]at h;exact h.1
@[simp] theorem qA {v:AV} (h:th v=true):aG v=true:=iK (XW h)
@[simp] theorem ag5 (xs:List Int):th (cp 1 (ints xs))=true:=by simp[th,ints,fits]
@[simp] theorem ajp (xs:List Int):dI (cp 1 (ints xs))=xs:=by simp only[dI,tU];exact Ah xs
@[simp] theorem aeO:th .U=true:=rfl
@[simp] theorem ag6:dI .U=[]:=rfl
@[simp] theorem aeP (xs:List Int):th (.cU 1 (ints xs))=true:=by simp[th,ints,fits]
@[simp] theorem ag7 (xs:List Int):dI (.cU 1 (ints xs))=xs:=by simp only[dI,Mo];exact Ah xs
@[simp] theorem aeQ (xs:List Int):th (.own 1 (ints xs))=true:=by simp[th,ints,fits]
@[simp] theorem ag8 (xs:List Int):dI (.own 1 (ints xs))=xs:=by simp only[dI,Mp];exact Ah xs
@[simp] theorem aeR {v:AV} {lo hi:Nat} (h:th v=true):th (BF v lo hi)=true:=by
 have h0:=qA h
 simp only[th,Bool.and_eq_true,List.all_eq_true]at *
 refine⟨O4 h.1,λr hr=>?_⟩
 rw[Mr h0]at hr
 exact h.2 r (List.mem_of_mem_take (List.mem_of_mem_drop hr))
@[simp] theorem ag9 {v:AV} {lo hi:Nat} (h:th v=true):dI (BF v lo hi)=((dI v).take hi).drop lo:=by
 simp[dI,qA h,List.map_take,List.map_drop]
@[simp] theorem acJ (n:Int):th (.own 1 [[.int .i64 n]])=true:=rfl
@[simp] theorem acK (n:Int):th (.cU 1 [[.int .i64 n]])=true:=rfl
@[simp] theorem acL (a b:Int):th (.cU 1 [[.int .i64 a],[.int .i64 b]])=true:=rfl
@[simp] theorem aeS (a b:Int):dI (.cU 1 [[.int .i64 a],[.int .i64 b]])=[a,b]:=rfl
@[simp] theorem acM (a b c:Int):th (.cU 1 [[.int .i64 a],[.int .i64 b],[.int .i64 c]])=true:=rfl
@[simp] theorem aeT (a b c:Int):dI (.cU 1 [[.int .i64 a],[.int .i64 b],[.int .i64 c]])=[a,b,c]:=rfl
@[simp] theorem aeU (n:Int):dI (.cU 1 [[.int .i64 n]])=[n]:=rfl
def jh (xs:List Bool):List (List AV):=xs.map λb=>[.bool b]
@[simp] theorem aaK (xs:List Bool):(jh xs).length=xs.length:=by simp[jh]
@[simp] theorem aaL (xs:List Bool) (i:Nat) (h:i<(jh xs).length):(jh xs)[i]=[.bool (xs[i]'(by simpa using h))]:=by simp[jh]
@[simp] theorem aaM (xs:List Bool) (i:Nat) (b:Bool):(jh xs).set i [.bool b]=jh (xs.set i b):=by simp[jh]
@[simp] theorem st0 {α:Type} (st:List α) (a:α) (l:List α):(st++a::l)[st.length]?=some a:=by simp
@[simp] theorem lz {α:Type} (st:List α) (a b:α) (l:List α):(st++a::b::l)[st.length+1]?=some b:=by
 rw[List.getElem?_append_right (by omega)];simp
@[simp] theorem lN {α:Type} (st:List α) (a b c:α) (l:List α):(st++a::b::c::l)[st.length+2]?=some c:=by
 rw[List.getElem?_append_right (by omega)];simp
@[simp] theorem akX {α:Type} (st:List α) (a x:α) (l:List α):(st++a::l).set st.length x=st++x::l:=by simp
@[simp] theorem akY {α:Type} (st:List α) (a b x:α) (l:List α):(st++a::b::l).set (st.length+1) x=st++a::x::l:=by
 rw[List.set_append_right _ _ (by omega)];simp
@[simp] theorem akZ {α:Type} (st:List α) (a b c x:α) (l:List α):(st++a::b::c::l).set (st.length+2) x=st++a::b::x::l:=by
 rw[List.set_append_right _ _ (by omega)];simp
end Ax
namespace Ax
open Go
theorem bu {S:Nat->Option aC}{wl aa:Nat}{rs:List jP}{Q:Ex->St->Prop}{k:List Bz}{α:Type}{c b:bG}{s:St}(h:c=b)(f:α->St)(I:α->Prop)(μ:α->Nat)(a0:α)(hs:s=f a0)(h0:I a0)
  (round:∀a,I a->(∀a',I a'->μ a'<μ a->W S wl aa rs Q (.code (.loop c)::k) .normal (f a'))->W S wl aa rs Q (.code b::.again c::k) .normal (f a)) :
  W S wl aa rs Q (.code (.loop c)::k) .normal s:=by
 subst hs
 exact acv h f I μ round a0 h0
def NO (v:AV):List AV:=(aP v).map λr=>r.headD .undef
def BG (v:AV):Bool:=cD 1 v&&(aP v).all λr=>match r with | [x]=>th x|_=>false
def dII (v:AV):List (List Int):=(NO v).map dI
theorem O5 {v:AV}(h:BG v=true):aP v=(NO v).map λx=>[x]:=by
 simp only[BG,Bool.and_eq_true,List.all_eq_true]at h
 unfold NO
 rw[List.map_map]
 conv=>lhs;rw[<-List.map_id (aP v)]
 refine List.map_congr_left λr hr=>?_
 have:=h.2 r hr
 split at this
 ·rfl
 ·cases this
theorem XX {v:AV}(h:BG v=true):∀x∈NO v,th x=true:=by
 intro x hx
 have h1:=O5 h
 simp only[BG,Bool.and_eq_true,List.all_eq_true]at h
 have:[x]∈aP v:=by rw[h1];exact List.mem_map.2 ⟨x,hx,rfl⟩
 exact h.2 _ this
@[simp] theorem acO (v:AV):NO v.view=NO v:=by simp[NO]
@[simp] theorem aaN (v:AV):BG v.view=BG v:=by simp[BG]
@[simp] theorem acP (v:AV):dII v.view=dII v:=by simp[dII]
@[simp] theorem Uc {v:AV} (h:BG v=true):cD 1 v=true:=by simp only[BG,Bool.and_eq_true]at h;exact h.1
@[simp] theorem aeV {v:AV} (h:BG v=true):aG v=true:=iK (Uc h)
@[simp] theorem aeW (v:AV):(dII v).length=(NO v).length:=by simp[dII]
@[simp] theorem aeX {v:AV} (h:BG v=true) (i:Nat) (hi:i<(NO v).length):th (NO v)[i]=true:=XX h _ (List.getElem_mem _)
end Ax
namespace Ax
@[simp] theorem cast_eq (a b:Nat):((a:Int)=(b:Int))↔a=b:=Int.natCast_inj
end Ax
namespace Ax
open Go
theorem O6 {S:Nat->Option aC}{f:Nat}{sf:aC}(hf:S f=some sf)(hm:sf.mode=.pure){args:List AV}(hp:AV.ai args=true){v:AV}{st0:an}(h:(aU S).call 0 0 f args []=some (v,st0))(wl aa:Nat)(st:an) :
  (aU S).call wl aa f args st=some (v,st):=by
 rw[ye,hf]at h ⊢
 have ha:alone sf args=true:=by simp[alone,hm,hp]
 simp only[dO,ha,if_true]at h ⊢
 cases hc:cQ (aU S) 0 0 sf args [] with
 |none=>rw[hc]at h;cases h
 |some x=>rw[hc]at h;cases h;rfl
end Ax
namespace Ax
open Go
variable {P:Program}
theorem XY {t:TypeId}{as:List AV}(h1:P.underlying t=some .string)(h:Ty P t as):∃l:List UInt8,as=[.str l]/\l.length<=maxLen:=by
 cases h with
 |str hu l hl=>exact⟨l,rfl,hl⟩
 |bool hu=>rw[h1]at hu;cases hu
 |int hu=>rw[h1]at hu;cases hu
 |U hu=>rw[h1]at hu;cases hu
 |emp hu=>rw[h1]at hu;cases hu
 |cU hu=>rw[h1]at hu;cases hu
 |ab1 hu=>rw[h1]at hu;cases hu
theorem Ud {t:TypeId}{a:AV}(h1:∀fs,P.underlying t≠some (.struct fs))(h:TyV P t a):Ty P t [a]:=by
 rcases h with⟨fs,as,h2,_⟩|⟨_,h2⟩
 ·exact absurd h2 (h1 fs)
 ·exact h2
theorem O7 {t:TypeId}{as:List AV}(h:TJ P [t] as):∃a,as=[a]/\TyV P t a:=by
 match as,h with
 |[a],h=>exact⟨a,rfl,h.1⟩
end Ax
namespace Ax
open Go
noncomputable def G9 (env:Env) (t:Nat):dX:=List.rec (motive:=λ_=>dX) dX.none (λp _ ih=>match Nat.beq p.1 t with|true=>p.2|false=>ih) env
noncomputable def O8 (env:Env) (t:Nat) (e:dX):Env:=List.rec (motive:=λ_=>Env) [(t,e)] (λp r ih=>match Nat.ble p.1 t with
  |false=>(t,e)::p::r
  |true=>match Nat.beq p.1 t with
   |true=>(t,e)::r
   |false=>p::ih) env
noncomputable def DI (env:Env) (t:Nat):Env:=List.rec (motive:=λ_=>Env) [] (λp _ ih=>match Nat.beq p.1 t with|true=>ih|false=>p::ih) env
theorem BH {k t:Nat}(h:¬k=t):Nat.beq k t=false:=by
 cases hb:Nat.beq k t with
 |false=>rfl
 |true=>exact absurd (Nat.eq_of_beq_eq_true hb) h
theorem xz {k t:Nat}(h:k=t):Nat.beq k t=true:=by subst h;exact Nat.beq_refl k
theorem He:G9=cC:=by
 funext env t
 induction env with
 |nil=>rfl
 |cons p r ih=>
  obtain⟨k,e⟩:=p
  show (match Nat.beq k t with|true=>e|false=>G9 r t)=cC ((k,e)::r) t
  rw[ih]
  show _=(if k=t then e else cC r t)
  by_cases h:k=t
  ·rw[xz h,if_pos h]
  ·rw[BH h,if_neg h]
theorem O9:O8=tq:=by
 funext env t e
 induction env with
 |nil=>rfl
 |cons p r ih=>
  obtain⟨k,x⟩:=p
  show (match Nat.ble k t with
   |false=>(t,e)::(k,x)::r
   |true=>match Nat.beq k t with
    |true=>(t,e)::r
    |false=>(k,x)::O8 r t e)=tq ((k,x)::r) t e
  rw[ih]
  show _=(if t<k then (t,e)::(k,x)::r else if t=k then (t,e)::r else (k,x)::tq r t e)
  by_cases h:t<k
  ·have:Nat.ble k t=false:=by
    cases hb:Nat.ble k t with
    |false=>rfl
    |true=>have:=Nat.le_of_ble_eq_true hb;omega
   rw[this,if_pos h]
  ·have:Nat.ble k t=true:=Nat.ble_eq_true_of_le (by omega)
   rw[this,if_neg h]
   by_cases h2:t=k
   ·rw[xz h2.symm,if_pos h2]
   ·rw[BH (λe=>h2 e.symm),if_neg h2]
theorem Hf:DI=zC:=by
 funext env t
 induction env with
 |nil=>rfl
 |cons p r ih=>
  obtain⟨k,x⟩:=p
  show (match Nat.beq k t with|true=>DI r t|false=>(k,x)::DI r t)=(if k=t then zC r t else (k,x)::zC r t)
  rw[ih]
  by_cases h:k=t
  ·rw[xz h,if_pos h]
  ·rw[BH h,if_neg h]
noncomputable def Hh (v:AV):AV:=match v with
 |.own sz rows=>.cU sz rows
 |.raw _ _=>.gone
 |.agg cs=>(AV.agg cs).view
 |.fz cs=>(AV.fz cs).view
 |v=>v
theorem Hi (v:AV):Hh v=v.view:=by cases v<;>simp[Hh,AV.view]
noncomputable def EK (l:List AV):List AV:=List.rec (motive:=λ_=>List AV) [] (λv _ ih=>Hh v::ih) l
theorem DJ (l:List AV):EK l=AV.cz l:=by
 induction l with
 |nil=>rfl
 |cons v l ih=>
  show Hh v::EK l=_
  rw[ih,Hi];rfl
noncomputable def KN (v:AV):Bool:=match v with
 |.mu _ _|.ptr _ _ _ _|.map _=>false
 |.agg cs=>(AV.agg cs).au
 |.fz cs=>(AV.fz cs).au
 |.fn f a b=>(AV.fn f a b).au
 |_=>true
theorem Pa (v:AV):KN v=v.au:=by cases v<;>simp[KN,AV.au]
noncomputable def EL (l:List AV):Bool:=List.rec (motive:=λ_=>Bool) true (λv _ ih=>match KN v with|true=>ih|false=>false) l
theorem Ms (l:List AV):EL l=AV.ai l:=by
 induction l with
 |nil=>rfl
 |cons v l ih=>
  show (match KN v with|true=>EL l|false=>false)=_
  rw[ih,Pa]
  simp only[AV.ai]
  cases v.au<;>simp
noncomputable def Pb (e:dX):dX:=match e with|.val v=>.val (Hh v)|.none=>.none|.fp j k=>.fp j k
theorem Pc (e:dX):Pb e=e.view:=by cases e<;>simp[Pb,dX.view,Hi]
noncomputable def Pd (env:Env) (x:Src):dX:=match x with
 |.tmp t mv=>match mv with|true=>G9 env t|false=>Pb (G9 env t)
 |.const a=>.val a
theorem KO:Pd=FZ:=by
 funext env x
 unfold Pd FZ
 rw[He]
 cases x with
 |tmp t mv=>
  cases mv
  ·exact Pc _
  ·rfl
 |const a=>rfl
noncomputable def tV (env:Env) (x:Src):Env:=match x with
 |.tmp t mv=>match mv with|true=>DI env t|false=>env
 |.const _=>env
theorem DK:tV=kU:=by
 funext env x
 unfold tV kU
 rw[Hf]
 cases x with
 |tmp t mv=>cases mv<;>rfl
 |const a=>rfl
noncomputable def qi (l:List Nat) (env:Env):Env:=List.rec (motive:=λ_=>Env->Env) (λenv=>env) (λt _ ih env=>ih (DI env t)) l env
theorem BI:qi=gX:=by
 funext l
 induction l with
 |nil=>rfl
 |cons t l ih=>
  funext env
  show qi l (DI env t)=gX l (zC env t)
  rw[ih,Hf]
noncomputable def DL (env:Env) (dst:Option Nat) (e:dX):Env:=match dst with|some d=>O8 env d e|none=>env
theorem Pe:DL=vp:=by
 funext env d e
 unfold DL vp
 rw[O9]
 rfl
noncomputable def BJ (env:Env) (g:Option (Nat×Bool)):Option Bool:=match g with
 |none=>some true
 |some (t,b)=>match G9 env t with
  |.val (.bool c)=>some (c==b)
  |.val .undef=>some false
  |_=>none
theorem Hj:BJ=kZ:=by
 funext env g
 unfold BJ kZ
 rw[He]
 rfl
noncomputable def Pf (env:Env) (l:List Src):List dX:=List.rec (motive:=λ_=>List dX) [] (λx _ ih=>Pd env x::ih) l
theorem Ph (env:Env)(l:List Src):Pf env l=l.map (FZ env):=by
 induction l with
 |nil=>rfl
 |cons x l ih=>
  show Pd env x::Pf env l=_
  rw[ih,KO];rfl
noncomputable def BK (env:Env) (l:List Src):Env:=List.rec (motive:=λ_=>Env->Env) (λenv=>env) (λx _ ih env=>ih (tV env x)) l env
theorem Mt (l:List Src):∀env,BK env l=l.foldl kU env:=by
 induction l with
 |nil=>exact λ_=>rfl
 |cons x l ih=>
  intro env
  show BK (tV env x) l=_
  rw[ih,DK];rfl
noncomputable def Ue (O:jo) (wl aa:Nat) (op:cL) (vals:List dX) (st:an) (bx:aX):Option (dX×an×aX):=match op with
 |.move=>match vals with
  |[e]=>some (e,st,bx)
  |_=>none
 |.load agg n take=>match take with
  |true=>aL wl aa (.load agg n true) vals st bx
  |false=>match vals with
   |[.val p]=>match fN st p n with
    |some cs=>match bZ agg (EK cs) with|some v=>some (.val v,st,bx)|none=>none
    |none=>none
   |_=>none
 |.aj j agg n take=>match take with
  |true=>aL wl aa (.aj j agg n true) vals st bx
  |false=>match vals with
   |[.fp j' k]=>match Nat.beq j j' with
    |true=>match bx[j]? with
     |some row=>match cut row k n with
      |some cs=>match bZ agg (EK cs) with|some v=>some (.val v,st,bx)|none=>none
      |none=>none
     |none=>none
    |false=>none
   |_=>none
 |.call f=>eY O wl aa (kV (.call f) vals) st bx
 |.oV=>eY O wl aa (kV .oV vals) st bx
 |op=>aL wl aa op vals st bx
theorem Uf (O:jo)(wl aa:Nat)(op:cL)(vals:List dX)(st:an)(bx:aX):Ue O wl aa op vals st bx=act O wl aa op vals st bx:=by
 cases op
 case load agg n take=>
  cases take with
  |true=>rfl
  |false=>
   simp only[Ue,act,aL,DJ]
   rfl
 case aj j agg n take=>
  cases take with
  |true=>rfl
  |false=>
   rcases vals with _|⟨e,_|⟨e2,l⟩⟩
   ·rfl
   ·cases e with
    |none=>rfl
    |val v=>rfl
    |fp j' k=>
     simp only[Ue,act,aL,DJ]
     by_cases h:j=j'
     ·rw[xz h,if_pos h];rfl
     ·rw[BH h,if_neg h]
   ·cases e<;>rfl
 all_goals rfl
noncomputable def Ai (O:jo) (wl aa:Nat) (o:aZ) (s:St):Option St:=
 match BJ s.env o.guard with
 |none=>none
 |some false=>some { s with env:=DL s.env o.dst (.val .undef) }
 |some true=>
  match Ue O wl aa o.op (Pf s.env o.args) s.st s.bx with
  |none=>none
  |some (e,bP,eR)=>
   match o.op.aF with
   |none=>some ⟨DL (BK s.env o.args) o.dst e,eR,bP⟩
   |some j=>if cP j (DL (BK s.env o.args) o.dst .none) then some ⟨DL (BK s.env o.args) o.dst e,eR,bP⟩ else none
theorem Ju (O:jo)(wl aa:Nat)(o:aZ)(s:St):Ai O wl aa o s=evalOp O wl aa o s:=by
 unfold Ai evalOp
 rw[Hj,Pe,Ph,Mt,Uf]
 rfl
noncomputable def qX (O:jo) (wl aa:Nat) (l:List aZ) (s:St):Option St:=List.rec (motive:=λ_=>St->Option St) (λs=>some s)
 (λo _ ih s=>match Ai O wl aa o s with|some s'=>ih s'|none=>none) l s
theorem zg (O:jo)(wl aa:Nat):∀(l:List aZ)(s:St),qX O wl aa l s=eM O wl aa l s:=by
 intro l
 induction l with
 |nil=>exact λ_=>rfl
 |cons o l ih=>
  intro s
  show (match Ai O wl aa o s with|some s'=>qX O wl aa l s'|none=>none)=_
  rw[Ju]
  unfold eM
  cases evalOp O wl aa o s with
  |none=>rfl
  |some s'=>exact ih s'
noncomputable def yy (O:jo) (wl aa:Nat) (ops:List aZ) (bH:List (Nat×Nat)) (s:St):Option St:=match bH with
 |[]=>match ops.all (aI s.env) with
  |true=>qX O wl aa ops s
  |false=>none
 |p::l=>fH O wl aa ops (p::l) s
theorem EM (O:jo)(wl aa:Nat)(ops:List aZ)(bH:List (Nat×Nat))(s:St):yy O wl aa ops bH s=fH O wl aa ops bH s:=by
 cases bH with
 |cons p l=>rfl
 |nil=>
  show (match ops.all (aI s.env) with|true=>qX O wl aa ops s|false=>none)=_
  cases h:ops.all (aI s.env) with
  |true=>rw[rU h];exact zg ..
  |false=>
   unfold fH
   cases dD O wl aa ops s with
   |none=>rfl
   |some y=>simp[h]
noncomputable def Aj (env:Env) (c:Src):Option Bool:=
 match Pd env c with
 |.val (.bool b)=>some b
 |_=>none
theorem Jv:Aj=oW:=by
 funext env c
 unfold Aj oW
 rw[KO]
 rfl
noncomputable def EN (O:jo) (wl aa:Nat) (rs:List jP) (c:bG):St->Option (Ex×St):=bG.rec (motive:=λ_=>St->Option (Ex×St))
 (λs=>some (Ex.normal,s))
 (λops draw dc s=>
  match (match draw with|none=>qX O wl aa ops s|some bH=>yy O wl aa ops bH s) with
  |some s'=>some (Ex.normal,{ s' with env:=qi dc s'.env })
  |none=>none)
 (λ_ _ ia ib s=>match ia s with
  |some (Ex.normal,s')=>ib s'
  |r=>r)
 (λc ca _ cb _ ia ib s=>match Aj s.env c with
  |some true=>ia { s with env:=qi ca (tV s.env c) }
  |some false=>ib { s with env:=qi cb (tV s.env c) }
  |none=>none)
 (λid _ ic s=>match ic s with
  |some (Ex.exit VB,s')=>if VB=id then some (Ex.normal,s') else some (Ex.exit VB,s')
  |r=>r)
 (λc _ s=>O.loop wl aa rs c s)
 (λid s=>some (Ex.exit id,s))
 (λs=>match v8 s rs with|some v=>some (Ex.ret v,⟨[],[],s.st⟩)|none=>none)
 (λt s=>gu O wl aa rs (.NP t) s)
 (λj k s=>gu O wl aa rs (.AE j k) s)
 (λt off s=>gu O wl aa rs (.vo t off) s) c
theorem KP (O:jo)(wl aa:Nat)(rs:List jP):∀(c:bG)(s:St),EN O wl aa rs c s=gu O wl aa rs c s:=by
 intro c
 induction c with
 |skip=>exact λ_=>rfl
 |region ops draw dc=>
  intro s
  show (match (match draw with|none=>qX O wl aa ops s|some bH=>yy O wl aa ops bH s) with
  |some s'=>some (Ex.normal,{ s' with env:=qi dc s'.env })
  |none=>none)=_
  rw[BI]
  simp only[gu]
  cases draw with
  |none=>rw[zg];rfl
  |some p=>simp only[EM];rfl
 |seq a b ia ib=>
  intro s
  show (match EN O wl aa rs a s with
  |some (Ex.normal,s')=>EN O wl aa rs b s'
  |r=>r)=_
  rw[ia]
  simp only[gu]
  cases gu O wl aa rs a s with
  |none=>rfl
  |some y=>
   obtain⟨x,s'⟩:=y
   cases x with
   |normal=>exact ib s'
   |exit _=>rfl
   |ret _=>rfl
 |cond c ca a cb b ia ib=>
  intro s
  show (match Aj s.env c with
  |some true=>EN O wl aa rs a { s with env:=qi ca (tV s.env c) }
  |some false=>EN O wl aa rs b { s with env:=qi cb (tV s.env c) }
  |none=>none)=_
  rw[Jv,BI,DK]
  simp only[gu]
  cases oW s.env c with
  |none=>rfl
  |some z=>cases z with
   |true=>exact ia _
   |false=>exact ib _
 |block id c ic=>
  intro s
  show (match EN O wl aa rs c s with
  |some (Ex.exit VB,s')=>if VB=id then some (Ex.normal,s') else some (Ex.exit VB,s')
  |r=>r)=_
  rw[ic]
  rfl
 |loop c _=>exact λ_=>rfl
 |exit id=>exact λ_=>rfl
 |ret=>exact λ_=>rfl
 |NP t=>exact λ_=>rfl
 |AE j k=>exact λ_=>rfl
 |vo t off=>exact λ_=>rfl
noncomputable def rW (O:jo) (wl aa:Nat) (sf:aC) (args:List AV) (st:an):Option (AV×an):=
 match Nat.beq args.length sf.nparams with
 |true=>match EN O (sf.mode.v9 st.length wl) (sf.mode.oX st.length aa) sf.results sf.body (oY sf args st) with
  |some (x,s)=>match CS sf.results x s with
   |some v=>sf.mode.fin st v s.st
   |none=>none
  |none=>none
 |false=>none
theorem vP (O:jo)(wl aa:Nat)(sf:aC)(args:List AV)(st:an):rW O wl aa sf args st=cQ O wl aa sf args st:=by
 unfold rW cQ
 rw[KP]
 by_cases h:args.length=sf.nparams
 ·rw[xz h,if_pos h]
  rfl
 ·rw[BH h,if_neg h]
noncomputable def uS (O:jo) (wl aa:Nat) (sf:aC) (args:List AV) (st:an):Option (AV×an):=
 match (match sf.mode with|.pure=>EL args|_=>false) with
 |true=>(match rW O 0 0 sf args [] with|some r=>some (r.1,st)|none=>none)
 |false=>rW O wl aa sf args st
theorem EO (O:jo)(wl aa:Nat)(sf:aC)(args:List AV)(st:an):uS O wl aa sf args st=dO O wl aa sf args st:=by
 unfold uS dO
 rw[vP,vP]
 have:(match sf.mode with|.pure=>EL args|_=>false)=alone sf args:=by
  unfold alone
  rw[Ms]
  cases sf.mode<;>simp
 rw[this]
 cases alone sf args with
 |true=>simp only[if_true];cases cQ O 0 0 sf args []<;>rfl
 |false=>simp
noncomputable def Mu (S:Nat->Option aC) (n:Nat):jo:=Nat.rec (motive:=λ_=>jo)
 ⟨λ_ _ _ _ _=>none,λ_ _ _ _ _=>none⟩
 (λ_ ih=>⟨λwl aa f args st=>match S f with
   |some sf=>uS ih wl aa sf args st
   |none=>none,
   λwl aa rs c s=>match EN ih wl aa rs c s with
   |some (Ex.normal,s')=>ih.loop wl aa rs c s'
   |r=>r⟩) n
theorem Ug (S:Nat->Option aC):∀n,Mu S n=nQ S n:=by
 intro n
 induction n with
 |zero=>rfl
 |succ n ih=>
  show (⟨λwl aa f args st=>match S f with
   |some sf=>uS (Mu S n) wl aa sf args st
   |none=>none,
   λwl aa rs c s=>match EN (Mu S n) wl aa rs c s with
   |some (Ex.normal,s')=>(Mu S n).loop wl aa rs c s'
   |r=>r⟩:jo)=nQ S (n+1)
  rw[ih]
  simp only[EO,KP]
  rfl
theorem XZ {S:Nat->Option aC}{n wl aa f:Nat}{args:List AV}{st:an}{r:AV×an}(h:(Mu S n).call wl aa f args st=some r):(aU S).call wl aa f args st=some r:=by
 rw[Ug]at h
 exact(oq S n).call _ _ _ _ _ _ h
def X1 (x:Option (AV×an)):Bool:=match x with|some (.bool b,[])=>b|_=>false
theorem Uh {x:Option (AV×an)}(h:X1 x=true):x=some (.bool true,[]):=by
 unfold X1 at h
 split at h
 ·subst h;rfl
 ·cases h
end Ax
namespace Ax
@[simp] abbrev Src.t (n:Nat):Src:=.tmp n false
@[simp] abbrev Src.T (n:Nat):Src:=.tmp n true
@[simp] abbrev aZ.o (d:Nat) (op:cL) (args:List Src):aZ:=⟨some d,op,args,none⟩
@[simp] abbrev aZ.n (op:cL) (args:List Src):aZ:=⟨none,op,args,none⟩
@[simp] abbrev aZ.y (d:Nat) (op:cL) (args:List Src) (t:Nat):aZ:=⟨some d,op,args,some (t,true)⟩
@[simp] abbrev aZ.z (d:Nat) (op:cL) (args:List Src) (t:Nat):aZ:=⟨some d,op,args,some (t,false)⟩
@[simp] abbrev Src.b (x:Bool):Src:=.const (.bool x)
@[simp] abbrev AV.i (n:Int):AV:=.int .i64 n
@[simp] abbrev Src.i (n:Int):Src:=.const (.int .i64 n)
@[simp] abbrev aZ.m (d:Nat) (a:Src):aZ:=⟨some d,.move,[a],none⟩
@[simp] abbrev aZ.f (d k:Nat) (a:Src):aZ:=⟨some d,.fieldAddr k,[a],none⟩
@[simp] abbrev aZ.l (d i:Nat) (a:Src):aZ:=⟨some d,.aj i false 1 false,[a],none⟩
@[simp] abbrev aZ.d (d:Nat) (a:Src):aZ:=⟨some d,.load false 1 false,[a],none⟩
@[simp] abbrev bG.r:=bG.region
@[simp] abbrev aZ.c (d f:Nat) (args:List Src):aZ:=⟨some d,.call f,args,none⟩
@[simp] abbrev bG.g (l:List aZ) (c:List Nat):bG:=.region l none c
end Ax
