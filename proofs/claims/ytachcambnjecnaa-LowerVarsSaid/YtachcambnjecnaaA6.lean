/- The library of this proof, part 6: an abstract interpreter of the loaded code, and its soundness. -/
import Derived.Test.YtachcambnjecnaaA5
import Derived.IntWalk

namespace Ax
open Go
inductive Bf where
 |ops (l:List aU) (dx:List Nat)
 |code (c:bG)
 |iQ (id:Nat)
 |again (c:bG)
def feed (O:jf)(wl aa:Nat)(rs:List jA):List Bf->Ex->St->Option (Ex×St)
 |[],x,s=>some (x,s)
 |.iQ id::k,x,s=>match x with
  |.normal=>feed O wl aa rs k .normal s
  |.exit i=>if i=id then feed O wl aa rs k .normal s else feed O wl aa rs k (.exit i) s
  |.ret v=>feed O wl aa rs k (.ret v) s
 |.ops l dx::k,x,s=>match x with
  |.normal=>match eC O wl aa l s with|some s'=>feed O wl aa rs k .normal { s' with env:=gH dx s'.env } | none=>none
  |x=>feed O wl aa rs k x s
 |.code c::k,x,s=>match x with
  |.normal=>match gm O wl aa rs c s with|some (x',s')=>feed O wl aa rs k x' s'|none=>none
  |x=>feed O wl aa rs k x s
 |.again c::k,x,s=>match x with
  |.normal=>match gm O wl aa rs (.loop c) s with|some (x',s')=>feed O wl aa rs k x' s'|none=>none
  |x=>feed O wl aa rs k x s
def W (S:Nat->Option aC)(wl aa:Nat)(rs:List jA)(Q:Ex->St->Prop)(k:List Bf)(x:Ex)(s:St):Prop:=∃x' s',feed (aW S) wl aa rs k x s=some (x',s')/\Q x' s'
variable {S:Nat->Option aC}{wl aa:Nat}{rs:List jA}{Q:Ex->St->Prop}{k:List Bf}{s:St}
theorem abg {x:Ex}:W S wl aa rs Q [] x s↔Q x s:=by
 unfold W feed
 constructor
 ·rintro⟨x',s',h,hq⟩;cases h;exact hq
 ·intro h;exact⟨x,s,rfl,h⟩
theorem abh {id:Nat}:W S wl aa rs Q (.iQ id::k) .normal s↔W S wl aa rs Q k .normal s:=Iff.rfl
theorem WA {id i:Nat}:W S wl aa rs Q (.iQ id::k) (.exit i) s↔if i=id then W S wl aa rs Q k .normal s else W S wl aa rs Q k (.exit i) s:=by
 unfold W
 simp only[feed]
 split<;>exact Iff.rfl
theorem WB {id:Nat}{v:AV}:W S wl aa rs Q (.iQ id::k) (.ret v) s↔W S wl aa rs Q k (.ret v) s:=Iff.rfl
theorem WD {l:List aU}{dx:List Nat}{i:Nat}:W S wl aa rs Q (.ops l dx::k) (.exit i) s↔W S wl aa rs Q k (.exit i) s:=Iff.rfl
theorem WE {l:List aU}{dx:List Nat}{v:AV}:W S wl aa rs Q (.ops l dx::k) (.ret v) s↔W S wl aa rs Q k (.ret v) s:=Iff.rfl
theorem S6 {c:bG}{i:Nat}:W S wl aa rs Q (.code c::k) (.exit i) s↔W S wl aa rs Q k (.exit i) s:=Iff.rfl
theorem S7 {c:bG}{v:AV}:W S wl aa rs Q (.code c::k) (.ret v) s↔W S wl aa rs Q k (.ret v) s:=Iff.rfl
theorem Oq {c:bG}{i:Nat}:W S wl aa rs Q (.again c::k) (.exit i) s↔W S wl aa rs Q k (.exit i) s:=Iff.rfl
theorem Ot {c:bG}{v:AV}:W S wl aa rs Q (.again c::k) (.ret v) s↔W S wl aa rs Q k (.ret v) s:=Iff.rfl
theorem WG {dx:List Nat}:W S wl aa rs Q (.ops [] dx::k) .normal s↔W S wl aa rs Q k .normal { s with env:=gH dx s.env }:=Iff.rfl
theorem afS {o:aU}{l:List aU}{dx:List Nat}:W S wl aa rs Q (.ops (o::l) dx::k) .normal s↔∃s',evalOp (aW S) wl aa o s=some s'/\W S wl aa rs Q (.ops l dx::k) .normal s':=by
 unfold W
 simp only[feed,eC]
 cases evalOp (aW S) wl aa o s with
 |none=>simp
 |some s'=>simp
theorem WH:W S wl aa rs Q (.code .skip::k) .normal s↔W S wl aa rs Q k .normal s:=Iff.rfl
theorem WI {id:Nat}:W S wl aa rs Q (.code (.exit id)::k) .normal s↔W S wl aa rs Q k (.exit id) s:=Iff.rfl
theorem abi:W S wl aa rs Q (.code .ret::k) .normal s↔∃v,u9 s rs=some v/\W S wl aa rs Q k (.ret v) ⟨[],[],s.st⟩:=by
 unfold W
 simp only[feed,gm]
 cases u9 s rs with
 |none=>simp
 |some v=>simp
theorem abj {a b:bG}:W S wl aa rs Q (.code (.seq a b)::k) .normal s↔W S wl aa rs Q (.code a::.code b::k) .normal s:=by
 unfold W
 simp only[feed,gm]
 cases h:gm (aW S) wl aa rs a s with
 |none=>simp
 |some y=>
  obtain⟨x,s'⟩:=y
  cases x<;>simp
theorem Ou {l:List aU}{dx:List Nat}:W S wl aa rs Q (.code (.region l none dx)::k) .normal s↔W S wl aa rs Q (.ops l dx::k) .normal s:=by
 unfold W
 simp only[feed,gm]
 cases h:eC (aW S) wl aa l s with
 |none=>simp
 |some s'=>simp
theorem yV {O:jf}:∀{l:List aU}{s:St},(dm O wl aa l s).map (·.1)=eC O wl aa l s
 |[],s=>rfl
 |o::l,s=>by
  simp only[dm,eC]
  cases h:evalOp O wl aa o s with
  |none=>rfl
  |some s'=>
   simp only
   rw[<-yV (l:=l) (s:=s')]
   cases dm O wl aa l s' with
   |none=>rfl
   |some y=>rfl
def az:List aU->Bool
 |[]=>true
 |o::l=>(match o.op.bq with|some _=>false|none=>true)&&az l
theorem Bg {env:Env}:∀{l:List aU},az l=true->l.all (bp env)=true
 |[],_=>rfl
 |o::l,h=>by
  simp only[az,Bool.and_eq_true]at h
  simp only[List.all_cons,Bg h.2,Bool.and_true]
  unfold bp
  cases hb:o.op.bq with
  |none=>rfl
  |some j=>rw[hb]at h;simp at h
theorem qZ {O:jf}{l:List aU}(h:l.all (bp s.env)=true):fq O wl aa l [] s=eC O wl aa l s:=by
 unfold fq
 rw[<-yV]
 cases dm O wl aa l s with
 |none=>rfl
 |some y=>
  obtain⟨e,gp⟩:=y
  simp only[List.all_nil,h,Bool.and_self,if_true,Option.map_some]
theorem aB {l:List aU}{dx:List Nat}(h:az l=true):W S wl aa rs Q (.code (.region l (some []) dx)::k) .normal s↔W S wl aa rs Q (.ops l dx::k) .normal s:=by
 unfold W
 simp only[feed,gm,qZ (Bg h)]
 cases h:eC (aW S) wl aa l s with
 |none=>simp
 |some s'=>simp
theorem aN {l:List aU}{dx:List Nat}:W S wl aa rs Q (.code (.region l (some []) dx)::k) .normal s↔l.all (bp s.env)=true/\W S wl aa rs Q (.ops l dx::k) .normal s:=by
 by_cases h:l.all (bp s.env)=true
 ·unfold W
  simp only[feed,gm,qZ h]
  cases h2:eC (aW S) wl aa l s with
  |none=>simp
  |some s'=>simp[h]
 ·unfold W
  simp only[feed,gm,fq]
  cases h2:dm (aW S) wl aa l s with
  |none=>simp[h]
  |some y=>obtain⟨e,gp⟩:=y;simp[h]
theorem q8 {l:List aU}{bD:List (Nat×Nat)}{dx:List Nat}:W S wl aa rs Q (.code (.region l (some bD) dx)::k) .normal s↔
  ∃e gp,dm (aW S) wl aa l s=some (e,gp)/\(bD.all (gG (aW S) wl aa l gp)&&l.all (bp s.env))=true/\W S wl aa rs Q k .normal { e with env:=gH dx e.env }:=by
 unfold W
 simp only[feed,gm,fq]
 cases h:dm (aW S) wl aa l s with
 |none=>simp
 |some y=>
  obtain⟨e,gp⟩:=y
  by_cases hc:(bD.all (gG (aW S) wl aa l gp)&&l.all (bp s.env))=true
  ·simp only[hc,if_true]
   constructor
   ·rintro⟨x',s',h1,h2⟩;exact⟨e,gp,rfl,hc,x',s',h1,h2⟩
   ·rintro⟨e',afT,h0,_,x',s',h1,h2⟩;cases h0;exact⟨x',s',h1,h2⟩
  ·simp only[hc]
   constructor
   ·rintro⟨x',s',h1,_⟩;cases h1
   ·rintro⟨e',afT,h0,hf,_⟩;cases h0;exact absurd hf hc
theorem WJ {c:Src}{ca cb:List Nat}{a b:bG}:W S wl aa rs Q (.code (.cond c ca a cb b)::k) .normal s↔
  ∃t,oy s.env c=some t/\W S wl aa rs Q (.code (if t then a else b)::k) .normal { s with env:=gH (if t then ca else cb) (kD s.env c) }:=by
 unfold W
 simp only[feed,gm]
 cases oy s.env c with
 |none=>simp
 |some t=>cases t<;>simp
theorem S8 {id:Nat}{c:bG}:W S wl aa rs Q (.code (.block id c)::k) .normal s↔W S wl aa rs Q (.code c::.iQ id::k) .normal s:=by
 unfold W
 simp only[feed,gm]
 cases h:gm (aW S) wl aa rs c s with
 |none=>simp
 |some y=>
  obtain⟨x,s'⟩:=y
  cases x with
  |normal=>simp
  |exit i=>by_cases hi:i=id<;>simp[hi]
  |ret v=>simp
theorem WK {c:bG}:W S wl aa rs Q (.code (.loop c)::k) .normal s↔W S wl aa rs Q (.code c::.again c::k) .normal s:=by
 unfold W
 simp only[feed,gm]
 rw[Lq]
 cases h:gm (aW S) wl aa rs c s with
 |none=>simp
 |some y=>
  obtain⟨x,s'⟩:=y
  cases x<;>simp
theorem WL {t off:Nat}:W S wl aa rs Q (.code (.uw t off)::k) .normal s↔∃id bP i k' v v' kV lf,cA s.env t=.val (.ptr id bP i k')/\fF s.st (.ptr id bP i (k'+off)) 1=some [v]/\nP wl v s.st=some (v',kV)/\
  dz wl aa kV (.ptr id bP i (k'+off)) [v']=some lf/\W S wl aa rs Q k .normal ⟨s.env,s.bx,lf⟩:=by
 constructor
 ·intro h
  unfold W at h
  simp only[feed]at h
  cases hc:gm (aW S) wl aa rs (.uw t off) s with
  |none=>rw[hc]at h;simp at h
  |some y=>
   obtain⟨x1,s1⟩:=y
   rw[hc]at h
   obtain⟨rfl,id,bP,i,k',v,v',kV,lf,g1,g2,g3,g4,rfl⟩:=Am hc
   exact⟨id,bP,i,k',v,v',kV,lf,g1,g2,g3,g4,h⟩
 ·rintro⟨id,bP,i,k',v,v',kV,lf,g1,g2,g3,g4,h⟩
  unfold W
  simp only[feed,gm,g1,g2,g3,g4]
  exact h
theorem W.imp {Q':Ex->St->Prop}{x:Ex}(h:W S wl aa rs Q k x s)(hq:∀x s,Q x s->Q' x s):W S wl aa rs Q' k x s:=by
 obtain⟨x',s',h1,h2⟩:=h
 exact⟨x',s',h1,hq _ _ h2⟩
theorem Bh {sf:aC}{args:List AV}{st:aj}(hl:args.length=sf.nparams){r:AV×aj}
  (h:W S (sf.mode.va st.length wl) (sf.mode.oz st.length aa) sf.results (λx s=>∃v,Cx sf.results x s=some v/\sf.mode.fin st v s.st=some r) [.code sf.body] .normal (oA sf args st)) :
  cM (aW S) wl aa sf args st=some r:=by
 simp only[cM,hl,if_true]
 obtain⟨x',s',h1,v,h2,h3⟩:=h
 simp only[feed]at h1
 cases hs:gm (aW S) (sf.mode.va st.length wl) (sf.mode.oz st.length aa) sf.results sf.body (oA sf args st) with
 |none=>rw[hs]at h1;cases h1
 |some y=>
  obtain⟨x,s⟩:=y
  rw[hs]at h1
  simp only at h1
  cases h1
  simp only[h2,h3]
theorem L3 {f:Nat}{sf:aC}(hf:S f=some sf){args:List AV}{st:aj}(ha:alone sf args=false)(hl:args.length=sf.nparams){r:AV×aj}
  (h:W S (sf.mode.va st.length wl) (sf.mode.oz st.length aa) sf.results (λx s=>∃v,Cx sf.results x s=some v/\sf.mode.fin st v s.st=some r) [.code sf.body] .normal (oA sf args st)) :
  (aW S).call wl aa f args st=some r:=by
 rw[xG,hf]
 simp only[dD,ha,Bool.false_eq_true,if_false]
 exact Bh hl h
theorem L4 {f:Nat}{sf:aC}(hf:S f=some sf)(hm:sf.mode=.pure){args:List AV}{st:aj}(hp:AV.ah args=true)(hl:args.length=sf.nparams){v:AV}(hv:v.an=true)
  (h:W S 0 0 sf.results (λx s=>Cx sf.results x s=some v) [.code sf.body] .normal (oA sf args [])) :
  (aW S).call wl aa f args st=some (v,st):=by
 rw[xG,hf]
 have ha:alone sf args=true:=by simp[alone,hm,hp]
 simp only[dD,ha,if_true]
 have:=Bh (S:=S) (wl:=0) (aa:=0) (sf:=sf) (args:=args) (st:=[]) hl (r:=(v,[])) (by
  rw[hm]
  obtain⟨x',s',h1,h2⟩:=h
  exact⟨x',s',h1,v,h2,by simp[Mode.fin,hv]⟩)
 rw[this]
 rfl
def WO (S:Nat->Option aC)(wl aa:Nat)(rs:List jA)(Q:Ex->St->Prop)(l:List aU)(dx:List Nat)(k:List Bf):Option St->Prop
 |some s=>W S wl aa rs Q (.ops l dx::k) .normal s
 |none=>False
def WC (S:Nat->Option aC)(wl aa:Nat)(rs:List jA)(Q:Ex->St->Prop)(ca cb:List Nat)(a b:bG)(k:List Bf)(s:St):Option Bool->Prop
 |some true=>W S wl aa rs Q (.code a::k) .normal { s with env:=gH ca s.env }
 |some false=>W S wl aa rs Q (.code b::k) .normal { s with env:=gH cb s.env }
 |none=>False
def WV (S:Nat->Option aC)(wl aa:Nat)(rs:List jA)(Q:Ex->St->Prop)(k:List Bf)(st:aj):Option AV->Prop
 |some v=>W S wl aa rs Q k (.ret v) ⟨[],[],st⟩
 |none=>False
theorem abk {o:aU}{l:List aU}{dx:List Nat}:W S wl aa rs Q (.ops (o::l) dx::k) .normal s↔WO S wl aa rs Q l dx k (evalOp (aW S) wl aa o s):=by
 rw[afS]
 cases evalOp (aW S) wl aa o s with
 |none=>simp[WO]
 |some s'=>simp[WO]
theorem Ta {c:Src}{ca cb:List Nat}{a b:bG}:W S wl aa rs Q (.code (.cond c ca a cb b)::k) .normal s↔WC S wl aa rs Q ca cb a b k { s with env:=kD s.env c } (oy s.env c):=by
 rw[WJ]
 cases oy s.env c with
 |none=>simp[WC]
 |some t=>cases t<;>simp[WC]
theorem WM:W S wl aa rs Q (.code .ret::k) .normal s↔WV S wl aa rs Q k s.st (u9 s rs):=by
 rw[abi]
 cases u9 s rs with
 |none=>simp[WV]
 |some v=>simp[WV]
theorem Tb {l:List aU}{dx:List Nat}:WO S wl aa rs Q l dx k (some s)↔W S wl aa rs Q (.ops l dx::k) .normal s:=Iff.rfl
theorem Tc {l:List aU}{dx:List Nat}:WO S wl aa rs Q l dx k none↔False:=Iff.rfl
theorem WN {l:List aU}{dx:List Nat}{c:Prop} [Decidable c]:WO S wl aa rs Q l dx k (if c then some s else none)↔c/\W S wl aa rs Q (.ops l dx::k) .normal s:=by
 by_cases h:c<;>simp[h,WO]
theorem Td {ca cb:List Nat}{a b:bG}:WC S wl aa rs Q ca cb a b k s (some true)↔W S wl aa rs Q (.code a::k) .normal { s with env:=gH ca s.env }:=Iff.rfl
theorem Ov {ca cb:List Nat}{a b:bG}:WC S wl aa rs Q ca cb a b k s (some false)↔W S wl aa rs Q (.code b::k) .normal { s with env:=gH cb s.env }:=Iff.rfl
theorem Te {st:aj}{v:AV}:WV S wl aa rs Q k st (some v)↔W S wl aa rs Q k (.ret v) ⟨[],[],st⟩:=Iff.rfl
end Ax
namespace Ax
open Go
attribute [simp ↓] abg abh WA WB WD WE S6 S7 Oq Ot WG abk WH WI WM abj Ou Ta S8
attribute [simp] Tb Tc WN Td Ov Te
attribute [simp] evalOp kL act Fv kD ux fA.bq gH dK.view AV.view AV.cy pA u9 u7 Aj
 AV.an AV.ah cA rZ zk oA Mode.va Mode.oz Mode.fin Cx CT oy bU cut iq eR kE nw dK.mT
variable {S:Nat->Option aC}{wl aa:Nat}{rs:List jA}{Q:Ex->St->Prop}{k:List Bf}{st:aj}{bx:aS}
def o8 (st:aj)(bx:aS):Option AV->Option (dK×aj×aS)
 |some v=>some (.val v,st,bx)
 |none=>none
@[simp] theorem Zl {v:AV}:o8 st bx (some v)=some (.val v,st,bx):=rfl
@[simp] theorem Zm:o8 st bx none=none:=rfl
@[simp] theorem abl {c:Prop} [Decidable c] {v:AV}:o8 st bx (if c then some v else none)=if c then some (.val v,st,bx) else none:=by by_cases h:c<;>simp[h]
theorem En {c b:bG}{s:St}(h:c=b):W S wl aa rs Q (.code (.loop c)::k) .normal s↔W S wl aa rs Q (.code b::.again c::k) .normal s:=by
 rw[WK];subst h;exact Iff.rfl
@[simp] theorem WQ:rowsOf st .U=some []:=rfl
@[simp] theorem WR:rowsOf st .emp=some []:=rfl
@[simp] theorem WS {sz:Nat} {r:List (List AV)}:rowsOf st (.cN sz r)=some r:=rfl
@[simp] theorem WU {sz:Nat} {r:List (List AV)}:rowsOf st (.own sz r)=some r:=rfl
@[simp] theorem Zn {id bP:Nat}:rowsOf st (.mu id bP)=match st[id]? with|some (.rows v _ rows)=>if v=bP then some rows else none|_=>none:=rfl
@[simp] theorem Tf:di st .U=some []:=rfl
@[simp] theorem Tg:di st .emp=some []:=rfl
@[simp] theorem Th {sz:Nat} {r:List (List AV)}:di st (.cN sz r)=some r:=rfl
@[simp] theorem Ti {sz:Nat} {r:List (List AV)}:di st (.own sz r)=some r:=rfl
@[simp] theorem Tj {l:List UInt8}:di st (.str l)=some (dM l):=rfl
@[simp] theorem abm {l:List UInt8}:mc st .str (.str l)=some l.length:=rfl
@[simp] theorem adV {v:AV}:mc st .sl v=(rowsOf st v).map List.length:=by
 cases v<;>simp only[mc]<;>cases rowsOf st _<;>rfl
@[simp] theorem adW {id:Nat}:mc st .mp (.map id)=match st[id]? with|some (.map es)=>some es.length|_=>none:=rfl
def zy (sz:Nat)(st:aj)(x:AV)(i:Int):Option AV:=match x with
 |.cN s rows|.own s rows=>if s=sz/\0<=i/\i<rows.length then some (.nJ sz rows i.toNat 0) else none
 |.mu id bP=>match st[id]? with
  |some (.rows v s rows)=>if v=bP/\s=sz/\0<=i/\i<rows.length then some (.ptr id bP i.toNat 0) else none
  |_=>none
 |_=>none
@[simp] theorem abn {sz s:Nat} {r:List (List AV)} {i:Int}:zy sz st (.cN s r) i=if s=sz/\0<=i/\i<r.length then some (.nJ sz r i.toNat 0) else none:=rfl
@[simp] theorem abo {sz s:Nat} {r:List (List AV)} {i:Int}:zy sz st (.own s r) i=if s=sz/\0<=i/\i<r.length then some (.nJ sz r i.toNat 0) else none:=rfl
@[simp] theorem adX {sz id bP:Nat} {i:Int}:zy sz st (.mu id bP) i=match st[id]? with|some (.rows v s rows)=>if v=bP/\s=sz/\0<=i/\i<rows.length then some (.ptr id bP i.toNat 0) else none|_=>none:=rfl
def uC (sz bytes:Nat)(s:AV)(new:List (List AV)):Option AV:=
 if fits sz new=true then match s with
  |.U|.emp=>if new.isEmpty then some s else if new.length*bytes<=room then some (.own sz new) else none
  |.own iI old=>if iI=sz/\(old.length+new.length)*bytes<=room then some (.own sz (old++new)) else none
  |_=>none else none
@[simp] theorem afU {e:dK}:aI wl aa .move [e] st bx=some (e,st,bx):=rfl
@[simp] theorem afV {b:Bool} {x y:dK}:aI wl aa .pick [.val (.bool b),x,y] st bx=some (if b then x else y,st,bx):=rfl
@[simp] theorem aiO {op:BinOp} {x y:AV}:aI wl aa (.bin op) [.val x,.val y] st bx=o8 st bx (zl op x y):=by
 simp only[aI];cases zl op x y<;>rfl
@[simp] theorem aiP {kk:Za} {neg:Bool} {x y:AV}:aI wl aa (.eqv kk neg) [.val x,.val y] st bx=o8 st bx ((Fw kk x y).map λb=>.bool (if neg then !b else b)):=by
 simp only[aI];cases Fw kk x y<;>rfl
@[simp] theorem akx {op:UnOp} {x:AV}:aI wl aa (.un op) [.val x] st bx=o8 st bx (VX op x):=by
 simp only[aI];cases VX op x<;>rfl
@[simp] theorem afW {kk l:IntKind} {n:Int}:aI wl aa (.conv kk) [.val (.int l n)] st bx=some (.val (.int kk (kk.wrap n)),st,bx):=rfl
@[simp] theorem adY {x:AV}:aI wl aa .toStr [.val x] st bx=o8 st bx (((rowsOf st x).bind bytesOf).map .str):=by
 simp only[aI];cases rowsOf st x with
 |none=>rfl
 |some r=>simp only[Option.bind_some];cases bytesOf r<;>rfl
@[simp] theorem aiQ {lk:LK} {x:AV}:aI wl aa (.len lk) [.val x] st bx=o8 st bx ((mc st lk x).map λn=>.int .i64 n):=by
 simp only[aI];cases mc st lk x<;>rfl
@[simp] theorem abp {mx:Bool} {kk:IntKind} {a b:Int}:aI wl aa (.DW mx) [.val (.int kk a),.val (.int kk b)] st bx=some (.val (.int kk (if mx then (if b > a then b else a) else (if b<a then b else a))),st,bx):=by
 simp[aI]
@[simp] theorem afX {j i:Nat}:aI wl aa .nilCheck [.fp j i] st bx=some (.fp j i,st,bx):=rfl
@[simp] theorem afY {a b c d:Nat}:aI wl aa .nilCheck [.val (.ptr a b c d)] st bx=some (.val (.ptr a b c d),st,bx):=rfl
@[simp] theorem afZ {a:Nat} {r:List (List AV)} {c d:Nat}:aI wl aa .nilCheck [.val (.nJ a r c d)] st bx=some (.val (.nJ a r c d),st,bx):=rfl
@[simp] theorem Zo {i:Nat} {vs:List AV}:aI wl aa (.extract i) [.val (.fm vs)] st bx=o8 st bx vs[i]?:=by
 simp only[aI];cases vs[i]?<;>rfl
@[simp] theorem adZ {off n:Nat} {agg:Bool} {cs:List AV}:aI wl aa (.field off n agg) [.val (.agg cs)] st bx=o8 st bx ((cut cs off n).bind (bU agg)):=by
 simp only[aI];cases cut cs off n with
 |none=>rfl
 |some r=>simp only[Option.bind_some];cases bU agg r<;>rfl
@[simp] theorem ad0 {zero:List AV} {parts:List (Nat×Nat)} {l:List dK}:aI wl aa (.build zero parts) l st bx=o8 st bx (((iq l).bind (gy zero parts)).map .agg):=by
 simp only[aI];cases iq l with
 |none=>rfl
 |some vs=>simp only[Option.bind_some];cases gy zero parts vs<;>rfl
@[simp] theorem aiR {sz n:Nat} {zero:List AV} {parts:List Nat} {l:List dK}:aI wl aa (.lit sz n zero parts) l st bx =
  o8 st bx (((iq l).bind λvs=>fo sz (List.replicate n zero) parts (AV.cy vs)).bind λrows=>if rows.all AV.ah&&rows.all AV.aH then some (if n=0 then .emp else .cN sz rows) else none):=by
 simp only[aI];cases iq l with
 |none=>rfl
 |some vs=>
  simp only[Option.bind_some]
  cases fo sz (List.replicate n zero) parts (AV.cy vs) with
  |none=>rfl
  |some rows=>simp only[Option.bind_some];split<;>rfl
@[simp] theorem Tl {off j i:Nat}:aI wl aa (.fieldAddr off) [.fp j i] st bx=some (.fp j (i+off),st,bx):=rfl
@[simp] theorem Tm {off a b c d:Nat}:aI wl aa (.fieldAddr off) [.val (.ptr a b c d)] st bx=some (.val (.ptr a b c (d+off)),st,bx):=rfl
@[simp] theorem Tn {off a c d:Nat} {r:List (List AV)}:aI wl aa (.fieldAddr off) [.val (.nJ a r c d)] st bx=some (.val (.nJ a r c (d+off)),st,bx):=rfl
@[simp] theorem Ve {sz:Nat} {x:AV} {i:Int}:aI wl aa (.indexAddr sz) [.val x,.val (.int .i64 i)] st bx=o8 st bx (zy sz st x i):=by
 cases x<;>try rfl
 case cN s r=>simp only[aI,zy,Bool.and_eq_true,decide_eq_true_eq,and_assoc];split<;>rfl
 case own s r=>simp only[aI,zy,Bool.and_eq_true,decide_eq_true_eq,and_assoc];split<;>rfl
 case mu id bP=>
  simp only[aI,zy,Bool.and_eq_true,decide_eq_true_eq,and_assoc]
  cases st[id]? with
  |none=>rfl
  |some ob=>cases ob with
   |rows v s r=>simp only;split<;>rfl
   |map es=>rfl
@[simp] theorem ad1 {l:List UInt8} {i:Int}:aI wl aa .index [.val (.str l),.val (.int .i64 i)] st bx=if 0<=i then o8 st bx (l[i.toNat]?.map λb=>.int .u8 b.toNat) else none:=by
 simp only[aI];cases l[i.toNat]?<;>rfl
@[simp] theorem au {agg:Bool} {n:Nat} {p:AV}:aI wl aa (.load agg n false) [.val p] st bx=o8 st bx ((fF st p n).bind λcs=>bU agg (AV.cy cs)):=by
 simp only[aI];cases fF st p n with
 |none=>rfl
 |some cs=>simp only[Option.bind_some,Bool.false_eq_true,if_false];cases bU agg (AV.cy cs)<;>rfl
@[simp] theorem ad2 {zero:List AV}:aI wl aa (.alloc zero) [] st bx=some (.val (.ptr st.length 0 0 0),st++[.rows 0 zero.length [zero]],bx):=rfl
@[simp] theorem abq {sz bytes:Nat} {s x:AV}:aI wl aa (.append sz bytes) [.val s,.val x] st bx=o8 st bx ((di [] x).bind (uC sz bytes s)):=by
 simp only[aI];cases di [] x with
 |none=>rfl
 |some new=>
  simp only[Option.bind_some,uC]
  by_cases hf:fits sz new=true
  ·simp only[hf,if_true]
   cases s<;>simp only[Bool.and_eq_true,decide_eq_true_eq]<;>(try rfl)<;>repeat' split
   all_goals rfl
  ·simp only[hf];rfl
@[simp] theorem abr {sz bytes:Nat} {zero:List AV} {n c:Int}:aI wl aa (.qI sz bytes zero false) [.val (.int .i64 n),.val (.int .i64 c)] st bx =
  if 0<=n/\n<=c/\c*bytes<=room/\zero.length=sz then (if AV.ah zero then some (.val (.own sz (List.replicate n.toNat zero)),st,bx) else none) else none:=rfl
@[simp] theorem Zp {sz bytes:Nat} {zero:List AV} {n c:Int}:aI wl aa (.zF sz bytes zero) [.val (.int .i64 n),.val (.int .i64 c)] st bx =
  if 0<=n/\n<=c/\c*bytes<=room/\zero.length=sz/\AV.ah zero=true then some (.val (.raw sz (List.replicate n.toNat zero)),st,bx) else none:=rfl
@[simp] theorem Dh {sz bytes:Nat} {zero:List AV} {n c:Int}:aI wl aa (.qI sz bytes zero true) [.val (.int .i64 n),.val (.int .i64 c)] st bx =
  if 0<=n/\n<=c/\c*bytes<=room/\zero.length=sz then some (.val (.mu st.length 0),st++[.rows 0 sz (List.replicate n.toNat zero)],bx) else none:=rfl
@[simp] theorem ag {n:Nat} {p v:AV}:aI wl aa (.store n) [.val p,.val v] st bx=if v.cells.length=n/\AV.aH v.cells=true then (dz wl aa st p v.cells).map λs=>(.none,s,bx) else none:=by
 simp only[aI,Bool.and_eq_true,decide_eq_true_eq]
 split
 ·cases dz wl aa st p v.cells<;>rfl
 ·rfl
@[simp] theorem WW {id bP i j:Nat} {cells:List AV}:dz wl aa st (.ptr id bP i j) cells=match st[id]? with
  |some (.rows v sz rows)=>if v=bP/\bf wl aa id cells=true then rows[i]?.bind λr=>if j+cells.length<=r.length then some (st.set id (.rows v sz (rows.set i (af r j cells)))) else none else none
  |_=>none:=by
 simp only[dz]
 cases st[id]? with
 |none=>rfl
 |some ob=>cases ob with
  |map es=>rfl
  |rows v sz rows=>
   simp only[Bool.and_eq_true,decide_eq_true_eq]
   split
   ·cases rows[i]?<;>rfl
   ·rfl
attribute [simp] bf
@[simp] theorem abt {sz id bP:Nat} {hi:Int}:aI wl aa (.u6 sz) [.val (.mu id bP),.val (.int .i64 hi)] st bx=match st[id]? with
  |some (.rows v s rows)=>if v=bP/\s=sz/\0<=hi/\hi<=rows.length/\wl<=id then some (.val (.mu id (v+1)),st.set id (.rows (v+1) s (rows.take hi.toNat)),bx) else none
  |_=>none:=by
 simp only[aI,Bool.and_eq_true,decide_eq_true_eq,and_assoc]
 cases st[id]? with
 |none=>rfl
 |some ob=>cases ob<;>rfl
@[simp] theorem Zq {sz bytes id bP:Nat} {x:AV}:aI wl aa (.lu sz bytes) [.val (.mu id bP),.val x] st bx=(di st x).bind λnew=>if fits sz new=true then match st[id]? with
  |some (.rows v iI old)=>if v=bP/\iI=sz/\(old.length+new.length)*bytes<=room/\wl<=id/\(aa<=id\/new.all AV.ah=true) then some (.val (.mu id (v+1)),st.set id (.rows (v+1) sz (old++new)),bx) else none
  |_=>none else none:=by
 simp only[aI,xE,Bool.and_eq_true,decide_eq_true_eq,Bool.or_eq_true,and_assoc]
 cases di st x with
 |none=>rfl
 |some new=>rfl
@[simp] theorem af0:aI wl aa .RP [.val .U] st bx=some (.val (.int .i64 0),st,bx):=rfl
@[simp] theorem Zr {sz bytes:Nat} {s:AV} {zero:List AV} {n:Int}:aI wl aa (.tG sz bytes zero) [.val s,.val (.int .i64 n)] st bx =
  if 0<=n/\n*bytes<=room/\zero.length=sz/\AV.ah zero=true then xE wl aa sz bytes s (List.replicate n.toNat zero) st bx else none:=rfl
@[simp] theorem WX {sz bytes:Nat} {x:AV}:aI wl aa (.lu sz bytes) [.val .U,.val x] st bx=(di st x).bind λnew=>if fits sz new=true then (if new.isEmpty=true then some (.val .U,st,bx) else if new.length*bytes<=room then some (.val (.mu st.length 0),st++[.rows 0 sz new],bx) else none) else none:=by
 simp only[aI]
 cases di st x with
 |none=>rfl
 |some new=>rfl
@[simp] theorem WY {sz bytes:Nat} {x:AV}:aI wl aa (.lu sz bytes) [.val .emp,.val x] st bx=(di st x).bind λnew=>if fits sz new=true then (if new.length*bytes<=room then some (.val (.mu st.length 0),st++[.rows 0 sz new],bx) else none) else none:=by
 simp only[aI]
 cases di st x with
 |none=>rfl
 |some new=>rfl
@[simp] theorem ad3 {j i n:Nat} {agg:Bool}:aI wl aa (.aD j agg n false) [.fp j i] st bx=o8 st bx ((bx[j]?.bind λrow=>cut row i n).bind λcs=>bU agg (AV.cy cs)):=by
 simp only[aI,if_true]
 cases bx[j]? with
 |none=>rfl
 |some row=>
  simp only[Option.bind_some]
  cases cut row i n with
  |none=>rfl
  |some cs=>simp only[Option.bind_some,Bool.false_eq_true,if_false];cases bU agg (AV.cy cs)<;>rfl
@[simp] theorem abu {j i n:Nat} {agg:Bool}:aI wl aa (.aD j agg n true) [.fp j i] st bx=(bx[j]?.bind λrow=>(cut row i n).bind λcs=>(bU agg cs).map λv=>(.val v,st,bx.set j (af row i (cs.map AV.hJ)))):=by
 simp only[aI,if_true]
 cases bx[j]? with
 |none=>rfl
 |some row=>
  simp only[Option.bind_some]
  cases cut row i n with
  |none=>rfl
  |some cs=>simp only[Option.bind_some];cases bU agg cs<;>rfl
@[simp] theorem abv {j i n:Nat} {v:AV}:aI wl aa (.ai j n) [.fp j i,.val v] st bx=if v.cells.length=n/\AV.aH v.cells=true then bx[j]?.bind λrow=>(if i+n<=row.length then some (.none,st,bx.set j (af row i v.cells)) else none) else none:=by
 simp only[aI,Bool.and_eq_true,decide_eq_true_eq,true_and]
 split
 ·cases bx[j]?<;>rfl
 ·rfl
@[simp] theorem abw {j:Nat} {zero:List AV}:aI wl aa (.aF j zero) [] st bx=if j<bx.length then some (.fp j 0,st,bx.set j zero) else none:=rfl
@[simp] theorem Ku {n:Nat} {v:AV}:aI wl aa (.box n) [.val v] st bx=if v.cells.length=n/\AV.aH v.cells=true then some (.val (.ptr st.length 0 0 0),st++[.rows 0 n [v.cells]],bx) else none:=by
 simp only[aI,Bool.and_eq_true,decide_eq_true_eq]
@[simp] theorem af1 {j n:Nat} {v:AV}:aI wl aa (.fR j n) [.val v] st bx=if j<bx.length/\v.cells.length=n/\AV.aH v.cells=true then some (.fp j 0,st,bx.set j v.cells) else none:=by
 simp only[aI,Bool.and_eq_true,decide_eq_true_eq,and_assoc]
@[simp] theorem WZ {f n:Nat} {l:List dK}:aI wl aa (.makeFunc f n) l st bx=o8 st bx ((iq l).map λvs=>.fn f (AV.cy (vs.take n)) (AV.cy (vs.drop n))):=by
 simp only[aI];cases iq l<;>rfl
@[simp] theorem Zs {sd:Bool} {sz:Nat} {x:AV} {b:Int}:aI wl aa (.slice sd false true false sz) [.val x,.val (.int .i64 b)] st bx=(mc st (if sd then .str else .sl) x).bind λ_=>o8 st bx (jo sd sz x 0 b none):=by
 simp only[aI]
 cases mc st (if sd then LK.str else LK.sl) x with
 |none=>rfl
 |some n=>simp only[pA,Bool.false_eq_true,if_false,if_true,Option.bind_some];cases jo sd sz x 0 b none<;>rfl
@[simp] theorem Zt {sd:Bool} {sz:Nat} {x:AV} {a:Int}:aI wl aa (.slice sd true false false sz) [.val x,.val (.int .i64 a)] st bx=(mc st (if sd then .str else .sl) x).bind λn=>o8 st bx (jo sd sz x a n none):=by
 simp only[aI]
 cases mc st (if sd then LK.str else LK.sl) x with
 |none=>rfl
 |some n=>simp only[pA,Bool.false_eq_true,if_false,if_true,Option.bind_some];cases jo sd sz x a n none<;>rfl
@[simp] theorem Zu {sd:Bool} {sz:Nat} {x:AV} {a b:Int}:aI wl aa (.slice sd true true false sz) [.val x,.val (.int .i64 a),.val (.int .i64 b)] st bx=(mc st (if sd then .str else .sl) x).bind λ_=>o8 st bx (jo sd sz x a b none):=by
 simp only[aI]
 cases mc st (if sd then LK.str else LK.sl) x with
 |none=>rfl
 |some n=>simp only[pA,if_true,Option.bind_some];cases jo sd sz x a b none<;>rfl
@[simp] theorem W0 {sz:Nat} {s:List UInt8} {a b:Int}:jo true sz (.str s) a b none=if 0<=a/\a<=b/\b<=s.length then some (.str ((s.take b.toNat).drop a.toNat)) else none:=by
 simp[jo,and_assoc]
attribute [simp] AV.hJ
@[simp] theorem abx {op:BinOp} {kk:IntKind} {a b:Int}:zl op (.int kk a) (.int kk b)=jJ op kk a b:=by simp[zl]
@[simp] theorem af2 {a b:List UInt8}:zl .add (.str a) (.str b)=if a.length+b.length<=4611686018427387904 then some (.str (a++b)) else none:=rfl
@[simp] theorem af3 {a b:List UInt8}:zl .eql (.str a) (.str b)=some (.bool (decide (a=b))):=by simp only[zl];by_cases h:a=b<;>simp[h]
@[simp] theorem af4 {a b:List UInt8}:zl .neq (.str a) (.str b)=some (.bool (!decide (a=b))):=by simp only[zl];by_cases h:a=b<;>simp[h]
@[simp] theorem ad4 {b:Bool}:VX .not (.bool b)=some (.bool (!b)):=rfl
@[simp] theorem ad5 {kk:IntKind} {a:Int}:VX .neg (.int kk a)=some (.int kk (kk.wrap (0-a))):=rfl
@[simp] theorem aby {a b:Bool}:Fw (.sc .bool) (.bool a) (.bool b)=some (decide (a=b)):=by cases a<;>cases b<;>rfl
@[simp] theorem ad6 {kk:IntKind} {a b:Int}:Fw (.sc .int) (.int kk a) (.int kk b)=some (decide (a=b)):=by simp[Fw,Cp];by_cases h:a=b<;>simp[h]
@[simp] theorem ad7 {a b:List UInt8}:Fw (.sc .str) (.str a) (.str b)=some (decide (a=b)):=by simp[Fw,Cp];by_cases h:a=b<;>simp[h]
@[simp] theorem abz {ks:List SK} {a b:List AV}:Fw (.flat ks) (.agg a) (.agg b)=Cq ks a b:=rfl
attribute [simp] Cq
@[simp] theorem abA {a b:Bool}:Cp .bool (.bool a) (.bool b)=some (decide (a=b)):=by cases a<;>cases b<;>rfl
@[simp] theorem ad8 {kk:IntKind} {a b:Int}:Cp .int (.int kk a) (.int kk b)=some (decide (a=b)):=by simp[Cp];by_cases h:a=b<;>simp[h]
@[simp] theorem ad9 {a b:List UInt8}:Cp .str (.str a) (.str b)=some (decide (a=b)):=by simp[Cp];by_cases h:a=b<;>simp[h]
section
variable {kk:IntKind}{a b:Int}
@[simp] theorem af5:jJ .add kk a b=some (.int kk (kk.wrap (a+b))):=rfl
@[simp] theorem af6:jJ .sub kk a b=some (.int kk (kk.wrap (a-b))):=rfl
@[simp] theorem af7:jJ .mul kk a b=some (.int kk (kk.wrap (a*b))):=rfl
@[simp] theorem af8:jJ .quo kk a b=if b=0 then none else some (.int kk (kk.wrap (a.tdiv b))):=rfl
@[simp] theorem af9:jJ .rem kk a b=if b=0 then none else some (.int kk (a.tmod b)):=rfl
@[simp] theorem aga:jJ .and kk a b=some (.int kk (kk.wrap ((BitVec.ofInt kk.bits a &&& BitVec.ofInt kk.bits b).toNat))):=rfl
@[simp] theorem agb:jJ .eql kk a b=some (.bool (decide (a=b))):=by simp only[jJ];by_cases h:a=b<;>simp[h]
@[simp] theorem agc:jJ .neq kk a b=some (.bool (!decide (a=b))):=by simp only[jJ];by_cases h:a=b<;>simp[h]
@[simp] theorem agd:jJ .lss kk a b=some (.bool (decide (a<b))):=rfl
@[simp] theorem age:jJ .leq kk a b=some (.bool (decide (a<=b))):=rfl
@[simp] theorem agf:jJ .gtr kk a b=some (.bool (decide (b<a))):=rfl
@[simp] theorem agh:jJ .geq kk a b=some (.bool (decide (b<=a))):=rfl
end
@[simp] theorem Zv {sz:Nat} {rows:List (List AV)} {i kk n:Nat}:fF st (.nJ sz rows i kk) n=rows[i]?.bind λr=>cut r kk n:=by
 simp only[fF];cases rows[i]?<;>rfl
@[simp] theorem Zw {id bP i kk n:Nat}:fF st (.ptr id bP i kk) n=match st[id]? with
  |some (.rows v _ rows)=>if v=bP then rows[i]?.bind λr=>cut r kk n else none
  |_=>none:=by
 simp only[fF];cases st[id]? with
 |none=>rfl
 |some ob=>cases ob with
  |rows v s r=>
   simp only;split
   ·cases r[i]?<;>rfl
   ·rfl
  |map es=>rfl
@[simp] theorem W3 (b:Bool):AV.cells (.bool b)=[.bool b]:=rfl
@[simp] theorem Vf (b:Bool):AV.cv (.bool b)=true:=rfl
@[simp] theorem Zx (kk:IntKind) (n:Int):AV.cells (.int kk n)=[.int kk n]:=rfl
@[simp] theorem W4 (kk:IntKind) (n:Int):AV.cv (.int kk n)=true:=rfl
@[simp] theorem Zy (l:List UInt8):AV.cells (.str l)=[.str l]:=rfl
@[simp] theorem W5 (l:List UInt8):AV.cv (.str l)=true:=rfl
@[simp] theorem To:AV.cells (.dY)=[.dY]:=rfl
@[simp] theorem RG:AV.cv (.dY)=true:=rfl
@[simp] theorem Vg:AV.cells (.U)=[.U]:=rfl
@[simp] theorem Tp:AV.cv (.U)=true:=rfl
@[simp] theorem Tq:AV.cells (.eX)=[.eX]:=rfl
@[simp] theorem RH:AV.cv (.eX)=true:=rfl
@[simp] theorem Vh:AV.cells (.gD)=[.gD]:=rfl
@[simp] theorem Tr:AV.cv (.gD)=true:=rfl
@[simp] theorem Vi:AV.cells (.jj)=[.jj]:=rfl
@[simp] theorem Ts:AV.cv (.jj)=true:=rfl
@[simp] theorem Zz (s:Nat) (r:List (List AV)):AV.cells (.cN s r)=[.cN s r]:=rfl
@[simp] theorem W6 (s:Nat) (r:List (List AV)):AV.cv (.cN s r)=true:=rfl
@[simp] theorem ZA (s:Nat) (r:List (List AV)):AV.cells (.own s r)=[.own s r]:=rfl
@[simp] theorem W7 (s:Nat) (r:List (List AV)):AV.cv (.own s r)=true:=rfl
@[simp] theorem ZB:AV.cells (.emp)=[.emp]:=rfl
@[simp] theorem W8:AV.cv (.emp)=true:=rfl
@[simp] theorem abB (a b:Nat):AV.cells (.mu a b)=[.mu a b]:=rfl
@[simp] theorem ZC (a b:Nat):AV.cv (.mu a b)=true:=rfl
@[simp] theorem ZD (a b c d:Nat):AV.cells (.ptr a b c d)=[.ptr a b c d]:=rfl
@[simp] theorem W9 (a b c d:Nat):AV.cv (.ptr a b c d)=true:=rfl
@[simp] theorem ZE (a:Nat) (r:List (List AV)) (c d:Nat):AV.cells (.nJ a r c d)=[.nJ a r c d]:=rfl
@[simp] theorem Xa (a:Nat) (r:List (List AV)) (c d:Nat):AV.cv (.nJ a r c d)=true:=rfl
@[simp] theorem ZF (a:Nat):AV.cells (.map a)=[.map a]:=rfl
@[simp] theorem Xb (a:Nat):AV.cv (.map a)=true:=rfl
@[simp] theorem abC (f:Nat) (a b:List AV):AV.cells (.fn f a b)=[.fn f a b]:=rfl
@[simp] theorem ZG (f:Nat) (a b:List AV):AV.cv (.fn f a b)=true:=rfl
@[simp] theorem Xc:AV.cells (.gone)=[.gone]:=rfl
@[simp] theorem Vj:AV.cv (.gone)=true:=rfl
@[simp] theorem ZH (cs:List AV):AV.cells (.agg cs)=cs:=rfl
@[simp] theorem Tt:AV.aH []=true:=rfl
@[simp] theorem RI (a:AV) (l:List AV):AV.aH (a::l)=(a.cv&&AV.aH l):=rfl
attribute [simp] fo gy af
theorem wrap64 {n:Int}(h1 : -9223372036854775808<=n)(h2:n<=9223372036854775807):IntKind.i64.wrap n=n:=IntWalk.i64_in n ⟨h1,h2⟩
end Ax
namespace Ax
open Go
variable {S:Nat->Option aC}{wl aa:Nat}{rs:List jA}{Q:Ex->St->Prop}{k:List Bf}{st:aj}{bx:aS}
def Gy (rs:List jA)(m:Mode)(st:aj)(r:AV×aj)(x:Ex)(s:St):Prop:=∃v,Cx rs x s=some v/\m.fin st v s.st=some r
theorem ax {f:Nat}{sf:aC}(hf:S f=some sf){args:List AV}(ha:alone sf args=false)(hl:args.length=sf.nparams){r:AV×aj}
  (h:W S (sf.mode.va st.length wl) (sf.mode.oz st.length aa) sf.results (Gy sf.results sf.mode st r) [.code sf.body] .normal (oA sf args st)) :
  (aW S).call wl aa f args st=some r:=L3 hf ha hl h
@[simp] theorem Gz {m:Mode} {r:AV×aj} {v:AV} {s:St}:Gy rs m st r (.ret v) s↔m.fin st v s.st=some r:=by
 simp[Gy,Cx]
@[simp] theorem Ow {m:Mode} {r:AV×aj} {s:St}:Gy rs m st r .normal s↔∃v,u9 s rs=some v/\m.fin st v s.st=some r:=Iff.rfl
def GA (rs:List jA)(v:AV)(x:Ex)(s:St):Prop:=Cx rs x s=some v
@[simp] theorem ZI {v u:AV} {s:St}:GA rs v (.ret u) s↔u=v:=by simp[GA,Cx]
@[simp] theorem ZJ {v:AV} {s:St}:GA rs v .normal s↔u9 s rs=some v:=Iff.rfl
theorem bT {f:Nat}{sf:aC}(hf:S f=some sf)(hm:sf.mode=.pure){args:List AV}(hp:AV.ah args=true)(hl:args.length=sf.nparams){v:AV}(hv:v.an=true)
  (h:W S 0 0 sf.results (GA sf.results v) [.code sf.body] .normal (oA sf args [])) :
  (aW S).call wl aa f args st=some (v,st):=L4 hf hm hp hl hv h
theorem abD {α:Type}{c b:bG}(h:c=b)(f:α->St)(I:α->Prop)(μ:α->Nat)
  (round:∀a,I a->(∀a',I a'->μ a'<μ a->W S wl aa rs Q (.code (.loop c)::k) .normal (f a'))->W S wl aa rs Q (.code b::.again c::k) .normal (f a)) :
  ∀a,I a->W S wl aa rs Q (.code (.loop c)::k) .normal (f a):=by
 have key:∀n a,μ a=n->I a->W S wl aa rs Q (.code (.loop c)::k) .normal (f a):=by
  intro n
  induction n using Nat.strongRecOn with
  |_ n ih=>
   intro a hn ha
   rw[En h]
   exact round a ha λa' h' aZ=>ih (μ a') (by omega) a' rfl h'
 exact λa ha=>key _ a rfl ha
def aP:AV->List (List AV)
 |.cN _ r|.own _ r=>r
 |_=>[]
def aG:AV->Bool
 |.U|.emp|.cN _ _|.own _ _=>true
 |_=>false
def cI (sz:Nat):AV->Bool
 |.U|.emp=>true
 |.cN s r|.own s r=>s==sz&&fits sz r
 |_=>false
@[simp] theorem Bi (v:AV):aP v.view=aP v:=by cases v<;>simp[aP,AV.view]
@[simp] theorem qy (v:AV):aG v.view=aG v:=by cases v<;>simp[aG,AV.view]
@[simp] theorem xQ (sz:Nat) (v:AV):cI sz v.view=cI sz v:=by cases v<;>simp[cI,AV.view]
@[simp] theorem ZK:aP .U=[]:=rfl
@[simp] theorem ZL:aP .emp=[]:=rfl
@[simp] theorem L5 {sz:Nat} {r:List (List AV)}:aP (.cN sz r)=r:=rfl
@[simp] theorem L6 {sz:Nat} {r:List (List AV)}:aP (.own sz r)=r:=rfl
@[simp] theorem abE:aG .U=true:=rfl
@[simp] theorem abF:aG .emp=true:=rfl
@[simp] theorem abG {sz:Nat} {r:List (List AV)}:aG (.cN sz r)=true:=rfl
@[simp] theorem abH {sz:Nat} {r:List (List AV)}:aG (.own sz r)=true:=rfl
@[simp] theorem abI {sz:Nat}:cI sz .U=true:=rfl
@[simp] theorem abJ {sz:Nat}:cI sz .emp=true:=rfl
@[simp] theorem iC {sz s:Nat} {r:List (List AV)}:cI sz (.cN s r)=(s==sz&&fits sz r):=rfl
@[simp] theorem abK {sz s:Nat} {r:List (List AV)}:cI sz (.own s r)=(s==sz&&fits sz r):=rfl
theorem mN {sz:Nat}{v:AV}(h:cI sz v=true):aG v=true:=by cases v<;>simp_all [cI,aG]
@[simp] theorem ZM {v:AV} (h:aG v=true):rowsOf st v=some (aP v):=by cases v<;>simp_all [aG,aP]
@[simp] theorem Vk {v:AV} (h:aG v=true):di st v=some (aP v):=by cases v<;>simp_all [aG,aP]
@[simp] theorem aea {sz:Nat} {v:AV} {i:Int} (h:cI sz v=true):zy sz st v i=if 0<=i/\i<(aP v).length then some (.nJ sz (aP v) i.toNat 0) else none:=by
 by_cases hi:0<=i/\i<(aP v).length
 ·rw[if_pos hi]
  cases v<;>simp[cI]at h
  case U=>have:=hi.2;simp[aP]at this;omega
  case emp=>have:=hi.2;simp[aP]at this;omega
  case cN s r=>simp only[zy,aP];rw[if_pos ⟨h.1,hi⟩]
  case own s r=>simp only[zy,aP];rw[if_pos ⟨h.1,hi⟩]
 ·rw[if_neg hi]
  cases v<;>simp[cI]at h
  case U=>rfl
  case emp=>rfl
  case cN s r=>simp only[zy];rw[if_neg λc=>hi c.2]
  case own s r=>simp only[zy];rw[if_neg λc=>hi c.2]
mutual
theorem Bj:∀v:AV,v.view.view=v.view
 |.own _ _=>rfl
 |.raw _ _=>rfl
 |.agg cs=>by simp only[AV.view];rw[sN cs]
 |.fm cs=>by simp only[AV.view];rw[sN cs]
 |.undef|.gone|.bool _|.int _ _|.str _|.dY|.U|.eX|.gD|.jj|.cN _ _|.emp|.mu _ _|.ptr _ _ _ _|.nJ _ _ _ _|.map _|.fn _ _ _=>rfl
theorem sN:∀cs:List AV,AV.cy (AV.cy cs)=AV.cy cs
 |[]=>rfl
 |c::cs=>by simp only[AV.cy];rw[Bj c,sN cs]
end
@[simp] theorem L7 (v:AV):v.view.view=v.view:=Bj v
@[simp] theorem cm {v:AV} (h:aG v=true):v.an=true:=by cases v<;>simp_all [aG]
@[simp] theorem abL {v:AV} (h:aG v=true):v.cells=[v]:=by cases v<;>simp_all [aG,AV.cells]
@[simp] theorem bu {v:AV} (h:aG v=true):v.cv=true:=by cases v<;>simp_all [aG,AV.cv]
def b8 (sz:Nat)(r:List (List AV)):AV:=if r.isEmpty then .U else .own sz r
@[simp] theorem qz {sz:Nat} {r:List (List AV)}:aP (b8 sz r)=r:=by
 cases r<;>rfl
@[simp] theorem cV {sz:Nat} {r:List (List AV)}:aG (b8 sz r)=true:=by
 cases r<;>rfl
@[simp] theorem wC {sz:Nat} {r:List (List AV)}:cI sz (b8 sz r)=fits sz r:=by
 cases r<;>simp[b8,cI,fits]
theorem mO {sz:Nat}:b8 sz []=.U:=rfl
theorem eU {sz bytes:Nat}{r new:List (List AV)}(hf:fits sz new=true)(hr:(r.length+new.length)*bytes<=room):uC sz bytes (b8 sz r) new=some (b8 sz (r++new)):=by
 unfold uC
 rw[if_pos hf]
 cases r with
 |nil=>
  cases new with
  |nil=>rfl
  |cons a l=>simp only[b8,List.isEmpty_nil,if_true,List.isEmpty_cons,Bool.false_eq_true,if_false,List.nil_append];rw[if_pos (by simpa using hr)]
 |cons b r=>simp only[b8,List.isEmpty_cons,Bool.false_eq_true,if_false,List.cons_append];rw[if_pos ⟨trivial,hr⟩]
def Bk (v:AV)(lo hi:Nat):AV:=match v with
 |.cN s r|.own s r=>.cN s ((r.take hi).drop lo)
 |x=>x
@[simp] theorem ZN {sz:Nat} {v:AV} {lo hi:Int} (h:cI sz v=true):jo false sz v lo hi none=if 0<=lo/\lo<=hi/\hi<=(aP v).length then some (Bk v lo.toNat hi.toNat) else none:=by
 by_cases hc:0<=lo/\lo<=hi/\hi<=(aP v).length
 ·rw[if_pos hc]
  cases v<;>simp[cI]at h
  case U=>
   simp[aP]at hc
   have:lo=0/\hi=0:=by omega
   obtain⟨rfl,rfl⟩:=this
   rfl
  case emp=>
   simp[aP]at hc
   have:lo=0/\hi=0:=by omega
   obtain⟨rfl,rfl⟩:=this
   rfl
  case cN s r=>simp only[aP]at hc;simp[jo,Bk,h.1,hc]
  case own s r=>simp only[aP]at hc;simp[jo,Bk,h.1,hc]
 ·rw[if_neg hc]
  cases v<;>simp[cI]at h
  case U=>
   simp only[jo]
   refine if_neg λh=>hc ?_
   simp at h
   obtain⟨rfl,rfl⟩:=h
   simp[aP]
  case emp=>
   simp only[jo]
   refine if_neg λh=>hc ?_
   simp at h
   obtain⟨rfl,rfl⟩:=h
   simp[aP]
  case cN s r=>
   simp only[jo]
   refine if_neg λh=>hc ?_
   simp at h
   simp only[aP];exact⟨h.1.1.2,h.1.2,h.2⟩
  case own s r=>
   simp only[jo]
   refine if_neg λh=>hc ?_
   simp at h
   simp only[aP];exact⟨h.1.1.2,h.1.2,h.2⟩
@[simp] theorem abM {v:AV} {lo hi:Nat} (h:aG v=true):aG (Bk v lo hi)=true:=by
 cases v<;>simp_all [aG,Bk]
@[simp] theorem L8 {v:AV} {lo hi:Nat} (h:aG v=true):aP (Bk v lo hi)=((aP v).take hi).drop lo:=by
 cases v<;>simp_all [aG,Bk,aP]
theorem Ox {sz lo hi:Nat}{r:List (List AV)}(h:fits sz r=true):fits sz ((r.take hi).drop lo)=true:=by
 simp only[fits,List.all_eq_true]at *
 exact λx hx=>h x (List.mem_of_mem_take (List.mem_of_mem_drop hx))
@[simp] theorem Oy {sz:Nat} {v:AV} {lo hi:Nat} (h:cI sz v=true):cI sz (Bk v lo hi)=true:=by
 cases v<;>simp_all [cI,Bk,Ox]
def ints (xs:List Int):List (List AV):=xs.map λn=>[.int .i64 n]
def dI (v:AV):List Int:=(aP v).map λr=>match r with | [.int .i64 n]=>n|_=>0
def vM (v:AV):Bool:=cI 1 v&&(aP v).all λr=>match r with | [.int .i64 _]=>true|_=>false
theorem Eo (xs:List Int):((ints xs).map λr=>match r with | [AV.int .i64 n]=>n|_=>(0:Int))=xs:=by
 induction xs with
 |nil=>rfl
 |cons x xs ih=>simp only[ints,List.map_cons]at *;rw[ih]
@[simp] theorem abN (xs:List Int):(ints xs).length=xs.length:=by simp[ints]
@[simp] theorem abO (xs:List Int) (i:Nat) (h:i<(ints xs).length):(ints xs)[i]=[.int .i64 (xs[i]'(by simpa using h))]:=by simp[ints]
@[simp] theorem ZO (xs:List Int):fits 1 (ints xs)=true:=by simp[fits,ints]
@[simp] theorem ZP (xs:List Int) (k:Nat):List.take k (ints xs)=ints (xs.take k):=by simp[ints]
@[simp] theorem Xd (xs:List Bool) (k:Nat):List.take k (xs.map λb=>[AV.bool b])=(xs.take k).map λb=>[AV.bool b]:=by simp
@[simp] theorem ZQ (xs:List Int) (k:Nat):List.drop k (ints xs)=ints (xs.drop k):=by simp[ints]
@[simp] theorem Vl (xs ys:List Int):ints xs++ints ys=ints (xs++ys):=by simp[ints]
@[simp] theorem Tu (xs:List Int) (n:Int):ints xs++[[.int .i64 n]]=ints (xs++[n]):=by simp[ints]
theorem Tv {v:AV}(h:vM v=true):aP v=ints (dI v):=by
 simp only[vM,Bool.and_eq_true,List.all_eq_true]at h
 unfold ints dI
 rw[List.map_map]
 conv=>lhs;rw[<-List.map_id (aP v)]
 refine List.map_congr_left λr hr=>?_
 have:=h.2 r hr
 split at this
 ·rfl
 ·cases this
@[simp] theorem abP (v:AV):vM v.view=vM v:=by simp[vM]
@[simp] theorem aeb (v:AV):dI v.view=dI v:=by simp[dI]
@[simp] theorem Oz {v:AV} (h:vM v=true):cI 1 v=true:=by simp only[vM,Bool.and_eq_true]at h;exact h.1
@[simp] theorem Jc {v:AV} (h:vM v=true):aG v=true:=mN (Oz h)
@[simp] theorem agi (xs:List Int):vM (b8 1 (ints xs))=true:=by simp[vM,ints,fits]
@[simp] theorem aiS (xs:List Int):dI (b8 1 (ints xs))=xs:=by simp only[dI,qz];exact Eo xs
@[simp] theorem aec:vM .U=true:=rfl
@[simp] theorem agj:dI .U=[]:=rfl
@[simp] theorem aed (xs:List Int):vM (.cN 1 (ints xs))=true:=by simp[vM,ints,fits]
@[simp] theorem agk (xs:List Int):dI (.cN 1 (ints xs))=xs:=by simp only[dI,L5];exact Eo xs
@[simp] theorem aee (xs:List Int):vM (.own 1 (ints xs))=true:=by simp[vM,ints,fits]
@[simp] theorem agl (xs:List Int):dI (.own 1 (ints xs))=xs:=by simp only[dI,L6];exact Eo xs
@[simp] theorem aef {v:AV} {lo hi:Nat} (h:vM v=true):vM (Bk v lo hi)=true:=by
 have h0:=Jc h
 simp only[vM,Bool.and_eq_true,List.all_eq_true]at *
 refine⟨Oy h.1,λr hr=>?_⟩
 rw[L8 h0]at hr
 exact h.2 r (List.mem_of_mem_take (List.mem_of_mem_drop hr))
@[simp] theorem agm {v:AV} {lo hi:Nat} (h:vM v=true):dI (Bk v lo hi)=((dI v).take hi).drop lo:=by
 simp[dI,Jc h,List.map_take,List.map_drop]
@[simp] theorem abQ (n:Int):vM (.own 1 [[.int .i64 n]])=true:=rfl
@[simp] theorem abR (n:Int):vM (.cN 1 [[.int .i64 n]])=true:=rfl
@[simp] theorem abS (a b:Int):vM (.cN 1 [[.int .i64 a],[.int .i64 b]])=true:=rfl
@[simp] theorem aeg (a b:Int):dI (.cN 1 [[.int .i64 a],[.int .i64 b]])=[a,b]:=rfl
@[simp] theorem abT (a b c:Int):vM (.cN 1 [[.int .i64 a],[.int .i64 b],[.int .i64 c]])=true:=rfl
@[simp] theorem aeh (a b c:Int):dI (.cN 1 [[.int .i64 a],[.int .i64 b],[.int .i64 c]])=[a,b,c]:=rfl
@[simp] theorem aei (n:Int):dI (.cN 1 [[.int .i64 n]])=[n]:=rfl
def iW (xs:List Bool):List (List AV):=xs.map λb=>[.bool b]
@[simp] theorem ZR (xs:List Bool):(iW xs).length=xs.length:=by simp[iW]
@[simp] theorem ZS (xs:List Bool) (i:Nat) (h:i<(iW xs).length):(iW xs)[i]=[.bool (xs[i]'(by simpa using h))]:=by simp[iW]
@[simp] theorem ZT (xs:List Bool) (i:Nat) (b:Bool):(iW xs).set i [.bool b]=iW (xs.set i b):=by simp[iW]
@[simp] theorem st0 {α:Type} (st:List α) (a:α) (l:List α):(st++a::l)[st.length]?=some a:=by simp
@[simp] theorem kV {α:Type} (st:List α) (a b:α) (l:List α):(st++a::b::l)[st.length+1]?=some b:=by
 rw[List.getElem?_append_right (by omega)];simp
@[simp] theorem lf {α:Type} (st:List α) (a b c:α) (l:List α):(st++a::b::c::l)[st.length+2]?=some c:=by
 rw[List.getElem?_append_right (by omega)];simp
@[simp] theorem aky {α:Type} (st:List α) (a x:α) (l:List α):(st++a::l).set st.length x=st++x::l:=by simp
@[simp] theorem akz {α:Type} (st:List α) (a b x:α) (l:List α):(st++a::b::l).set (st.length+1) x=st++a::x::l:=by
 rw[List.set_append_right _ _ (by omega)];simp
@[simp] theorem akA {α:Type} (st:List α) (a b c x:α) (l:List α):(st++a::b::c::l).set (st.length+2) x=st++a::b::x::l:=by
 rw[List.set_append_right _ _ (by omega)];simp
end Ax
namespace Ax
open Go
theorem bC {S:Nat->Option aC}{wl aa:Nat}{rs:List jA}{Q:Ex->St->Prop}{k:List Bf}{α:Type}{c b:bG}{s:St}(h:c=b)(f:α->St)(I:α->Prop)(μ:α->Nat)(a0:α)(hs:s=f a0)(h0:I a0)
  (round:∀a,I a->(∀a',I a'->μ a'<μ a->W S wl aa rs Q (.code (.loop c)::k) .normal (f a'))->W S wl aa rs Q (.code b::.again c::k) .normal (f a)) :
  W S wl aa rs Q (.code (.loop c)::k) .normal s:=by
 subst hs
 exact abD h f I μ round a0 h0
def Nk (v:AV):List AV:=(aP v).map λr=>r.headD .undef
def Bm (v:AV):Bool:=cI 1 v&&(aP v).all λr=>match r with | [x]=>vM x|_=>false
def dII (v:AV):List (List Int):=(Nk v).map dI
theorem OA {v:AV}(h:Bm v=true):aP v=(Nk v).map λx=>[x]:=by
 simp only[Bm,Bool.and_eq_true,List.all_eq_true]at h
 unfold Nk
 rw[List.map_map]
 conv=>lhs;rw[<-List.map_id (aP v)]
 refine List.map_congr_left λr hr=>?_
 have:=h.2 r hr
 split at this
 ·rfl
 ·cases this
theorem Xe {v:AV}(h:Bm v=true):∀x∈Nk v,vM x=true:=by
 intro x hx
 have h1:=OA h
 simp only[Bm,Bool.and_eq_true,List.all_eq_true]at h
 have:[x]∈aP v:=by rw[h1];exact List.mem_map.2 ⟨x,hx,rfl⟩
 exact h.2 _ this
@[simp] theorem abV (v:AV):Nk v.view=Nk v:=by simp[Nk]
@[simp] theorem ZU (v:AV):Bm v.view=Bm v:=by simp[Bm]
@[simp] theorem abW (v:AV):dII v.view=dII v:=by simp[dII]
@[simp] theorem Tw {v:AV} (h:Bm v=true):cI 1 v=true:=by simp only[Bm,Bool.and_eq_true]at h;exact h.1
@[simp] theorem aej {v:AV} (h:Bm v=true):aG v=true:=mN (Tw h)
@[simp] theorem aek (v:AV):(dII v).length=(Nk v).length:=by simp[dII]
@[simp] theorem ael {v:AV} (h:Bm v=true) (i:Nat) (hi:i<(Nk v).length):vM (Nk v)[i]=true:=Xe h _ (List.getElem_mem _)
end Ax
namespace Ax
@[simp] theorem cast_eq (a b:Nat):((a:Int)=(b:Int))↔a=b:=Int.natCast_inj
end Ax
namespace Ax
open Go
theorem OB {S:Nat->Option aC}{f:Nat}{sf:aC}(hf:S f=some sf)(hm:sf.mode=.pure){args:List AV}(hp:AV.ah args=true){v:AV}{st0:aj}(h:(aW S).call 0 0 f args []=some (v,st0))(wl aa:Nat)(st:aj) :
  (aW S).call wl aa f args st=some (v,st):=by
 rw[xG,hf]at h ⊢
 have ha:alone sf args=true:=by simp[alone,hm,hp]
 simp only[dD,ha,if_true]at h ⊢
 cases hc:cM (aW S) 0 0 sf args [] with
 |none=>rw[hc]at h;cases h
 |some x=>rw[hc]at h;cases h;rfl
end Ax
namespace Ax
open Go
variable {P:Program}
theorem Jd {t:TypeId}{k:IntKind}{as:List AV}(h1:P.underlying t=some (.int k))(h:Ty P t as):∃n,as=[.int k n]/\k.min<=n/\n<=k.max:=by
 cases h with
 |int hu n a b=>rw[h1]at hu;cases hu;exact⟨n,rfl,a,b⟩
 |bool hu=>rw[h1]at hu;cases hu
 |str hu=>rw[h1]at hu;cases hu
 |U hu=>rw[h1]at hu;cases hu
 |emp hu=>rw[h1]at hu;cases hu
 |cN hu=>rw[h1]at hu;cases hu
 |S1 hu=>rw[h1]at hu;cases hu
theorem OD {t e:TypeId}{as:List AV}(h1:P.underlying t=some (.slice e))(h:Ty P t as):∃v,as=[v]/\cI (P.cellsOf e) v=true/\(∀r∈aP v,Ty P e r)/\(aP v).length<=maxLen:=by
 cases h with
 |U hu=>exact⟨_,rfl,rfl,λr hr=>by simp[aP]at hr,by simp[aP]⟩
 |emp hu=>exact⟨_,rfl,rfl,λr hr=>by simp[aP]at hr,by simp[aP]⟩
 |cN hu rows hn hl h2=>
  rw[h1]at hu;cases hu
  refine⟨_,rfl,?_,h2,hn⟩
  simp only[iC,beq_self_eq_true,Bool.true_and,fits,List.all_eq_true,beq_iff_eq]
  exact hl
 |bool hu=>rw[h1]at hu;cases hu
 |int hu=>rw[h1]at hu;cases hu
 |str hu=>rw[h1]at hu;cases hu
 |S1 hu=>rw[h1]at hu;cases hu
theorem agn {t e:TypeId}{as:List AV}(h1:P.underlying t=some (.slice e))(h2:P.underlying e=some (.int .i64))(h3:P.cellsOf e=1)(h:Ty P t as):∃v,as=[v]/\vM v=true/\(dI v).length<=maxLen/\∀n∈dI v,-9223372036854775808<=n/\n<=9223372036854775807:=by
 obtain⟨v,rfl,a,b,c⟩:=OD h1 h
 rw[h3]at a
 refine⟨v,rfl,?_,by simpa [dI] using c,λn hn=>?_⟩
 ·simp only[vM,a,Bool.true_and,List.all_eq_true]
  intro r hr
  obtain⟨n,rfl,_⟩:=Jd h2 (b r hr)
  rfl
 ·simp only[dI,List.mem_map]at hn
  obtain⟨r,hr,rfl⟩:=hn
  obtain⟨n,rfl,l,u⟩:=Jd h2 (b r hr)
  exact⟨l,u⟩
theorem Kv {t:TypeId}{a:AV}(h1:∀fs,P.underlying t≠some (.struct fs))(h:Wy P t a):Ty P t [a]:=by
 rcases h with⟨fs,as,h2,_⟩|⟨_,h2⟩
 ·exact absurd h2 (h1 fs)
 ·exact h2
theorem OE {t:TypeId}{as:List AV}(h:S4 P [t] as):∃a,as=[a]/\Wy P t a:=by
 match as,h with
 |[a],h=>exact⟨a,rfl,h.1⟩
end Ax
namespace Ax
open Go
noncomputable def GB (env:Env) (t:Nat):dK:=List.rec (motive:=λ_=>dK) dK.none (λp _ ih=>match Nat.beq p.1 t with|true=>p.2|false=>ih) env
noncomputable def OF (env:Env) (t:Nat) (e:dK):Env:=List.rec (motive:=λ_=>Env) [(t,e)] (λp r ih=>match Nat.ble p.1 t with
  |false=>(t,e)::p::r
  |true=>match Nat.beq p.1 t with
   |true=>(t,e)::r
   |false=>p::ih) env
noncomputable def Di (env:Env) (t:Nat):Env:=List.rec (motive:=λ_=>Env) [] (λp _ ih=>match Nat.beq p.1 t with|true=>ih|false=>p::ih) env
theorem Bn {k t:Nat}(h:¬k=t):Nat.beq k t=false:=by
 cases hb:Nat.beq k t with
 |false=>rfl
 |true=>exact absurd (Nat.eq_of_beq_eq_true hb) h
theorem wD {k t:Nat}(h:k=t):Nat.beq k t=true:=by subst h;exact Nat.beq_refl k
theorem GC:GB=cA:=by
 funext env t
 induction env with
 |nil=>rfl
 |cons p r ih=>
  obtain⟨k,e⟩:=p
  show (match Nat.beq k t with|true=>e|false=>GB r t)=cA ((k,e)::r) t
  rw[ih]
  show _=(if k=t then e else cA r t)
  by_cases h:k=t
  ·rw[wD h,if_pos h]
  ·rw[Bn h,if_neg h]
theorem OH:OF=rZ:=by
 funext env t e
 induction env with
 |nil=>rfl
 |cons p r ih=>
  obtain⟨k,x⟩:=p
  show (match Nat.ble k t with
   |false=>(t,e)::(k,x)::r
   |true=>match Nat.beq k t with
    |true=>(t,e)::r
    |false=>(k,x)::OF r t e)=rZ ((k,x)::r) t e
  rw[ih]
  show _=(if t<k then (t,e)::(k,x)::r else if t=k then (t,e)::r else (k,x)::rZ r t e)
  by_cases h:t<k
  ·have:Nat.ble k t=false:=by
    cases hb:Nat.ble k t with
    |false=>rfl
    |true=>have:=Nat.le_of_ble_eq_true hb;omega
   rw[this,if_pos h]
  ·have:Nat.ble k t=true:=Nat.ble_eq_true_of_le (by omega)
   rw[this,if_neg h]
   by_cases h2:t=k
   ·rw[wD h2.symm,if_pos h2]
   ·rw[Bn (λe=>h2 e.symm),if_neg h2]
theorem GF:Di=zk:=by
 funext env t
 induction env with
 |nil=>rfl
 |cons p r ih=>
  obtain⟨k,x⟩:=p
  show (match Nat.beq k t with|true=>Di r t|false=>(k,x)::Di r t)=(if k=t then zk r t else (k,x)::zk r t)
  rw[ih]
  by_cases h:k=t
  ·rw[wD h,if_pos h]
  ·rw[Bn h,if_neg h]
noncomputable def GG (v:AV):AV:=match v with
 |.own sz rows=>.cN sz rows
 |.raw _ _=>.gone
 |.agg cs=>(AV.agg cs).view
 |.fm cs=>(AV.fm cs).view
 |v=>v
theorem GH (v:AV):GG v=v.view:=by cases v<;>simp[GG,AV.view]
noncomputable def Ep (l:List AV):List AV:=List.rec (motive:=λ_=>List AV) [] (λv _ ih=>GG v::ih) l
theorem Dj (l:List AV):Ep l=AV.cy l:=by
 induction l with
 |nil=>rfl
 |cons v l ih=>
  show GG v::Ep l=_
  rw[ih,GH];rfl
noncomputable def Kw (v:AV):Bool:=match v with
 |.mu _ _|.ptr _ _ _ _|.map _=>false
 |.agg cs=>(AV.agg cs).an
 |.fm cs=>(AV.fm cs).an
 |.fn f a b=>(AV.fn f a b).an
 |_=>true
theorem OI (v:AV):Kw v=v.an:=by cases v<;>simp[Kw,AV.an]
noncomputable def Er (l:List AV):Bool:=List.rec (motive:=λ_=>Bool) true (λv _ ih=>match Kw v with|true=>ih|false=>false) l
theorem L9 (l:List AV):Er l=AV.ah l:=by
 induction l with
 |nil=>rfl
 |cons v l ih=>
  show (match Kw v with|true=>Er l|false=>false)=_
  rw[ih,OI]
  simp only[AV.ah]
  cases v.an<;>simp
noncomputable def OJ (e:dK):dK:=match e with|.val v=>.val (GG v)|.none=>.none|.fp j k=>.fp j k
theorem OK (e:dK):OJ e=e.view:=by cases e<;>simp[OJ,dK.view,GH]
noncomputable def OL (env:Env) (x:Src):dK:=match x with
 |.tmp t mv=>match mv with|true=>GB env t|false=>OJ (GB env t)
 |.const a=>.val a
theorem Kx:OL=Fv:=by
 funext env x
 unfold OL Fv
 rw[GC]
 cases x with
 |tmp t mv=>
  cases mv
  ·exact OK _
  ·rfl
 |const a=>rfl
noncomputable def sP (env:Env) (x:Src):Env:=match x with
 |.tmp t mv=>match mv with|true=>Di env t|false=>env
 |.const _=>env
theorem Dk:sP=kD:=by
 funext env x
 unfold sP kD
 rw[GF]
 cases x with
 |tmp t mv=>cases mv<;>rfl
 |const a=>rfl
noncomputable def pN (l:List Nat) (env:Env):Env:=List.rec (motive:=λ_=>Env->Env) (λenv=>env) (λt _ ih env=>ih (Di env t)) l env
theorem Bo:pN=gH:=by
 funext l
 induction l with
 |nil=>rfl
 |cons t l ih=>
  funext env
  show pN l (Di env t)=gH l (zk env t)
  rw[ih,GF]
noncomputable def Dl (env:Env) (dst:Option Nat) (e:dK):Env:=match dst with|some d=>OF env d e|none=>env
theorem OM:Dl=ux:=by
 funext env d e
 unfold Dl ux
 rw[OH]
 rfl
noncomputable def Bp (env:Env) (g:Option (Nat×Bool)):Option Bool:=match g with
 |none=>some true
 |some (t,b)=>match GB env t with
  |.val (.bool c)=>some (c==b)
  |.val .undef=>some false
  |_=>none
theorem GI:Bp=kL:=by
 funext env g
 unfold Bp kL
 rw[GC]
 rfl
noncomputable def ON (env:Env) (l:List Src):List dK:=List.rec (motive:=λ_=>List dK) [] (λx _ ih=>OL env x::ih) l
theorem OO (env:Env)(l:List Src):ON env l=l.map (Fv env):=by
 induction l with
 |nil=>rfl
 |cons x l ih=>
  show OL env x::ON env l=_
  rw[ih,Kx];rfl
noncomputable def Bq (env:Env) (l:List Src):Env:=List.rec (motive:=λ_=>Env->Env) (λenv=>env) (λx _ ih env=>ih (sP env x)) l env
theorem Ma (l:List Src):∀env,Bq env l=l.foldl kD env:=by
 induction l with
 |nil=>exact λ_=>rfl
 |cons x l ih=>
  intro env
  show Bq (sP env x) l=_
  rw[ih,Dk];rfl
noncomputable def Tx (O:jf) (wl aa:Nat) (op:fA) (vals:List dK) (st:aj) (bx:aS):Option (dK×aj×aS):=match op with
 |.move=>match vals with
  |[e]=>some (e,st,bx)
  |_=>none
 |.load agg n take=>match take with
  |true=>aI wl aa (.load agg n true) vals st bx
  |false=>match vals with
   |[.val p]=>match fF st p n with
    |some cs=>match bU agg (Ep cs) with|some v=>some (.val v,st,bx)|none=>none
    |none=>none
   |_=>none
 |.aD j agg n take=>match take with
  |true=>aI wl aa (.aD j agg n true) vals st bx
  |false=>match vals with
   |[.fp j' k]=>match Nat.beq j j' with
    |true=>match bx[j]? with
     |some row=>match cut row k n with
      |some cs=>match bU agg (Ep cs) with|some v=>some (.val v,st,bx)|none=>none
      |none=>none
     |none=>none
    |false=>none
   |_=>none
 |.call f=>eR O wl aa (kE (.call f) vals) st bx
 |.ox=>eR O wl aa (kE .ox vals) st bx
 |op=>aI wl aa op vals st bx
theorem Tz (O:jf)(wl aa:Nat)(op:fA)(vals:List dK)(st:aj)(bx:aS):Tx O wl aa op vals st bx=act O wl aa op vals st bx:=by
 cases op
 case load agg n take=>
  cases take with
  |true=>rfl
  |false=>
   simp only[Tx,act,aI,Dj]
   rfl
 case aD j agg n take=>
  cases take with
  |true=>rfl
  |false=>
   rcases vals with _|⟨e,_|⟨e2,l⟩⟩
   ·rfl
   ·cases e with
    |none=>rfl
    |val v=>rfl
    |fp j' k=>
     simp only[Tx,act,aI,Dj]
     by_cases h:j=j'
     ·rw[wD h,if_pos h];rfl
     ·rw[Bn h,if_neg h]
   ·cases e<;>rfl
 all_goals rfl
noncomputable def zV (O:jf) (wl aa:Nat) (o:aU) (s:St):Option St:=
 match Bp s.env o.guard with
 |none=>none
 |some false=>some { s with env:=Dl s.env o.dst (.val .undef) }
 |some true=>
  match Tx O wl aa o.op (ON s.env o.args) s.st s.bx with
  |none=>none
  |some (e,bK,eI)=>
   match o.op.bq with
   |none=>some ⟨Dl (Bq s.env o.args) o.dst e,eI,bK⟩
   |some j=>if nw j (Dl (Bq s.env o.args) o.dst .none) then some ⟨Dl (Bq s.env o.args) o.dst e,eI,bK⟩ else none
theorem Je (O:jf)(wl aa:Nat)(o:aU)(s:St):zV O wl aa o s=evalOp O wl aa o s:=by
 unfold zV evalOp
 rw[GI,OM,OO,Ma,Tz]
 rfl
noncomputable def qA (O:jf) (wl aa:Nat) (l:List aU) (s:St):Option St:=List.rec (motive:=λ_=>St->Option St) (λs=>some s)
 (λo _ ih s=>match zV O wl aa o s with|some s'=>ih s'|none=>none) l s
theorem yW (O:jf)(wl aa:Nat):∀(l:List aU)(s:St),qA O wl aa l s=eC O wl aa l s:=by
 intro l
 induction l with
 |nil=>exact λ_=>rfl
 |cons o l ih=>
  intro s
  show (match zV O wl aa o s with|some s'=>qA O wl aa l s'|none=>none)=_
  rw[Je]
  unfold eC
  cases evalOp O wl aa o s with
  |none=>rfl
  |some s'=>exact ih s'
noncomputable def xR (O:jf) (wl aa:Nat) (ops:List aU) (bD:List (Nat×Nat)) (s:St):Option St:=match bD with
 |[]=>match ops.all (bp s.env) with
  |true=>qA O wl aa ops s
  |false=>none
 |p::l=>fq O wl aa ops (p::l) s
theorem Es (O:jf)(wl aa:Nat)(ops:List aU)(bD:List (Nat×Nat))(s:St):xR O wl aa ops bD s=fq O wl aa ops bD s:=by
 cases bD with
 |cons p l=>rfl
 |nil=>
  show (match ops.all (bp s.env) with|true=>qA O wl aa ops s|false=>none)=_
  cases h:ops.all (bp s.env) with
  |true=>rw[qZ h];exact yW ..
  |false=>
   unfold fq
   cases dm O wl aa ops s with
   |none=>rfl
   |some y=>simp[h]
noncomputable def zW (env:Env) (c:Src):Option Bool:=
 match OL env c with
 |.val (.bool b)=>some b
 |_=>none
theorem Jf:zW=oy:=by
 funext env c
 unfold zW oy
 rw[Kx]
 rfl
noncomputable def Et (O:jf) (wl aa:Nat) (rs:List jA) (c:bG):St->Option (Ex×St):=bG.rec (motive:=λ_=>St->Option (Ex×St))
 (λs=>some (Ex.normal,s))
 (λops draw dx s=>
  match (match draw with|none=>qA O wl aa ops s|some bD=>xR O wl aa ops bD s) with
  |some s'=>some (Ex.normal,{ s' with env:=pN dx s'.env })
  |none=>none)
 (λ_ _ ia ib s=>match ia s with
  |some (Ex.normal,s')=>ib s'
  |r=>r)
 (λc ca _ cb _ ia ib s=>match zW s.env c with
  |some true=>ia { s with env:=pN ca (sP s.env c) }
  |some false=>ib { s with env:=pN cb (sP s.env c) }
  |none=>none)
 (λid _ ic s=>match ic s with
  |some (Ex.exit UL,s')=>if UL=id then some (Ex.normal,s') else some (Ex.exit UL,s')
  |r=>r)
 (λc _ s=>O.loop wl aa rs c s)
 (λid s=>some (Ex.exit id,s))
 (λs=>match u9 s rs with|some v=>some (Ex.ret v,⟨[],[],s.st⟩)|none=>none)
 (λt s=>gm O wl aa rs (.Nl t) s)
 (λj k s=>gm O wl aa rs (.Ai j k) s)
 (λt off s=>gm O wl aa rs (.uw t off) s) c
theorem Ky (O:jf)(wl aa:Nat)(rs:List jA):∀(c:bG)(s:St),Et O wl aa rs c s=gm O wl aa rs c s:=by
 intro c
 induction c with
 |skip=>exact λ_=>rfl
 |region ops draw dx=>
  intro s
  show (match (match draw with|none=>qA O wl aa ops s|some bD=>xR O wl aa ops bD s) with
  |some s'=>some (Ex.normal,{ s' with env:=pN dx s'.env })
  |none=>none)=_
  rw[Bo]
  simp only[gm]
  cases draw with
  |none=>rw[yW];rfl
  |some p=>simp only[Es];rfl
 |seq a b ia ib=>
  intro s
  show (match Et O wl aa rs a s with
  |some (Ex.normal,s')=>Et O wl aa rs b s'
  |r=>r)=_
  rw[ia]
  simp only[gm]
  cases gm O wl aa rs a s with
  |none=>rfl
  |some y=>
   obtain⟨x,s'⟩:=y
   cases x with
   |normal=>exact ib s'
   |exit _=>rfl
   |ret _=>rfl
 |cond c ca a cb b ia ib=>
  intro s
  show (match zW s.env c with
  |some true=>Et O wl aa rs a { s with env:=pN ca (sP s.env c) }
  |some false=>Et O wl aa rs b { s with env:=pN cb (sP s.env c) }
  |none=>none)=_
  rw[Jf,Bo,Dk]
  simp only[gm]
  cases oy s.env c with
  |none=>rfl
  |some z=>cases z with
   |true=>exact ia _
   |false=>exact ib _
 |block id c ic=>
  intro s
  show (match Et O wl aa rs c s with
  |some (Ex.exit UL,s')=>if UL=id then some (Ex.normal,s') else some (Ex.exit UL,s')
  |r=>r)=_
  rw[ic]
  rfl
 |loop c _=>exact λ_=>rfl
 |exit id=>exact λ_=>rfl
 |ret=>exact λ_=>rfl
 |Nl t=>exact λ_=>rfl
 |Ai j k=>exact λ_=>rfl
 |uw t off=>exact λ_=>rfl
noncomputable def q9 (O:jf) (wl aa:Nat) (sf:aC) (args:List AV) (st:aj):Option (AV×aj):=
 match Nat.beq args.length sf.nparams with
 |true=>match Et O (sf.mode.va st.length wl) (sf.mode.oz st.length aa) sf.results sf.body (oA sf args st) with
  |some (x,s)=>match Cx sf.results x s with
   |some v=>sf.mode.fin st v s.st
   |none=>none
  |none=>none
 |false=>none
theorem uU (O:jf)(wl aa:Nat)(sf:aC)(args:List AV)(st:aj):q9 O wl aa sf args st=cM O wl aa sf args st:=by
 unfold q9 cM
 rw[Ky]
 by_cases h:args.length=sf.nparams
 ·rw[wD h,if_pos h]
  rfl
 ·rw[Bn h,if_neg h]
noncomputable def tW (O:jf) (wl aa:Nat) (sf:aC) (args:List AV) (st:aj):Option (AV×aj):=
 match (match sf.mode with|.pure=>Er args|_=>false) with
 |true=>(match q9 O 0 0 sf args [] with|some r=>some (r.1,st)|none=>none)
 |false=>q9 O wl aa sf args st
theorem Eu (O:jf)(wl aa:Nat)(sf:aC)(args:List AV)(st:aj):tW O wl aa sf args st=dD O wl aa sf args st:=by
 unfold tW dD
 rw[uU,uU]
 have:(match sf.mode with|.pure=>Er args|_=>false)=alone sf args:=by
  unfold alone
  rw[L9]
  cases sf.mode<;>simp
 rw[this]
 cases alone sf args with
 |true=>simp only[if_true];cases cM O 0 0 sf args []<;>rfl
 |false=>simp
noncomputable def Mb (S:Nat->Option aC) (n:Nat):jf:=Nat.rec (motive:=λ_=>jf)
 ⟨λ_ _ _ _ _=>none,λ_ _ _ _ _=>none⟩
 (λ_ ih=>⟨λwl aa f args st=>match S f with
   |some sf=>tW ih wl aa sf args st
   |none=>none,
   λwl aa rs c s=>match Et ih wl aa rs c s with
   |some (Ex.normal,s')=>ih.loop wl aa rs c s'
   |r=>r⟩) n
theorem TA (S:Nat->Option aC):∀n,Mb S n=ny S n:=by
 intro n
 induction n with
 |zero=>rfl
 |succ n ih=>
  show (⟨λwl aa f args st=>match S f with
   |some sf=>tW (Mb S n) wl aa sf args st
   |none=>none,
   λwl aa rs c s=>match Et (Mb S n) wl aa rs c s with
   |some (Ex.normal,s')=>(Mb S n).loop wl aa rs c s'
   |r=>r⟩:jf)=ny S (n+1)
  rw[ih]
  simp only[Eu,Ky]
  rfl
theorem Xf {S:Nat->Option aC}{n wl aa f:Nat}{args:List AV}{st:aj}{r:AV×aj}(h:(Mb S n).call wl aa f args st=some r):(aW S).call wl aa f args st=some r:=by
 rw[TA]at h
 exact(nR S n).call _ _ _ _ _ _ h
def Xg (x:Option (AV×aj)):Bool:=match x with|some (.bool b,[])=>b|_=>false
theorem TB {x:Option (AV×aj)}(h:Xg x=true):x=some (.bool true,[]):=by
 unfold Xg at h
 split at h
 ·subst h;rfl
 ·cases h
end Ax
namespace Ax
@[simp] abbrev Src.t (n:Nat):Src:=.tmp n false
@[simp] abbrev Src.T (n:Nat):Src:=.tmp n true
@[simp] abbrev aU.o (d:Nat) (op:fA) (args:List Src):aU:=⟨some d,op,args,none⟩
@[simp] abbrev aU.n (op:fA) (args:List Src):aU:=⟨none,op,args,none⟩
@[simp] abbrev aU.y (d:Nat) (op:fA) (args:List Src) (t:Nat):aU:=⟨some d,op,args,some (t,true)⟩
@[simp] abbrev aU.z (d:Nat) (op:fA) (args:List Src) (t:Nat):aU:=⟨some d,op,args,some (t,false)⟩
@[simp] abbrev Src.b (x:Bool):Src:=.const (.bool x)
@[simp] abbrev AV.i (n:Int):AV:=.int .i64 n
@[simp] abbrev Src.i (n:Int):Src:=.const (.int .i64 n)
@[simp] abbrev aU.m (d:Nat) (a:Src):aU:=⟨some d,.move,[a],none⟩
@[simp] abbrev aU.f (d k:Nat) (a:Src):aU:=⟨some d,.fieldAddr k,[a],none⟩
@[simp] abbrev aU.l (d i:Nat) (a:Src):aU:=⟨some d,.aD i false 1 false,[a],none⟩
@[simp] abbrev aU.d (d:Nat) (a:Src):aU:=⟨some d,.load false 1 false,[a],none⟩
@[simp] abbrev bG.r:=bG.region
@[simp] abbrev aU.c (d f:Nat) (args:List Src):aU:=⟨some d,.call f,args,none⟩
@[simp] abbrev bG.g (l:List aU) (c:List Nat):bG:=.region l none c
end Ax
