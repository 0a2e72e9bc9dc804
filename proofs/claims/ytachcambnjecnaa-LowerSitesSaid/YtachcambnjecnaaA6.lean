/- The library of this proof, part 6: an abstract interpreter of the loaded code, and its soundness. -/
import Derived.Test.YtachcambnjecnaaA5
import Derived.IntWalk

namespace Ax
open Go
inductive Cb where
 |cT (l:List aX) (dM:List Nat)
 |code (c:bQ)
 |jl (id:Nat)
 |ud (c:bQ)
def nc(O:jC)(wl aa:Nat)(rs:List jV):List Cb->Ex->St->Option (Ex×St)
 |[],x,s=>some (x,s)
 |.jl id::k,x,s=>match x with
  |.normal=>nc O wl aa rs k .normal s
  |.exit i=>if i=id then nc O wl aa rs k .normal s else nc O wl aa rs k (.exit i) s
  |.ret v=>nc O wl aa rs k (.ret v) s
 |.cT l dM::k,x,s=>match x with
  |.normal=>match eY O wl aa l s with|some s'=>nc O wl aa rs k .normal { s' with env:=iz dM s'.env } | none=>none
  |x=>nc O wl aa rs k x s
 |.code c::k,x,s=>match x with
  |.normal=>match gO O wl aa rs c s with|some (x',s')=>nc O wl aa rs k x' s'|none=>none
  |x=>nc O wl aa rs k x s
 |.ud c::k,x,s=>match x with
  |.normal=>match gO O wl aa rs (.loop c) s with|some (x',s')=>nc O wl aa rs k x' s'|none=>none
  |x=>nc O wl aa rs k x s
def W(S:Nat->Option aD)(wl aa:Nat)(rs:List jV)(Q:Ex->St->Prop)(k:List Cb)(x:Ex)(s:St):Prop:=∃x' s',nc (bg S) wl aa rs k x s=some (x',s')/\Q x' s'
variable {S:Nat->Option aD}{wl aa:Nat}{rs:List jV}{Q:Ex->St->Prop}{k:List Cb}{s:St}
theorem acW{x:Ex}:W S wl aa rs Q [] x s↔Q x s:=by
 unfold W nc
 constructor
 ·rintro⟨x',s',h,hq⟩;cases h;exact hq
 ·intro h;exact⟨x,s,rfl,h⟩
theorem acX{id:Nat}:W S wl aa rs Q (.jl id::k) .normal s↔W S wl aa rs Q k .normal s:=Iff.rfl
theorem Yg{id i:Nat}:W S wl aa rs Q (.jl id::k) (.exit i) s↔if i=id then W S wl aa rs Q k .normal s else W S wl aa rs Q k (.exit i) s:=by
 unfold W
 simp only[nc]
 split<;>exact Iff.rfl
theorem Yh{id:Nat}{v:AV}:W S wl aa rs Q (.jl id::k) (.ret v) s↔W S wl aa rs Q k (.ret v) s:=Iff.rfl
theorem Yi{l:List aX}{dM:List Nat}{i:Nat}:W S wl aa rs Q (.cT l dM::k) (.exit i) s↔W S wl aa rs Q k (.exit i) s:=Iff.rfl
theorem Yj{l:List aX}{dM:List Nat}{v:AV}:W S wl aa rs Q (.cT l dM::k) (.ret v) s↔W S wl aa rs Q k (.ret v) s:=Iff.rfl
theorem UA{c:bQ}{i:Nat}:W S wl aa rs Q (.code c::k) (.exit i) s↔W S wl aa rs Q k (.exit i) s:=Iff.rfl
theorem UB{c:bQ}{v:AV}:W S wl aa rs Q (.code c::k) (.ret v) s↔W S wl aa rs Q k (.ret v) s:=Iff.rfl
theorem P0{c:bQ}{i:Nat}:W S wl aa rs Q (.ud c::k) (.exit i) s↔W S wl aa rs Q k (.exit i) s:=Iff.rfl
theorem P1{c:bQ}{v:AV}:W S wl aa rs Q (.ud c::k) (.ret v) s↔W S wl aa rs Q k (.ret v) s:=Iff.rfl
theorem Yk{dM:List Nat}:W S wl aa rs Q (.cT [] dM::k) .normal s↔W S wl aa rs Q k .normal { s with env:=iz dM s.env }:=Iff.rfl
theorem ahI{o:aX}{l:List aX}{dM:List Nat}:W S wl aa rs Q (.cT (o::l) dM::k) .normal s↔∃s',gr (bg S) wl aa o s=some s'/\W S wl aa rs Q (.cT l dM::k) .normal s':=by
 unfold W
 simp only[nc,eY]
 cases gr (bg S) wl aa o s with
 |none=>simp
 |some s'=>simp
theorem Yl:W S wl aa rs Q (.code .skip::k) .normal s↔W S wl aa rs Q k .normal s:=Iff.rfl
theorem Ym{id:Nat}:W S wl aa rs Q (.code (.exit id)::k) .normal s↔W S wl aa rs Q k (.exit id) s:=Iff.rfl
theorem acY:W S wl aa rs Q (.code .ret::k) .normal s↔∃v,wB s rs=some v/\W S wl aa rs Q k (.ret v) ⟨[],[],s.st⟩:=by
 unfold W
 simp only[nc,gO]
 cases wB s rs with
 |none=>simp
 |some v=>simp
theorem acZ{a b:bQ}:W S wl aa rs Q (.code (.seq a b)::k) .normal s↔W S wl aa rs Q (.code a::.code b::k) .normal s:=by
 unfold W
 simp only[nc,gO]
 cases h:gO (bg S) wl aa rs a s with
 |none=>simp
 |some y=>
  obtain⟨x,s'⟩:=y
  cases x<;>simp
theorem P2{l:List aX}{dM:List Nat}:W S wl aa rs Q (.code (.region l none dM)::k) .normal s↔W S wl aa rs Q (.cT l dM::k) .normal s:=by
 unfold W
 simp only[nc,gO]
 cases h:eY (bg S) wl aa l s with
 |none=>simp
 |some s'=>simp
theorem zP{O:jC}:∀{l:List aX}{s:St},(dJ O wl aa l s).map (·.1)=eY O wl aa l s
 |[],s=>rfl
 |o::l,s=>by
  simp only[dJ,eY]
  cases h:gr O wl aa o s with
  |none=>rfl
  |some s'=>
   simp only
   rw[<-zP (l:=l) (s:=s')]
   cases dJ O wl aa l s' with
   |none=>rfl
   |some y=>rfl
def aA:List aX->Bool
 |[]=>true
 |o::l=>(match o.op.bz with|some _=>false|none=>true)&&aA l
theorem Cc{env:nZ}:∀{l:List aX},aA l=true->l.all (bw env)=true
 |[],_=>rfl
 |o::l,h=>by
  simp only[aA,Bool.and_eq_true]at h
  simp only[List.all_cons,Cc h.2,Bool.and_true]
  unfold bw
  cases hb:o.op.bz with
  |none=>rfl
  |some j=>rw[hb]at h;simp at h
theorem sx{O:jC}{l:List aX}(h:l.all (bw s.env)=true):fO O wl aa l [] s=eY O wl aa l s:=by
 unfold fO
 rw[<-zP]
 cases dJ O wl aa l s with
 |none=>rfl
 |some y=>
  obtain⟨e,gT⟩:=y
  simp only[List.all_nil,h,Bool.and_self,if_true,Option.map_some]
theorem aC{l:List aX}{dM:List Nat}(h:aA l=true):W S wl aa rs Q (.code (.region l (some []) dM)::k) .normal s↔W S wl aa rs Q (.cT l dM::k) .normal s:=by
 unfold W
 simp only[nc,gO,sx (Cc h)]
 cases h:eY (bg S) wl aa l s with
 |none=>simp
 |some s'=>simp
theorem aQ{l:List aX}{dM:List Nat}:W S wl aa rs Q (.code (.region l (some []) dM)::k) .normal s↔l.all (bw s.env)=true/\W S wl aa rs Q (.cT l dM::k) .normal s:=by
 by_cases h:l.all (bw s.env)=true
 ·unfold W
  simp only[nc,gO,sx h]
  cases h2:eY (bg S) wl aa l s with
  |none=>simp
  |some s'=>simp[h]
 ·unfold W
  simp only[nc,gO,fO]
  cases h2:dJ (bg S) wl aa l s with
  |none=>simp[h]
  |some y=>obtain⟨e,gT⟩:=y;simp[h]
theorem sy{l:List aX}{bK:List (Nat×Nat)}{dM:List Nat}:W S wl aa rs Q (.code (.region l (some bK) dM)::k) .normal s↔
  ∃e gT,dJ (bg S) wl aa l s=some (e,gT)/\(bK.all (iy (bg S) wl aa l gT)&&l.all (bw s.env))=true/\W S wl aa rs Q k .normal { e with env:=iz dM e.env }:=by
 unfold W
 simp only[nc,gO,fO]
 cases h:dJ (bg S) wl aa l s with
 |none=>simp
 |some y=>
  obtain⟨e,gT⟩:=y
  by_cases hc:(bK.all (iy (bg S) wl aa l gT)&&l.all (bw s.env))=true
  ·simp only[hc,if_true]
   constructor
   ·rintro⟨x',s',h1,h2⟩;exact⟨e,gT,rfl,hc,x',s',h1,h2⟩
   ·rintro⟨e',ahJ,h0,_,x',s',h1,h2⟩;cases h0;exact⟨x',s',h1,h2⟩
  ·simp only[hc]
   constructor
   ·rintro⟨x',s',h1,_⟩;cases h1
   ·rintro⟨e',ahJ,h0,hf,_⟩;cases h0;exact absurd hf hc
theorem Yn{c:Src}{ca cb:List Nat}{a b:bQ}:W S wl aa rs Q (.code (.cond c ca a cb b)::k) .normal s↔
  ∃t,pA s.env c=some t/\W S wl aa rs Q (.code (if t then a else b)::k) .normal { s with env:=iz (if t then ca else cb) (k8 s.env c) }:=by
 unfold W
 simp only[nc,gO]
 cases pA s.env c with
 |none=>simp
 |some t=>cases t<;>simp
theorem UC{id:Nat}{c:bQ}:W S wl aa rs Q (.code (.block id c)::k) .normal s↔W S wl aa rs Q (.code c::.jl id::k) .normal s:=by
 unfold W
 simp only[nc,gO]
 cases h:gO (bg S) wl aa rs c s with
 |none=>simp
 |some y=>
  obtain⟨x,s'⟩:=y
  cases x with
  |normal=>simp
  |exit i=>by_cases hi:i=id<;>simp[hi]
  |ret v=>simp
theorem Yo{c:bQ}:W S wl aa rs Q (.code (.loop c)::k) .normal s↔W S wl aa rs Q (.code c::.ud c::k) .normal s:=by
 unfold W
 simp only[nc,gO]
 rw[MH]
 cases h:gO (bg S) wl aa rs c s with
 |none=>simp
 |some y=>
  obtain⟨x,s'⟩:=y
  cases x<;>simp
theorem Yp{t off:Nat}:W S wl aa rs Q (.code (.vI t off)::k) .normal s↔∃id bX i k' v v' lM lZ,cQ s.env t=.val (.ptr id bX i k')/\fY s.st (.ptr id bX i (k'+off)) 1=some [v]/\oD wl v s.st=some (v',lM)/\
  dR wl aa lM (.ptr id bX i (k'+off)) [v']=some lZ/\W S wl aa rs Q k .normal ⟨s.env,s.bx,lZ⟩:=by
 constructor
 ·intro h
  unfold W at h
  simp only[nc]at h
  cases hc:gO (bg S) wl aa rs (.vI t off) s with
  |none=>rw[hc]at h;simp at h
  |some y=>
   obtain⟨x1,s1⟩:=y
   rw[hc]at h
   obtain⟨rfl,id,bX,i,k',v,v',lM,lZ,g1,g2,g3,g4,rfl⟩:=Bg hc
   exact⟨id,bX,i,k',v,v',lM,lZ,g1,g2,g3,g4,h⟩
 ·rintro⟨id,bX,i,k',v,v',lM,lZ,g1,g2,g3,g4,h⟩
  unfold W
  simp only[nc,gO,g1,g2,g3,g4]
  exact h
theorem W.imp{Q':Ex->St->Prop}{x:Ex}(h:W S wl aa rs Q k x s)(hq:∀x s,Q x s->Q' x s):W S wl aa rs Q' k x s:=by
 obtain⟨x',s',h1,h2⟩:=h
 exact⟨x',s',h1,hq _ _ h2⟩
theorem Ce{sf:aD}{args:List AV}{st:aj}(hl:args.length=sf.aF){r:AV×aj}
  (h:W S (sf.mode.wC st.length wl) (sf.mode.pC st.length aa) sf.results (λx s=>∃v,Du sf.results x s=some v/\sf.mode.kJ st v s.st=some r) [.code sf.body] .normal (pD sf args st)) :
  de (bg S) wl aa sf args st=some r:=by
 simp only[de,hl,if_true]
 obtain⟨x',s',h1,v,h2,h3⟩:=h
 simp only[nc]at h1
 cases hs:gO (bg S) (sf.mode.wC st.length wl) (sf.mode.pC st.length aa) sf.results sf.body (pD sf args st) with
 |none=>rw[hs]at h1;cases h1
 |some y=>
  obtain⟨x,s⟩:=y
  rw[hs]at h1
  simp only at h1
  cases h1
  simp only[h2,h3]
theorem Nf{f:Nat}{sf:aD}(hf:S f=some sf){args:List AV}{st:aj}(ha:qn sf args=false)(hl:args.length=sf.aF){r:AV×aj}
  (h:W S (sf.mode.wC st.length wl) (sf.mode.pC st.length aa) sf.results (λx s=>∃v,Du sf.results x s=some v/\sf.mode.kJ st v s.st=some r) [.code sf.body] .normal (pD sf args st)) :
  (bg S).call wl aa f args st=some r:=by
 rw[yE,hf]
 simp only[dZ,ha,Bool.false_eq_true,if_false]
 exact Ce hl h
theorem Ng{f:Nat}{sf:aD}(hf:S f=some sf)(hm:sf.mode=.pure){args:List AV}{st:aj}(hp:AV.ah args=true)(hl:args.length=sf.aF){v:AV}(hv:v.an=true)
  (h:W S 0 0 sf.results (λx s=>Du sf.results x s=some v) [.code sf.body] .normal (pD sf args [])) :
  (bg S).call wl aa f args st=some (v,st):=by
 rw[yE,hf]
 have ha:qn sf args=true:=by simp[qn,hm,hp]
 simp only[dZ,ha,if_true]
 have:=Ce (S:=S) (wl:=0) (aa:=0) (sf:=sf) (args:=args) (st:=[]) hl (r:=(v,[])) (by
  rw[hm]
  obtain⟨x',s',h1,h2⟩:=h
  exact⟨x',s',h1,v,h2,by simp[Mode.kJ,hv]⟩)
 rw[this]
 rfl
def WO(S:Nat->Option aD)(wl aa:Nat)(rs:List jV)(Q:Ex->St->Prop)(l:List aX)(dM:List Nat)(k:List Cb):Option St->Prop
 |some s=>W S wl aa rs Q (.cT l dM::k) .normal s
 |none=>False
def WC(S:Nat->Option aD)(wl aa:Nat)(rs:List jV)(Q:Ex->St->Prop)(ca cb:List Nat)(a b:bQ)(k:List Cb)(s:St):Option Bool->Prop
 |some true=>W S wl aa rs Q (.code a::k) .normal { s with env:=iz ca s.env }
 |some false=>W S wl aa rs Q (.code b::k) .normal { s with env:=iz cb s.env }
 |none=>False
def WV(S:Nat->Option aD)(wl aa:Nat)(rs:List jV)(Q:Ex->St->Prop)(k:List Cb)(st:aj):Option AV->Prop
 |some v=>W S wl aa rs Q k (.ret v) ⟨[],[],st⟩
 |none=>False
theorem ac0{o:aX}{l:List aX}{dM:List Nat}:W S wl aa rs Q (.cT (o::l) dM::k) .normal s↔WO S wl aa rs Q l dM k (gr (bg S) wl aa o s):=by
 rw[ahI]
 cases gr (bg S) wl aa o s with
 |none=>simp[WO]
 |some s'=>simp[WO]
theorem UD{c:Src}{ca cb:List Nat}{a b:bQ}:W S wl aa rs Q (.code (.cond c ca a cb b)::k) .normal s↔WC S wl aa rs Q ca cb a b k { s with env:=k8 s.env c } (pA s.env c):=by
 rw[Yn]
 cases pA s.env c with
 |none=>simp[WC]
 |some t=>cases t<;>simp[WC]
theorem Yq:W S wl aa rs Q (.code .ret::k) .normal s↔WV S wl aa rs Q k s.st (wB s rs):=by
 rw[acY]
 cases wB s rs with
 |none=>simp[WV]
 |some v=>simp[WV]
theorem UE{l:List aX}{dM:List Nat}:WO S wl aa rs Q l dM k (some s)↔W S wl aa rs Q (.cT l dM::k) .normal s:=Iff.rfl
theorem UF{l:List aX}{dM:List Nat}:WO S wl aa rs Q l dM k none↔False:=Iff.rfl
theorem Yr{l:List aX}{dM:List Nat}{c:Prop} [Decidable c]:WO S wl aa rs Q l dM k (if c then some s else none)↔c/\W S wl aa rs Q (.cT l dM::k) .normal s:=by
 by_cases h:c<;>simp[h,WO]
theorem UG{ca cb:List Nat}{a b:bQ}:WC S wl aa rs Q ca cb a b k s (some true)↔W S wl aa rs Q (.code a::k) .normal { s with env:=iz ca s.env }:=Iff.rfl
theorem P4{ca cb:List Nat}{a b:bQ}:WC S wl aa rs Q ca cb a b k s (some false)↔W S wl aa rs Q (.code b::k) .normal { s with env:=iz cb s.env }:=Iff.rfl
theorem UH{st:aj}{v:AV}:WV S wl aa rs Q k st (some v)↔W S wl aa rs Q k (.ret v) ⟨[],[],st⟩:=Iff.rfl
end Ax
namespace Ax
open Go
attribute [simp ↓] acW acX Yg Yh Yi Yj UA UB P0 P1 Yk ac0 Yl Ym Yq acZ P2 UD UC
attribute [simp] UE UF Yr UG P4 UH
attribute [simp] gr lA qM GC k8 vJ fQ.bz iz eG.view AV.view AV.cL qk wB wA Bc
 AV.an AV.ah cQ tH Ah pD Mode.wC Mode.pC Mode.kJ Du DQ pA b9 cut iO fC ld n7 eG.nL
variable {S:Nat->Option aD}{wl aa:Nat}{rs:List jV}{Q:Ex->St->Prop}{k:List Cb}{st:aj}{bx:aU}
def qf(st:aj)(bx:aU):Option AV->Option (eG×aj×aU)
 |some v=>some (.val v,st,bx)
 |none=>none
@[simp]theorem aaU{v:AV}:qf st bx (some v)=some (.val v,st,bx):=rfl
@[simp]theorem aaV:qf st bx none=none:=rfl
@[simp]theorem ac1{c:Prop} [Decidable c]{v:AV}:qf st bx (if c then some v else none)=if c then some (.val v,st,bx) else none:=by by_cases h:c<;>simp[h]
theorem Ft{c b:bQ}{s:St}(h:c=b):W S wl aa rs Q (.code (.loop c)::k) .normal s↔W S wl aa rs Q (.code b::.ud c::k) .normal s:=by
 rw[Yo];subst h;exact Iff.rfl
@[simp]theorem Ys:eC st .U=some []:=rfl
@[simp]theorem Yt:eC st .kV=some []:=rfl
@[simp]theorem Yu{sz:Nat}{r:List (List AV)}:eC st (.dj sz r)=some r:=rfl
@[simp]theorem Yv{sz:Nat}{r:List (List AV)}:eC st (.je sz r)=some r:=rfl
@[simp]theorem aaW{id bX:Nat}:eC st (.mu id bX)=match st[id]? with|some (.rows v _ rows)=>if v=bX then some rows else none|_=>none:=rfl
@[simp]theorem UI:dG st .U=some []:=rfl
@[simp]theorem UJ:dG st .kV=some []:=rfl
@[simp]theorem UK{sz:Nat}{r:List (List AV)}:dG st (.dj sz r)=some r:=rfl
@[simp]theorem UL{sz:Nat}{r:List (List AV)}:dG st (.je sz r)=some r:=rfl
@[simp]theorem UM{l:List UInt8}:dG st (.str l)=some (eI l):=rfl
@[simp]theorem ac2{l:List UInt8}:mV st .str (.str l)=some l.length:=rfl
@[simp]theorem afC{v:AV}:mV st .sl v=(eC st v).map List.length:=by
 cases v<;>simp only[mV]<;>cases eC st _<;>rfl
@[simp]theorem afD{id:Nat}:mV st .mp (.map id)=match st[id]? with|some (.map es)=>some es.length|_=>none:=rfl
def Au(sz:Nat)(st:aj)(x:AV)(i:Int):Option AV:=match x with
 |.dj s rows|.je s rows=>if s=sz/\0<=i/\i<rows.length then some (.ox sz rows i.toNat 0) else none
 |.mu id bX=>match st[id]? with
  |some (.rows v s rows)=>if v=bX/\s=sz/\0<=i/\i<rows.length then some (.ptr id bX i.toNat 0) else none
  |_=>none
 |_=>none
@[simp]theorem ac3{sz s:Nat}{r:List (List AV)}{i:Int}:Au sz st (.dj s r) i=if s=sz/\0<=i/\i<r.length then some (.ox sz r i.toNat 0) else none:=rfl
@[simp]theorem ac4{sz s:Nat}{r:List (List AV)}{i:Int}:Au sz st (.je s r) i=if s=sz/\0<=i/\i<r.length then some (.ox sz r i.toNat 0) else none:=rfl
@[simp]theorem afE{sz id bX:Nat}{i:Int}:Au sz st (.mu id bX) i=match st[id]? with|some (.rows v s rows)=>if v=bX/\s=sz/\0<=i/\i<rows.length then some (.ptr id bX i.toNat 0) else none|_=>none:=rfl
def vN(sz bytes:Nat)(s:AV)(new:List (List AV)):Option AV:=
 if bU sz new=true then match s with
  |.U|.kV=>if new.isEmpty then some s else if new.length*bytes<=dQ then some (.je sz new) else none
  |.je jf old=>if jf=sz/\(old.length+new.length)*bytes<=dQ then some (.je sz (old++new)) else none
  |_=>none else none
@[simp]theorem ahK{e:eG}:aL wl aa .move [e] st bx=some (e,st,bx):=rfl
@[simp]theorem ahL{b:Bool}{x y:eG}:aL wl aa .pick [.val (.bool b),x,y] st bx=some (if b then x else y,st,bx):=rfl
@[simp]theorem akJ{op:BinOp}{x y:AV}:aL wl aa (.aR op) [.val x,.val y] st bx=qf st bx (Aj op x y):=by
 simp only[aL];cases Aj op x y<;>rfl
@[simp]theorem akK{kk:EqK}{neg:Bool}{x y:AV}:aL wl aa (.Ai kk neg) [.val x,.val y] st bx=qf st bx ((GF kk x y).map λb=>.bool (if neg then !b else b)):=by
 simp only[aL];cases GF kk x y<;>rfl
@[simp]theorem amv{op:UnOp}{x:AV}:aL wl aa (.un op) [.val x] st bx=qf st bx (XE op x):=by
 simp only[aL];cases XE op x<;>rfl
@[simp]theorem ahM{kk l:IntKind}{n:Int}:aL wl aa (.conv kk) [.val (.int l n)] st bx=some (.val (.int kk (kk.wrap n)),st,bx):=rfl
@[simp]theorem afF{x:AV}:aL wl aa .OJ [.val x] st bx=qf st bx (((eC st x).bind qj).map .str):=by
 simp only[aL];cases eC st x with
 |none=>rfl
 |some r=>simp only[Option.bind_some];cases qj r<;>rfl
@[simp]theorem akL{lk:LK}{x:AV}:aL wl aa (.len lk) [.val x] st bx=qf st bx ((mV st lk x).map λn=>.int .i64 n):=by
 simp only[aL];cases mV st lk x<;>rfl
@[simp]theorem ac5{mx:Bool}{kk:IntKind}{a b:Int}:aL wl aa (.EW mx) [.val (.int kk a),.val (.int kk b)] st bx=some (.val (.int kk (if mx then (if b > a then b else a) else (if b<a then b else a))),st,bx):=by
 simp[aL]
@[simp]theorem ahN{j i:Nat}:aL wl aa .nilCheck [.fp j i] st bx=some (.fp j i,st,bx):=rfl
@[simp]theorem ahO{a b c d:Nat}:aL wl aa .nilCheck [.val (.ptr a b c d)] st bx=some (.val (.ptr a b c d),st,bx):=rfl
@[simp]theorem ahP{a:Nat}{r:List (List AV)}{c d:Nat}:aL wl aa .nilCheck [.val (.ox a r c d)] st bx=some (.val (.ox a r c d),st,bx):=rfl
@[simp]theorem aaX{i:Nat}{vs:List AV}:aL wl aa (.extract i) [.val (.fK vs)] st bx=qf st bx vs[i]?:=by
 simp only[aL];cases vs[i]?<;>rfl
@[simp]theorem afG{off n:Nat}{agg:Bool}{cs:List AV}:aL wl aa (.field off n agg) [.val (.agg cs)] st bx=qf st bx ((cut cs off n).bind (b9 agg)):=by
 simp only[aL];cases cut cs off n with
 |none=>rfl
 |some r=>simp only[Option.bind_some];cases b9 agg r<;>rfl
@[simp]theorem afH{zero:List AV}{parts:List (Nat×Nat)}{l:List eG}:aL wl aa (.build zero parts) l st bx=qf st bx (((iO l).bind (ir zero parts)).map .agg):=by
 simp only[aL];cases iO l with
 |none=>rfl
 |some vs=>simp only[Option.bind_some];cases ir zero parts vs<;>rfl
@[simp]theorem akM{sz n:Nat}{zero:List AV}{parts:List Nat}{l:List eG}:aL wl aa (.lit sz n zero parts) l st bx =
  qf st bx (((iO l).bind λvs=>fN sz (List.replicate n zero) parts (AV.cL vs)).bind λrows=>if rows.all AV.ah&&rows.all AV.aK then some (if n=0 then .kV else .dj sz rows) else none):=by
 simp only[aL];cases iO l with
 |none=>rfl
 |some vs=>
  simp only[Option.bind_some]
  cases fN sz (List.replicate n zero) parts (AV.cL vs) with
  |none=>rfl
  |some rows=>simp only[Option.bind_some];split<;>rfl
@[simp]theorem UN{off j i:Nat}:aL wl aa (.fieldAddr off) [.fp j i] st bx=some (.fp j (i+off),st,bx):=rfl
@[simp]theorem UO{off a b c d:Nat}:aL wl aa (.fieldAddr off) [.val (.ptr a b c d)] st bx=some (.val (.ptr a b c (d+off)),st,bx):=rfl
@[simp]theorem UP{off a c d:Nat}{r:List (List AV)}:aL wl aa (.fieldAddr off) [.val (.ox a r c d)] st bx=some (.val (.ox a r c (d+off)),st,bx):=rfl
@[simp]theorem WJ{sz:Nat}{x:AV}{i:Int}:aL wl aa (.indexAddr sz) [.val x,.val (.int .i64 i)] st bx=qf st bx (Au sz st x i):=by
 cases x<;>try rfl
 case dj s r=>simp only[aL,Au,Bool.and_eq_true,decide_eq_true_eq,and_assoc];split<;>rfl
 case je s r=>simp only[aL,Au,Bool.and_eq_true,decide_eq_true_eq,and_assoc];split<;>rfl
 case mu id bX=>
  simp only[aL,Au,Bool.and_eq_true,decide_eq_true_eq,and_assoc]
  cases st[id]? with
  |none=>rfl
  |some ob=>cases ob with
   |rows v s r=>simp only;split<;>rfl
   |map es=>rfl
@[simp]theorem afI{l:List UInt8}{i:Int}:aL wl aa .index [.val (.str l),.val (.int .i64 i)] st bx=if 0<=i then qf st bx (l[i.toNat]?.map λb=>.int .u8 b.toNat) else none:=by
 simp only[aL];cases l[i.toNat]?<;>rfl
@[simp]theorem au{agg:Bool}{n:Nat}{p:AV}:aL wl aa (.load agg n false) [.val p] st bx=qf st bx ((fY st p n).bind λcs=>b9 agg (AV.cL cs)):=by
 simp only[aL];cases fY st p n with
 |none=>rfl
 |some cs=>simp only[Option.bind_some,Bool.false_eq_true,if_false];cases b9 agg (AV.cL cs)<;>rfl
@[simp]theorem afJ{zero:List AV}:aL wl aa (.alloc zero) [] st bx=some (.val (.ptr st.length 0 0 0),st++[.rows 0 zero.length [zero]],bx):=rfl
@[simp]theorem ac6{sz bytes:Nat}{s x:AV}:aL wl aa (.append sz bytes) [.val s,.val x] st bx=qf st bx ((dG [] x).bind (vN sz bytes s)):=by
 simp only[aL];cases dG [] x with
 |none=>rfl
 |some new=>
  simp only[Option.bind_some,vN]
  by_cases hf:bU sz new=true
  ·simp only[hf,if_true]
   cases s<;>simp only[Bool.and_eq_true,decide_eq_true_eq]<;>(try rfl)<;>repeat' split
   all_goals rfl
  ·simp only[hf];rfl
@[simp]theorem ac7{sz bytes:Nat}{zero:List AV}{n c:Int}:aL wl aa (.rO sz bytes zero false) [.val (.int .i64 n),.val (.int .i64 c)] st bx =
  if 0<=n/\n<=c/\c*bytes<=dQ/\zero.length=sz then (if AV.ah zero then some (.val (.je sz (List.replicate n.toNat zero)),st,bx) else none) else none:=rfl
@[simp]theorem aaY{sz bytes:Nat}{zero:List AV}{n c:Int}:aL wl aa (.AD sz bytes zero) [.val (.int .i64 n),.val (.int .i64 c)] st bx =
  if 0<=n/\n<=c/\c*bytes<=dQ/\zero.length=sz/\AV.ah zero=true then some (.val (.raw sz (List.replicate n.toNat zero)),st,bx) else none:=rfl
@[simp]theorem Eg{sz bytes:Nat}{zero:List AV}{n c:Int}:aL wl aa (.rO sz bytes zero true) [.val (.int .i64 n),.val (.int .i64 c)] st bx =
  if 0<=n/\n<=c/\c*bytes<=dQ/\zero.length=sz then some (.val (.mu st.length 0),st++[.rows 0 sz (List.replicate n.toNat zero)],bx) else none:=rfl
@[simp]theorem ag{n:Nat}{p v:AV}:aL wl aa (.store n) [.val p,.val v] st bx=if v.cells.length=n/\AV.aK v.cells=true then (dR wl aa st p v.cells).map λs=>(.none,s,bx) else none:=by
 simp only[aL,Bool.and_eq_true,decide_eq_true_eq]
 split
 ·cases dR wl aa st p v.cells<;>rfl
 ·rfl
@[simp]theorem Yw{id bX i j:Nat}{cells:List AV}:dR wl aa st (.ptr id bX i j) cells=match st[id]? with
  |some (.rows v sz rows)=>if v=bX/\bh wl aa id cells=true then rows[i]?.bind λr=>if j+cells.length<=r.length then some (st.set id (.rows v sz (rows.set i (af r j cells)))) else none else none
  |_=>none:=by
 simp only[dR]
 cases st[id]? with
 |none=>rfl
 |some ob=>cases ob with
  |map es=>rfl
  |rows v sz rows=>
   simp only[Bool.and_eq_true,decide_eq_true_eq]
   split
   ·cases rows[i]?<;>rfl
   ·rfl
attribute [simp] bh
@[simp]theorem ac8{sz id bX:Nat}{hi:Int}:aL wl aa (.wz sz) [.val (.mu id bX),.val (.int .i64 hi)] st bx=match st[id]? with
  |some (.rows v s rows)=>if v=bX/\s=sz/\0<=hi/\hi<=rows.length/\wl<=id then some (.val (.mu id (v+1)),st.set id (.rows (v+1) s (rows.take hi.toNat)),bx) else none
  |_=>none:=by
 simp only[aL,Bool.and_eq_true,decide_eq_true_eq,and_assoc]
 cases st[id]? with
 |none=>rfl
 |some ob=>cases ob<;>rfl
@[simp]theorem aaZ{sz bytes id bX:Nat}{x:AV}:aL wl aa (.mc sz bytes) [.val (.mu id bX),.val x] st bx=(dG st x).bind λnew=>if bU sz new=true then match st[id]? with
  |some (.rows v jf old)=>if v=bX/\jf=sz/\(old.length+new.length)*bytes<=dQ/\wl<=id/\(aa<=id\/new.all AV.ah=true) then some (.val (.mu id (v+1)),st.set id (.rows (v+1) sz (old++new)),bx) else none
  |_=>none else none:=by
 simp only[aL,yC,Bool.and_eq_true,decide_eq_true_eq,Bool.or_eq_true,and_assoc]
 cases dG st x with
 |none=>rfl
 |some new=>rfl
@[simp]theorem ahQ:aL wl aa .Tq [.val .U] st bx=some (.val (.int .i64 0),st,bx):=rfl
@[simp]theorem aa0{sz bytes:Nat}{s:AV}{zero:List AV}{n:Int}:aL wl aa (.uJ sz bytes zero) [.val s,.val (.int .i64 n)] st bx =
  if 0<=n/\n*bytes<=dQ/\zero.length=sz/\AV.ah zero=true then yC wl aa sz bytes s (List.replicate n.toNat zero) st bx else none:=rfl
@[simp]theorem Yx{sz bytes:Nat}{x:AV}:aL wl aa (.mc sz bytes) [.val .U,.val x] st bx=(dG st x).bind λnew=>if bU sz new=true then (if new.isEmpty=true then some (.val .U,st,bx) else if new.length*bytes<=dQ then some (.val (.mu st.length 0),st++[.rows 0 sz new],bx) else none) else none:=by
 simp only[aL]
 cases dG st x with
 |none=>rfl
 |some new=>rfl
@[simp]theorem Yy{sz bytes:Nat}{x:AV}:aL wl aa (.mc sz bytes) [.val .kV,.val x] st bx=(dG st x).bind λnew=>if bU sz new=true then (if new.length*bytes<=dQ then some (.val (.mu st.length 0),st++[.rows 0 sz new],bx) else none) else none:=by
 simp only[aL]
 cases dG st x with
 |none=>rfl
 |some new=>rfl
@[simp]theorem afK{j i n:Nat}{agg:Bool}:aL wl aa (.aE j agg n false) [.fp j i] st bx=qf st bx ((bx[j]?.bind λrow=>cut row i n).bind λcs=>b9 agg (AV.cL cs)):=by
 simp only[aL,if_true]
 cases bx[j]? with
 |none=>rfl
 |some row=>
  simp only[Option.bind_some]
  cases cut row i n with
  |none=>rfl
  |some cs=>simp only[Option.bind_some,Bool.false_eq_true,if_false];cases b9 agg (AV.cL cs)<;>rfl
@[simp]theorem ac9{j i n:Nat}{agg:Bool}:aL wl aa (.aE j agg n true) [.fp j i] st bx=(bx[j]?.bind λrow=>(cut row i n).bind λcs=>(b9 agg cs).map λv=>(.val v,st,bx.set j (af row i (cs.map AV.iM)))):=by
 simp only[aL,if_true]
 cases bx[j]? with
 |none=>rfl
 |some row=>
  simp only[Option.bind_some]
  cases cut row i n with
  |none=>rfl
  |some cs=>simp only[Option.bind_some];cases b9 agg cs<;>rfl
@[simp]theorem ada{j i n:Nat}{v:AV}:aL wl aa (.ai j n) [.fp j i,.val v] st bx=if v.cells.length=n/\AV.aK v.cells=true then bx[j]?.bind λrow=>(if i+n<=row.length then some (.none,st,bx.set j (af row i v.cells)) else none) else none:=by
 simp only[aL,Bool.and_eq_true,decide_eq_true_eq,true_and]
 split
 ·cases bx[j]?<;>rfl
 ·rfl
@[simp]theorem adb{j:Nat}{zero:List AV}:aL wl aa (.aH j zero) [] st bx=if j<bx.length then some (.fp j 0,st,bx.set j zero) else none:=rfl
@[simp]theorem LO{n:Nat}{v:AV}:aL wl aa (.box n) [.val v] st bx=if v.cells.length=n/\AV.aK v.cells=true then some (.val (.ptr st.length 0 0 0),st++[.rows 0 n [v.cells]],bx) else none:=by
 simp only[aL,Bool.and_eq_true,decide_eq_true_eq]
@[simp]theorem ahR{j n:Nat}{v:AV}:aL wl aa (.gq j n) [.val v] st bx=if j<bx.length/\v.cells.length=n/\AV.aK v.cells=true then some (.fp j 0,st,bx.set j v.cells) else none:=by
 simp only[aL,Bool.and_eq_true,decide_eq_true_eq,and_assoc]
@[simp]theorem Yz{f n:Nat}{l:List eG}:aL wl aa (.makeFunc f n) l st bx=qf st bx ((iO l).map λvs=>.fn f (AV.cL (vs.take n)) (AV.cL (vs.drop n))):=by
 simp only[aL];cases iO l<;>rfl
@[simp]theorem aa1{tJ:Bool}{sz:Nat}{x:AV}{b:Int}:aL wl aa (.slice tJ false true false sz) [.val x,.val (.int .i64 b)] st bx=(mV st (if tJ then .str else .sl) x).bind λ_=>qf st bx (jK tJ sz x 0 b none):=by
 simp only[aL]
 cases mV st (if tJ then LK.str else LK.sl) x with
 |none=>rfl
 |some n=>simp only[qk,Bool.false_eq_true,if_false,if_true,Option.bind_some];cases jK tJ sz x 0 b none<;>rfl
@[simp]theorem aa2{tJ:Bool}{sz:Nat}{x:AV}{a:Int}:aL wl aa (.slice tJ true false false sz) [.val x,.val (.int .i64 a)] st bx=(mV st (if tJ then .str else .sl) x).bind λn=>qf st bx (jK tJ sz x a n none):=by
 simp only[aL]
 cases mV st (if tJ then LK.str else LK.sl) x with
 |none=>rfl
 |some n=>simp only[qk,Bool.false_eq_true,if_false,if_true,Option.bind_some];cases jK tJ sz x a n none<;>rfl
@[simp]theorem aa3{tJ:Bool}{sz:Nat}{x:AV}{a b:Int}:aL wl aa (.slice tJ true true false sz) [.val x,.val (.int .i64 a),.val (.int .i64 b)] st bx=(mV st (if tJ then .str else .sl) x).bind λ_=>qf st bx (jK tJ sz x a b none):=by
 simp only[aL]
 cases mV st (if tJ then LK.str else LK.sl) x with
 |none=>rfl
 |some n=>simp only[qk,if_true,Option.bind_some];cases jK tJ sz x a b none<;>rfl
@[simp]theorem YA{sz:Nat}{s:List UInt8}{a b:Int}:jK true sz (.str s) a b none=if 0<=a/\a<=b/\b<=s.length then some (.str ((s.take b.toNat).drop a.toNat)) else none:=by
 simp[jK,and_assoc]
attribute [simp] AV.iM
@[simp]theorem ade{op:BinOp}{kk:IntKind}{a b:Int}:Aj op (.int kk a) (.int kk b)=kg op kk a b:=by simp[Aj]
@[simp]theorem ahS{a b:List UInt8}:Aj .add (.str a) (.str b)=if a.length+b.length<=4611686018427387904 then some (.str (a++b)) else none:=rfl
@[simp]theorem ahT{a b:List UInt8}:Aj .eql (.str a) (.str b)=some (.bool (decide (a=b))):=by simp only[Aj];by_cases h:a=b<;>simp[h]
@[simp]theorem ahU{a b:List UInt8}:Aj .neq (.str a) (.str b)=some (.bool (!decide (a=b))):=by simp only[Aj];by_cases h:a=b<;>simp[h]
@[simp]theorem afL{b:Bool}:XE .not (.bool b)=some (.bool (!b)):=rfl
@[simp]theorem afM{kk:IntKind}{a:Int}:XE .neg (.int kk a)=some (.int kk (kk.wrap (0-a))):=rfl
@[simp]theorem adf{a b:Bool}:GF (.sc .bool) (.bool a) (.bool b)=some (decide (a=b)):=by cases a<;>cases b<;>rfl
@[simp]theorem afN{kk:IntKind}{a b:Int}:GF (.sc .int) (.int kk a) (.int kk b)=some (decide (a=b)):=by simp[GF,Dk];by_cases h:a=b<;>simp[h]
@[simp]theorem afO{a b:List UInt8}:GF (.sc .str) (.str a) (.str b)=some (decide (a=b)):=by simp[GF,Dk];by_cases h:a=b<;>simp[h]
@[simp]theorem adg{ks:List SK}{a b:List AV}:GF (.flat ks) (.agg a) (.agg b)=Dl ks a b:=rfl
attribute [simp] Dl
@[simp]theorem adh{a b:Bool}:Dk .bool (.bool a) (.bool b)=some (decide (a=b)):=by cases a<;>cases b<;>rfl
@[simp]theorem afP{kk:IntKind}{a b:Int}:Dk .int (.int kk a) (.int kk b)=some (decide (a=b)):=by simp[Dk];by_cases h:a=b<;>simp[h]
@[simp]theorem afQ{a b:List UInt8}:Dk .str (.str a) (.str b)=some (decide (a=b)):=by simp[Dk];by_cases h:a=b<;>simp[h]
section
variable {kk:IntKind}{a b:Int}
@[simp]theorem ahV:kg .add kk a b=some (.int kk (kk.wrap (a+b))):=rfl
@[simp]theorem ahW:kg .sub kk a b=some (.int kk (kk.wrap (a-b))):=rfl
@[simp]theorem ahX:kg .mul kk a b=some (.int kk (kk.wrap (a*b))):=rfl
@[simp]theorem ahY:kg .quo kk a b=if b=0 then none else some (.int kk (kk.wrap (a.tdiv b))):=rfl
@[simp]theorem ahZ:kg .rem kk a b=if b=0 then none else some (.int kk (a.tmod b)):=rfl
@[simp]theorem ah0:kg .and kk a b=some (.int kk (kk.wrap ((BitVec.ofInt kk.bits a &&& BitVec.ofInt kk.bits b).toNat))):=rfl
@[simp]theorem ah1:kg .eql kk a b=some (.bool (decide (a=b))):=by simp only[kg];by_cases h:a=b<;>simp[h]
@[simp]theorem ah2:kg .neq kk a b=some (.bool (!decide (a=b))):=by simp only[kg];by_cases h:a=b<;>simp[h]
@[simp]theorem ah3:kg .lss kk a b=some (.bool (decide (a<b))):=rfl
@[simp]theorem ah4:kg .leq kk a b=some (.bool (decide (a<=b))):=rfl
@[simp]theorem ah5:kg .gtr kk a b=some (.bool (decide (b<a))):=rfl
@[simp]theorem ah6:kg .geq kk a b=some (.bool (decide (b<=a))):=rfl
end
@[simp]theorem aa4{sz:Nat}{rows:List (List AV)}{i kk n:Nat}:fY st (.ox sz rows i kk) n=rows[i]?.bind λr=>cut r kk n:=by
 simp only[fY];cases rows[i]?<;>rfl
@[simp]theorem aa5{id bX i kk n:Nat}:fY st (.ptr id bX i kk) n=match st[id]? with
  |some (.rows v _ rows)=>if v=bX then rows[i]?.bind λr=>cut r kk n else none
  |_=>none:=by
 simp only[fY];cases st[id]? with
 |none=>rfl
 |some ob=>cases ob with
  |rows v s r=>
   simp only;split
   ·cases r[i]?<;>rfl
   ·rfl
  |map es=>rfl
@[simp]theorem YB(b:Bool):AV.cells (.bool b)=[.bool b]:=rfl
@[simp]theorem WK(b:Bool):AV.cH (.bool b)=true:=rfl
@[simp]theorem aa6(kk:IntKind)(n:Int):AV.cells (.int kk n)=[.int kk n]:=rfl
@[simp]theorem YC(kk:IntKind)(n:Int):AV.cH (.int kk n)=true:=rfl
@[simp]theorem aa7(l:List UInt8):AV.cells (.str l)=[.str l]:=rfl
@[simp]theorem YD(l:List UInt8):AV.cH (.str l)=true:=rfl
@[simp]theorem UQ:AV.cells (.eO)=[.eO]:=rfl
@[simp]theorem Tg:AV.cH (.eO)=true:=rfl
@[simp]theorem WL:AV.cells (.U)=[.U]:=rfl
@[simp]theorem UR:AV.cH (.U)=true:=rfl
@[simp]theorem US:AV.cells (.fG)=[.fG]:=rfl
@[simp]theorem Th:AV.cH (.fG)=true:=rfl
@[simp]theorem WM:AV.cells (.iw)=[.iw]:=rfl
@[simp]theorem UT:AV.cH (.iw)=true:=rfl
@[simp]theorem WN:AV.cells (.jF)=[.jF]:=rfl
@[simp]theorem UU:AV.cH (.jF)=true:=rfl
@[simp]theorem aa8(s:Nat)(r:List (List AV)):AV.cells (.dj s r)=[.dj s r]:=rfl
@[simp]theorem YE(s:Nat)(r:List (List AV)):AV.cH (.dj s r)=true:=rfl
@[simp]theorem aa9(s:Nat)(r:List (List AV)):AV.cells (.je s r)=[.je s r]:=rfl
@[simp]theorem YF(s:Nat)(r:List (List AV)):AV.cH (.je s r)=true:=rfl
@[simp]theorem aba:AV.cells (.kV)=[.kV]:=rfl
@[simp]theorem YG:AV.cH (.kV)=true:=rfl
@[simp]theorem adi(a b:Nat):AV.cells (.mu a b)=[.mu a b]:=rfl
@[simp]theorem abb(a b:Nat):AV.cH (.mu a b)=true:=rfl
@[simp]theorem abd(a b c d:Nat):AV.cells (.ptr a b c d)=[.ptr a b c d]:=rfl
@[simp]theorem YH(a b c d:Nat):AV.cH (.ptr a b c d)=true:=rfl
@[simp]theorem abe(a:Nat)(r:List (List AV))(c d:Nat):AV.cells (.ox a r c d)=[.ox a r c d]:=rfl
@[simp]theorem YI(a:Nat)(r:List (List AV))(c d:Nat):AV.cH (.ox a r c d)=true:=rfl
@[simp]theorem abf(a:Nat):AV.cells (.map a)=[.map a]:=rfl
@[simp]theorem YJ(a:Nat):AV.cH (.map a)=true:=rfl
@[simp]theorem adj(f:Nat)(a b:List AV):AV.cells (.fn f a b)=[.fn f a b]:=rfl
@[simp]theorem abg(f:Nat)(a b:List AV):AV.cH (.fn f a b)=true:=rfl
@[simp]theorem YK:AV.cells (.gone)=[.gone]:=rfl
@[simp]theorem WQ:AV.cH (.gone)=true:=rfl
@[simp]theorem abh(cs:List AV):AV.cells (.agg cs)=cs:=rfl
@[simp]theorem UW:AV.aK []=true:=rfl
@[simp]theorem Ti(a:AV)(l:List AV):AV.aK (a::l)=(a.cH&&AV.aK l):=rfl
attribute [simp] fN ir af
theorem aY{n:Int}(h1 : -9223372036854775808<=n)(h2:n<=9223372036854775807):IntKind.i64.wrap n=n:=IntWalk.i64_in n ⟨h1,h2⟩
end Ax
namespace Ax
open Go
variable {S:Nat->Option aD}{wl aa:Nat}{rs:List jV}{Q:Ex->St->Prop}{k:List Cb}{st:aj}{bx:aU}
def HQ(rs:List jV)(m:Mode)(st:aj)(r:AV×aj)(x:Ex)(s:St):Prop:=∃v,Du rs x s=some v/\m.kJ st v s.st=some r
theorem ax{f:Nat}{sf:aD}(hf:S f=some sf){args:List AV}(ha:qn sf args=false)(hl:args.length=sf.aF){r:AV×aj}
  (h:W S (sf.mode.wC st.length wl) (sf.mode.pC st.length aa) sf.results (HQ sf.results sf.mode st r) [.code sf.body] .normal (pD sf args st)) :
  (bg S).call wl aa f args st=some r:=Nf hf ha hl h
@[simp]theorem HR{m:Mode}{r:AV×aj}{v:AV}{s:St}:HQ rs m st r (.ret v) s↔m.kJ st v s.st=some r:=by
 simp[HQ,Du]
@[simp]theorem P6{m:Mode}{r:AV×aj}{s:St}:HQ rs m st r .normal s↔∃v,wB s rs=some v/\m.kJ st v s.st=some r:=Iff.rfl
def HT(rs:List jV)(v:AV)(x:Ex)(s:St):Prop:=Du rs x s=some v
@[simp]theorem abi{v u:AV}{s:St}:HT rs v (.ret u) s↔u=v:=by simp[HT,Du]
@[simp]theorem abj{v:AV}{s:St}:HT rs v .normal s↔wB s rs=some v:=Iff.rfl
theorem b8{f:Nat}{sf:aD}(hf:S f=some sf)(hm:sf.mode=.pure){args:List AV}(hp:AV.ah args=true)(hl:args.length=sf.aF){v:AV}(hv:v.an=true)
  (h:W S 0 0 sf.results (HT sf.results v) [.code sf.body] .normal (pD sf args [])) :
  (bg S).call wl aa f args st=some (v,st):=Ng hf hm hp hl hv h
theorem adk{α:Type}{c b:bQ}(h:c=b)(f:α->St)(I:α->Prop)(μ:α->Nat)
  (round:∀a,I a->(∀a',I a'->μ a'<μ a->W S wl aa rs Q (.code (.loop c)::k) .normal (f a'))->W S wl aa rs Q (.code b::.ud c::k) .normal (f a)) :
  ∀a,I a->W S wl aa rs Q (.code (.loop c)::k) .normal (f a):=by
 have key:∀n a,μ a=n->I a->W S wl aa rs Q (.code (.loop c)::k) .normal (f a):=by
  intro n
  induction n using Nat.strongRecOn with
  |_ n ih=>
   intro a hn ha
   rw[Ft h]
   exact round a ha λa' h' bn=>ih (μ a') (by omega) a' rfl h'
 exact λa ha=>key _ a rfl ha
def aZ:AV->List (List AV)
 |.dj _ r|.je _ r=>r
 |_=>[]
def aJ:AV->Bool
 |.U|.kV|.dj _ _|.je _ _=>true
 |_=>false
def dc(sz:Nat):AV->Bool
 |.U|.kV=>true
 |.dj s r|.je s r=>s==sz&&bU sz r
 |_=>false
@[simp]theorem Cf(v:AV):aZ v.view=aZ v:=by cases v<;>simp[aZ,AV.view]
@[simp]theorem rD(v:AV):aJ v.view=aJ v:=by cases v<;>simp[aJ,AV.view]
@[simp]theorem yO(sz:Nat)(v:AV):dc sz v.view=dc sz v:=by cases v<;>simp[dc,AV.view]
@[simp]theorem abk:aZ .U=[]:=rfl
@[simp]theorem abl:aZ .kV=[]:=rfl
@[simp]theorem Nh{sz:Nat}{r:List (List AV)}:aZ (.dj sz r)=r:=rfl
@[simp]theorem Ni{sz:Nat}{r:List (List AV)}:aZ (.je sz r)=r:=rfl
@[simp]theorem adl:aJ .U=true:=rfl
@[simp]theorem adm:aJ .kV=true:=rfl
@[simp]theorem adn{sz:Nat}{r:List (List AV)}:aJ (.dj sz r)=true:=rfl
@[simp]theorem ado{sz:Nat}{r:List (List AV)}:aJ (.je sz r)=true:=rfl
@[simp]theorem adp{sz:Nat}:dc sz .U=true:=rfl
@[simp]theorem adq{sz:Nat}:dc sz .kV=true:=rfl
@[simp]theorem jt{sz s:Nat}{r:List (List AV)}:dc sz (.dj s r)=(s==sz&&bU sz r):=rfl
@[simp]theorem adr{sz s:Nat}{r:List (List AV)}:dc sz (.je s r)=(s==sz&&bU sz r):=rfl
theorem nD{sz:Nat}{v:AV}(h:dc sz v=true):aJ v=true:=by cases v<;>simp_all [dc,aJ]
@[simp]theorem abm{v:AV}(h:aJ v=true):eC st v=some (aZ v):=by cases v<;>simp_all [aJ,aZ]
@[simp]theorem WR{v:AV}(h:aJ v=true):dG st v=some (aZ v):=by cases v<;>simp_all [aJ,aZ]
@[simp]theorem afR{sz:Nat}{v:AV}{i:Int}(h:dc sz v=true):Au sz st v i=if 0<=i/\i<(aZ v).length then some (.ox sz (aZ v) i.toNat 0) else none:=by
 by_cases hi:0<=i/\i<(aZ v).length
 ·rw[if_pos hi]
  cases v<;>simp[dc]at h
  case U=>have:=hi.2;simp[aZ]at this;omega
  case kV=>have:=hi.2;simp[aZ]at this;omega
  case dj s r=>simp only[Au,aZ];rw[if_pos ⟨h.1,hi⟩]
  case je s r=>simp only[Au,aZ];rw[if_pos ⟨h.1,hi⟩]
 ·rw[if_neg hi]
  cases v<;>simp[dc]at h
  case U=>rfl
  case kV=>rfl
  case dj s r=>simp only[Au];rw[if_neg λc=>hi c.2]
  case je s r=>simp only[Au];rw[if_neg λc=>hi c.2]
mutual
theorem Cg:∀v:AV,v.view.view=v.view
 |.je _ _=>rfl
 |.raw _ _=>rfl
 |.agg cs=>by simp only[AV.view];rw[ue cs]
 |.fK cs=>by simp only[AV.view];rw[ue cs]
 |.undef|.gone|.bool _|.int _ _|.str _|.eO|.U|.fG|.iw|.jF|.dj _ _|.kV|.mu _ _|.ptr _ _ _ _|.ox _ _ _ _|.map _|.fn _ _ _=>rfl
theorem ue:∀cs:List AV,AV.cL (AV.cL cs)=AV.cL cs
 |[]=>rfl
 |c::cs=>by simp only[AV.cL];rw[Cg c,ue cs]
end
@[simp]theorem Nj(v:AV):v.view.view=v.view:=Cg v
@[simp]theorem cC{v:AV}(h:aJ v=true):v.an=true:=by cases v<;>simp_all [aJ]
@[simp]theorem ads{v:AV}(h:aJ v=true):v.cells=[v]:=by cases v<;>simp_all [aJ,AV.cells]
@[simp]theorem bE{v:AV}(h:aJ v=true):v.cH=true:=by cases v<;>simp_all [aJ,AV.cH]
def cD(sz:Nat)(r:List (List AV)):AV:=if r.isEmpty then .U else .je sz r
@[simp]theorem uf{sz:Nat}{r:List (List AV)}:aZ (cD sz r)=r:=by
 cases r<;>rfl
@[simp]theorem dz{sz:Nat}{r:List (List AV)}:aJ (cD sz r)=true:=by
 cases r<;>rfl
@[simp]theorem AP{sz:Nat}{r:List (List AV)}:dc sz (cD sz r)=bU sz r:=by
 cases r<;>simp[cD,dc,bU]
theorem nE{sz:Nat}:cD sz []=.U:=rfl
theorem fW{sz bytes:Nat}{r new:List (List AV)}(hf:bU sz new=true)(hr:(r.length+new.length)*bytes<=dQ):vN sz bytes (cD sz r) new=some (cD sz (r++new)):=by
 unfold vN
 rw[if_pos hf]
 cases r with
 |nil=>
  cases new with
  |nil=>rfl
  |cons a l=>simp only[cD,List.isEmpty_nil,if_true,List.isEmpty_cons,Bool.false_eq_true,if_false,List.nil_append];rw[if_pos (by simpa using hr)]
 |cons b r=>simp only[cD,List.isEmpty_cons,Bool.false_eq_true,if_false,List.cons_append];rw[if_pos ⟨trivial,hr⟩]
def Ch(v:AV)(lo hi:Nat):AV:=match v with
 |.dj s r|.je s r=>.dj s ((r.take hi).drop lo)
 |x=>x
@[simp]theorem abn{sz:Nat}{v:AV}{lo hi:Int}(h:dc sz v=true):jK false sz v lo hi none=if 0<=lo/\lo<=hi/\hi<=(aZ v).length then some (Ch v lo.toNat hi.toNat) else none:=by
 by_cases hc:0<=lo/\lo<=hi/\hi<=(aZ v).length
 ·rw[if_pos hc]
  cases v<;>simp[dc]at h
  case U=>
   simp[aZ]at hc
   have:lo=0/\hi=0:=by omega
   obtain⟨rfl,rfl⟩:=this
   rfl
  case kV=>
   simp[aZ]at hc
   have:lo=0/\hi=0:=by omega
   obtain⟨rfl,rfl⟩:=this
   rfl
  case dj s r=>simp only[aZ]at hc;simp[jK,Ch,h.1,hc]
  case je s r=>simp only[aZ]at hc;simp[jK,Ch,h.1,hc]
 ·rw[if_neg hc]
  cases v<;>simp[dc]at h
  case U=>
   simp only[jK]
   refine if_neg λh=>hc ?_
   simp at h
   obtain⟨rfl,rfl⟩:=h
   simp[aZ]
  case kV=>
   simp only[jK]
   refine if_neg λh=>hc ?_
   simp at h
   obtain⟨rfl,rfl⟩:=h
   simp[aZ]
  case dj s r=>
   simp only[jK]
   refine if_neg λh=>hc ?_
   simp at h
   simp only[aZ];exact⟨h.1.1.2,h.1.2,h.2⟩
  case je s r=>
   simp only[jK]
   refine if_neg λh=>hc ?_
   simp at h
   simp only[aZ];exact⟨h.1.1.2,h.1.2,h.2⟩
@[simp]theorem adt{v:AV}{lo hi:Nat}(h:aJ v=true):aJ (Ch v lo hi)=true:=by
 cases v<;>simp_all [aJ,Ch]
@[simp]theorem Nk{v:AV}{lo hi:Nat}(h:aJ v=true):aZ (Ch v lo hi)=((aZ v).take hi).drop lo:=by
 cases v<;>simp_all [aJ,Ch,aZ]
theorem P7{sz lo hi:Nat}{r:List (List AV)}(h:bU sz r=true):bU sz ((r.take hi).drop lo)=true:=by
 simp only[bU,List.all_eq_true]at *
 exact λx hx=>h x (List.mem_of_mem_take (List.mem_of_mem_drop hx))
@[simp]theorem P8{sz:Nat}{v:AV}{lo hi:Nat}(h:dc sz v=true):dc sz (Ch v lo hi)=true:=by
 cases v<;>simp_all [dc,Ch,P7]
def cM(xs:List Int):List (List AV):=xs.map λn=>[.int .i64 n]
def dI(v:AV):List Int:=(aZ v).map λr=>match r with | [.int .i64 n]=>n|_=>0
def AQ(v:AV):Bool:=dc 1 v&&(aZ v).all λr=>match r with | [.int .i64 _]=>true|_=>false
theorem Fu(xs:List Int):((cM xs).map λr=>match r with | [AV.int .i64 n]=>n|_=>(0:Int))=xs:=by
 induction xs with
 |nil=>rfl
 |cons x xs ih=>simp only[cM,List.map_cons]at *;rw[ih]
@[simp]theorem adu(xs:List Int):(cM xs).length=xs.length:=by simp[cM]
@[simp]theorem adv(xs:List Int)(i:Nat)(h:i<(cM xs).length):(cM xs)[i]=[.int .i64 (xs[i]'(by simpa using h))]:=by simp[cM]
@[simp]theorem abo(xs:List Int):bU 1 (cM xs)=true:=by simp[bU,cM]
@[simp]theorem abp(xs:List Int)(k:Nat):List.take k (cM xs)=cM (xs.take k):=by simp[cM]
@[simp]theorem YL(xs:List Bool)(k:Nat):List.take k (xs.map λb=>[AV.bool b])=(xs.take k).map λb=>[AV.bool b]:=by simp
@[simp]theorem abq(xs:List Int)(k:Nat):List.drop k (cM xs)=cM (xs.drop k):=by simp[cM]
@[simp]theorem WS(xs ys:List Int):cM xs++cM ys=cM (xs++ys):=by simp[cM]
@[simp]theorem UX(xs:List Int)(n:Int):cM xs++[[.int .i64 n]]=cM (xs++[n]):=by simp[cM]
@[simp]theorem adw(v:AV):AQ v.view=AQ v:=by simp[AQ]
@[simp]theorem afS(v:AV):dI v.view=dI v:=by simp[dI]
@[simp]theorem YM{v:AV}(h:AQ v=true):dc 1 v=true:=by simp only[AQ,Bool.and_eq_true]at h;exact h.1
@[simp]theorem P9{v:AV}(h:AQ v=true):aJ v=true:=nD (YM h)
@[simp]theorem ah7(xs:List Int):AQ (cD 1 (cM xs))=true:=by simp[AQ,cM,bU]
@[simp]theorem akN(xs:List Int):dI (cD 1 (cM xs))=xs:=by simp only[dI,uf];exact Fu xs
@[simp]theorem afT:AQ .U=true:=rfl
@[simp]theorem ah8:dI .U=[]:=rfl
@[simp]theorem afU(xs:List Int):AQ (.dj 1 (cM xs))=true:=by simp[AQ,cM,bU]
@[simp]theorem ah9(xs:List Int):dI (.dj 1 (cM xs))=xs:=by simp only[dI,Nh];exact Fu xs
@[simp]theorem afV(xs:List Int):AQ (.je 1 (cM xs))=true:=by simp[AQ,cM,bU]
@[simp]theorem aia(xs:List Int):dI (.je 1 (cM xs))=xs:=by simp only[dI,Ni];exact Fu xs
@[simp]theorem afW{v:AV}{lo hi:Nat}(h:AQ v=true):AQ (Ch v lo hi)=true:=by
 have h0:=P9 h
 simp only[AQ,Bool.and_eq_true,List.all_eq_true]at *
 refine⟨P8 h.1,λr hr=>?_⟩
 rw[Nk h0]at hr
 exact h.2 r (List.mem_of_mem_take (List.mem_of_mem_drop hr))
@[simp]theorem aib{v:AV}{lo hi:Nat}(h:AQ v=true):dI (Ch v lo hi)=((dI v).take hi).drop lo:=by
 simp[dI,P9 h,List.map_take,List.map_drop]
@[simp]theorem adx(n:Int):AQ (.je 1 [[.int .i64 n]])=true:=rfl
@[simp]theorem ady(n:Int):AQ (.dj 1 [[.int .i64 n]])=true:=rfl
@[simp]theorem adz(a b:Int):AQ (.dj 1 [[.int .i64 a],[.int .i64 b]])=true:=rfl
@[simp]theorem afX(a b:Int):dI (.dj 1 [[.int .i64 a],[.int .i64 b]])=[a,b]:=rfl
@[simp]theorem adA(a b c:Int):AQ (.dj 1 [[.int .i64 a],[.int .i64 b],[.int .i64 c]])=true:=rfl
@[simp]theorem afY(a b c:Int):dI (.dj 1 [[.int .i64 a],[.int .i64 b],[.int .i64 c]])=[a,b,c]:=rfl
@[simp]theorem afZ(n:Int):dI (.dj 1 [[.int .i64 n]])=[n]:=rfl
def ju(xs:List Bool):List (List AV):=xs.map λb=>[.bool b]
@[simp]theorem abr(xs:List Bool):(ju xs).length=xs.length:=by simp[ju]
@[simp]theorem abt(xs:List Bool)(i:Nat)(h:i<(ju xs).length):(ju xs)[i]=[.bool (xs[i]'(by simpa using h))]:=by simp[ju]
@[simp]theorem abu(xs:List Bool)(i:Nat)(b:Bool):(ju xs).set i [.bool b]=ju (xs.set i b):=by simp[ju]
@[simp]theorem st0{α:Type}(st:List α)(a:α)(l:List α):(st++a::l)[st.length]?=some a:=by simp
@[simp]theorem lM{α:Type}(st:List α)(a b:α)(l:List α):(st++a::b::l)[st.length+1]?=some b:=by
 rw[List.getElem?_append_right (by omega)];simp
@[simp]theorem lZ{α:Type}(st:List α)(a b c:α)(l:List α):(st++a::b::c::l)[st.length+2]?=some c:=by
 rw[List.getElem?_append_right (by omega)];simp
@[simp]theorem amw{α:Type}(st:List α)(a x:α)(l:List α):(st++a::l).set st.length x=st++x::l:=by simp
@[simp]theorem amx{α:Type}(st:List α)(a b x:α)(l:List α):(st++a::b::l).set (st.length+1) x=st++a::x::l:=by
 rw[List.set_append_right _ _ (by omega)];simp
@[simp]theorem amy{α:Type}(st:List α)(a b c x:α)(l:List α):(st++a::b::c::l).set (st.length+2) x=st++a::b::x::l:=by
 rw[List.set_append_right _ _ (by omega)];simp
end Ax
namespace Ax
open Go
theorem bM{S:Nat->Option aD}{wl aa:Nat}{rs:List jV}{Q:Ex->St->Prop}{k:List Cb}{α:Type}{c b:bQ}{s:St}(h:c=b)(f:α->St)(I:α->Prop)(μ:α->Nat)(a0:α)(hs:s=f a0)(h0:I a0)
  (round:∀a,I a->(∀a',I a'->μ a'<μ a->W S wl aa rs Q (.code (.loop c)::k) .normal (f a'))->W S wl aa rs Q (.code b::.ud c::k) .normal (f a)) :
  W S wl aa rs Q (.code (.loop c)::k) .normal s:=by
 subst hs
 exact adk h f I μ round a0 h0
def OK(v:AV):List AV:=(aZ v).map λr=>r.headD .undef
def Ci(v:AV):Bool:=dc 1 v&&(aZ v).all λr=>match r with | [x]=>AQ x|_=>false
def dII(v:AV):List (List Int):=(OK v).map dI
theorem Qa{v:AV}(h:Ci v=true):aZ v=(OK v).map λx=>[x]:=by
 simp only[Ci,Bool.and_eq_true,List.all_eq_true]at h
 unfold OK
 rw[List.map_map]
 conv=>lhs;rw[<-List.map_id (aZ v)]
 refine List.map_congr_left λr hr=>?_
 have:=h.2 r hr
 split at this
 ·rfl
 ·cases this
theorem YN{v:AV}(h:Ci v=true):∀x∈OK v,AQ x=true:=by
 intro x hx
 have h1:=Qa h
 simp only[Ci,Bool.and_eq_true,List.all_eq_true]at h
 have:[x]∈aZ v:=by rw[h1];exact List.mem_map.2 ⟨x,hx,rfl⟩
 exact h.2 _ this
@[simp]theorem adC(v:AV):OK v.view=OK v:=by simp[OK]
@[simp]theorem abv(v:AV):Ci v.view=Ci v:=by simp[Ci]
@[simp]theorem adD(v:AV):dII v.view=dII v:=by simp[dII]
@[simp]theorem UY{v:AV}(h:Ci v=true):dc 1 v=true:=by simp only[Ci,Bool.and_eq_true]at h;exact h.1
@[simp]theorem af0{v:AV}(h:Ci v=true):aJ v=true:=nD (UY h)
@[simp]theorem af1(v:AV):(dII v).length=(OK v).length:=by simp[dII]
@[simp]theorem af2{v:AV}(h:Ci v=true)(i:Nat)(hi:i<(OK v).length):AQ (OK v)[i]=true:=YN h _ (List.getElem_mem _)
end Ax
namespace Ax
@[simp]theorem cast_eq(a b:Nat):((a:Int)=(b:Int))↔a=b:=Int.natCast_inj
end Ax
namespace Ax
open Go
theorem Qb{S:Nat->Option aD}{f:Nat}{sf:aD}(hf:S f=some sf)(hm:sf.mode=.pure){args:List AV}(hp:AV.ah args=true){v:AV}{st0:aj}(h:(bg S).call 0 0 f args []=some (v,st0))(wl aa:Nat)(st:aj) :
  (bg S).call wl aa f args st=some (v,st):=by
 rw[yE,hf]at h ⊢
 have ha:qn sf args=true:=by simp[qn,hm,hp]
 simp only[dZ,ha,if_true]at h ⊢
 cases hc:de (bg S) 0 0 sf args [] with
 |none=>rw[hc]at h;cases h
 |some x=>rw[hc]at h;cases h;rfl
end Ax
namespace Ax
open Go
variable {P:Program}
theorem YO{t:TypeId}{k:IntKind}{as:List AV}(h1:P.underlying t=some (.int k))(h:Ty P t as):∃n,as=[.int k n]/\k.min<=n/\n<=k.max:=by
 cases h with
 |int hu n a b=>rw[h1]at hu;cases hu;exact⟨n,rfl,a,b⟩
 |bool hu=>rw[h1]at hu;cases hu
 |str hu=>rw[h1]at hu;cases hu
 |U hu=>rw[h1]at hu;cases hu
 |kV hu=>rw[h1]at hu;cases hu
 |dj hu=>rw[h1]at hu;cases hu
 |acS hu=>rw[h1]at hu;cases hu
theorem UZ{t:TypeId}{a:AV}(h1:∀fs,P.underlying t≠some (.struct fs))(h:Ye P t a):Ty P t [a]:=by
 rcases h with⟨fs,as,h2,_⟩|⟨_,h2⟩
 ·exact absurd h2 (h1 fs)
 ·exact h2
theorem Qc{t u:TypeId}{as:List AV}(h:Uy P [t,u] as):∃a b,as=[a,b]/\Ye P t a/\Ye P u b:=by
 match as,h with
 |[a,b],h=>exact⟨a,b,rfl,h.1,h.2.1⟩
end Ax
namespace Ax
open Go
noncomputable def HU (env:nZ) (t:Nat):eG:=List.rec (motive:=λ_=>eG) eG.none (λp _ ih=>match Nat.beq p.1 t with|true=>p.2|false=>ih) env
noncomputable def Qd (env:nZ) (t:Nat) (e:eG):nZ:=List.rec (motive:=λ_=>nZ) [(t,e)] (λp r ih=>match Nat.ble p.1 t with
  |false=>(t,e)::p::r
  |true=>match Nat.beq p.1 t with
   |true=>(t,e)::r
   |false=>p::ih) env
noncomputable def Eh (env:nZ) (t:Nat):nZ:=List.rec (motive:=λ_=>nZ) [] (λp _ ih=>match Nat.beq p.1 t with|true=>ih|false=>p::ih) env
theorem Cj{k t:Nat}(h:¬k=t):Nat.beq k t=false:=by
 cases hb:Nat.beq k t with
 |false=>rfl
 |true=>exact absurd (Nat.eq_of_beq_eq_true hb) h
theorem xI{k t:Nat}(h:k=t):Nat.beq k t=true:=by subst h;exact Nat.beq_refl k
theorem HV:HU=cQ:=by
 funext env t
 induction env with
 |nil=>rfl
 |cons p r ih=>
  obtain⟨k,e⟩:=p
  show (match Nat.beq k t with|true=>e|false=>HU r t)=cQ ((k,e)::r) t
  rw[ih]
  show _=(if k=t then e else cQ r t)
  by_cases h:k=t
  ·rw[xI h,if_pos h]
  ·rw[Cj h,if_neg h]
theorem Qe:Qd=tH:=by
 funext env t e
 induction env with
 |nil=>rfl
 |cons p r ih=>
  obtain⟨k,x⟩:=p
  show (match Nat.ble k t with
   |false=>(t,e)::(k,x)::r
   |true=>match Nat.beq k t with
    |true=>(t,e)::r
    |false=>(k,x)::Qd r t e)=tH ((k,x)::r) t e
  rw[ih]
  show _=(if t<k then (t,e)::(k,x)::r else if t=k then (t,e)::r else (k,x)::tH r t e)
  by_cases h:t<k
  ·have:Nat.ble k t=false:=by
    cases hb:Nat.ble k t with
    |false=>rfl
    |true=>have:=Nat.le_of_ble_eq_true hb;omega
   rw[this,if_pos h]
  ·have:Nat.ble k t=true:=Nat.ble_eq_true_of_le (by omega)
   rw[this,if_neg h]
   by_cases h2:t=k
   ·rw[xI h2.symm,if_pos h2]
   ·rw[Cj (λe=>h2 e.symm),if_neg h2]
theorem HW:Eh=Ah:=by
 funext env t
 induction env with
 |nil=>rfl
 |cons p r ih=>
  obtain⟨k,x⟩:=p
  show (match Nat.beq k t with|true=>Eh r t|false=>(k,x)::Eh r t)=(if k=t then Ah r t else (k,x)::Ah r t)
  rw[ih]
  by_cases h:k=t
  ·rw[xI h,if_pos h]
  ·rw[Cj h,if_neg h]
noncomputable def HX (v:AV):AV:=match v with
 |.je sz rows=>.dj sz rows
 |.raw _ _=>.gone
 |.agg cs=>(AV.agg cs).view
 |.fK cs=>(AV.fK cs).view
 |v=>v
theorem HY(v:AV):HX v=v.view:=by cases v<;>simp[HX,AV.view]
noncomputable def Fv (l:List AV):List AV:=List.rec (motive:=λ_=>List AV) [] (λv _ ih=>HX v::ih) l
theorem Ei(l:List AV):Fv l=AV.cL l:=by
 induction l with
 |nil=>rfl
 |cons v l ih=>
  show HX v::Fv l=_
  rw[ih,HY];rfl
noncomputable def LP (v:AV):Bool:=match v with
 |.mu _ _|.ptr _ _ _ _|.map _=>false
 |.agg cs=>(AV.agg cs).an
 |.fK cs=>(AV.fK cs).an
 |.fn f a b=>(AV.fn f a b).an
 |_=>true
theorem Qf(v:AV):LP v=v.an:=by cases v<;>simp[LP,AV.an]
noncomputable def Fw (l:List AV):Bool:=List.rec (motive:=λ_=>Bool) true (λv _ ih=>match LP v with|true=>ih|false=>false) l
theorem Nl(l:List AV):Fw l=AV.ah l:=by
 induction l with
 |nil=>rfl
 |cons v l ih=>
  show (match LP v with|true=>Fw l|false=>false)=_
  rw[ih,Qf]
  simp only[AV.ah]
  cases v.an<;>simp
noncomputable def Qg (e:eG):eG:=match e with|.val v=>.val (HX v)|.none=>.none|.fp j k=>.fp j k
theorem Qh(e:eG):Qg e=e.view:=by cases e<;>simp[Qg,eG.view,HY]
noncomputable def Qi (env:nZ) (x:Src):eG:=match x with
 |.tmp t mv=>match mv with|true=>HU env t|false=>Qg (HU env t)
 |.const a=>.val a
theorem LQ:Qi=GC:=by
 funext env x
 unfold Qi GC
 rw[HV]
 cases x with
 |tmp t mv=>
  cases mv
  ·exact Qh _
  ·rfl
 |const a=>rfl
noncomputable def ug (env:nZ) (x:Src):nZ:=match x with
 |.tmp t mv=>match mv with|true=>Eh env t|false=>env
 |.const _=>env
theorem Ej:ug=k8:=by
 funext env x
 unfold ug k8
 rw[HW]
 cases x with
 |tmp t mv=>cases mv<;>rfl
 |const a=>rfl
noncomputable def qA (l:List Nat) (env:nZ):nZ:=List.rec (motive:=λ_=>nZ->nZ) (λenv=>env) (λt _ ih env=>ih (Eh env t)) l env
theorem Ck:qA=iz:=by
 funext l
 induction l with
 |nil=>rfl
 |cons t l ih=>
  funext env
  show qA l (Eh env t)=iz l (Ah env t)
  rw[ih,HW]
noncomputable def Ek (env:nZ) (dst:Option Nat) (e:eG):nZ:=match dst with|some d=>Qd env d e|none=>env
theorem Qj:Ek=vJ:=by
 funext env d e
 unfold Ek vJ
 rw[Qe]
 rfl
noncomputable def Cl (env:nZ) (g:Option (Nat×Bool)):Option Bool:=match g with
 |none=>some true
 |some (t,b)=>match HU env t with
  |.val (.bool c)=>some (c==b)
  |.val .undef=>some false
  |_=>none
theorem HZ:Cl=lA:=by
 funext env g
 unfold Cl lA
 rw[HV]
 rfl
noncomputable def Qk (env:nZ) (l:List Src):List eG:=List.rec (motive:=λ_=>List eG) [] (λx _ ih=>Qi env x::ih) l
theorem Ql(env:nZ)(l:List Src):Qk env l=l.map (GC env):=by
 induction l with
 |nil=>rfl
 |cons x l ih=>
  show Qi env x::Qk env l=_
  rw[ih,LQ];rfl
noncomputable def Cm (env:nZ) (l:List Src):nZ:=List.rec (motive:=λ_=>nZ->nZ) (λenv=>env) (λx _ ih env=>ih (ug env x)) l env
theorem Nn(l:List Src):∀env,Cm env l=l.foldl k8 env:=by
 induction l with
 |nil=>exact λ_=>rfl
 |cons x l ih=>
  intro env
  show Cm (ug env x) l=_
  rw[ih,Ej];rfl
noncomputable def U0 (O:jC) (wl aa:Nat) (op:fQ) (vals:List eG) (st:aj) (bx:aU):Option (eG×aj×aU):=match op with
 |.move=>match vals with
  |[e]=>some (e,st,bx)
  |_=>none
 |.load agg n take=>match take with
  |true=>aL wl aa (.load agg n true) vals st bx
  |false=>match vals with
   |[.val p]=>match fY st p n with
    |some cs=>match b9 agg (Fv cs) with|some v=>some (.val v,st,bx)|none=>none
    |none=>none
   |_=>none
 |.aE j agg n take=>match take with
  |true=>aL wl aa (.aE j agg n true) vals st bx
  |false=>match vals with
   |[.fp j' k]=>match Nat.beq j j' with
    |true=>match bx[j]? with
     |some row=>match cut row k n with
      |some cs=>match b9 agg (Fv cs) with|some v=>some (.val v,st,bx)|none=>none
      |none=>none
     |none=>none
    |false=>none
   |_=>none
 |.call f=>fC O wl aa (ld (.call f) vals) st bx
 |.pz=>fC O wl aa (ld .pz vals) st bx
 |op=>aL wl aa op vals st bx
theorem U1(O:jC)(wl aa:Nat)(op:fQ)(vals:List eG)(st:aj)(bx:aU):U0 O wl aa op vals st bx=qM O wl aa op vals st bx:=by
 cases op
 case load agg n take=>
  cases take with
  |true=>rfl
  |false=>
   simp only[U0,qM,aL,Ei]
   rfl
 case aE j agg n take=>
  cases take with
  |true=>rfl
  |false=>
   rcases vals with _|⟨e,_|⟨e2,l⟩⟩
   ·rfl
   ·cases e with
    |none=>rfl
    |val v=>rfl
    |fp j' k=>
     simp only[U0,qM,aL,Ei]
     by_cases h:j=j'
     ·rw[xI h,if_pos h];rfl
     ·rw[Cj h,if_neg h]
   ·cases e<;>rfl
 all_goals rfl
noncomputable def AR (O:jC) (wl aa:Nat) (o:aX) (s:St):Option St:=
 match Cl s.env o.guard with
 |none=>none
 |some false=>some { s with env:=Ek s.env o.dst (.val .undef) }
 |some true=>
  match U0 O wl aa o.op (Qk s.env o.args) s.st s.bx with
  |none=>none
  |some (e,bS,fm)=>
   match o.op.bz with
   |none=>some ⟨Ek (Cm s.env o.args) o.dst e,fm,bS⟩
   |some j=>if n7 j (Ek (Cm s.env o.args) o.dst .none) then some ⟨Ek (Cm s.env o.args) o.dst e,fm,bS⟩ else none
theorem Kb(O:jC)(wl aa:Nat)(o:aX)(s:St):AR O wl aa o s=gr O wl aa o s:=by
 unfold AR gr
 rw[HZ,Qj,Ql,Nn,U1]
 rfl
noncomputable def rE (O:jC) (wl aa:Nat) (l:List aX) (s:St):Option St:=List.rec (motive:=λ_=>St->Option St) (λs=>some s)
 (λo _ ih s=>match AR O wl aa o s with|some s'=>ih s'|none=>none) l s
theorem zQ(O:jC)(wl aa:Nat):∀(l:List aX)(s:St),rE O wl aa l s=eY O wl aa l s:=by
 intro l
 induction l with
 |nil=>exact λ_=>rfl
 |cons o l ih=>
  intro s
  show (match AR O wl aa o s with|some s'=>rE O wl aa l s'|none=>none)=_
  rw[Kb]
  unfold eY
  cases gr O wl aa o s with
  |none=>rfl
  |some s'=>exact ih s'
noncomputable def yP (O:jC) (wl aa:Nat) (cT:List aX) (bK:List (Nat×Nat)) (s:St):Option St:=match bK with
 |[]=>match cT.all (bw s.env) with
  |true=>rE O wl aa cT s
  |false=>none
 |p::l=>fO O wl aa cT (p::l) s
theorem Fx(O:jC)(wl aa:Nat)(cT:List aX)(bK:List (Nat×Nat))(s:St):yP O wl aa cT bK s=fO O wl aa cT bK s:=by
 cases bK with
 |cons p l=>rfl
 |nil=>
  show (match cT.all (bw s.env) with|true=>rE O wl aa cT s|false=>none)=_
  cases h:cT.all (bw s.env) with
  |true=>rw[sx h];exact zQ ..
  |false=>
   unfold fO
   cases dJ O wl aa cT s with
   |none=>rfl
   |some y=>simp[h]
noncomputable def AS (env:nZ) (c:Src):Option Bool:=
 match Qi env c with
 |.val (.bool b)=>some b
 |_=>none
theorem Kc:AS=pA:=by
 funext env c
 unfold AS pA
 rw[LQ]
 rfl
noncomputable def Fy (O:jC) (wl aa:Nat) (rs:List jV) (c:bQ):St->Option (Ex×St):=bQ.rec (motive:=λ_=>St->Option (Ex×St))
 (λs=>some (Ex.normal,s))
 (λcT draw dM s=>
  match (match draw with|none=>rE O wl aa cT s|some bK=>yP O wl aa cT bK s) with
  |some s'=>some (Ex.normal,{ s' with env:=qA dM s'.env })
  |none=>none)
 (λ_ _ ia ib s=>match ia s with
  |some (Ex.normal,s')=>ib s'
  |r=>r)
 (λc ca _ cb _ ia ib s=>match AS s.env c with
  |some true=>ia { s with env:=qA ca (ug s.env c) }
  |some false=>ib { s with env:=qA cb (ug s.env c) }
  |none=>none)
 (λid _ ic s=>match ic s with
  |some (Ex.exit Wd,s')=>if Wd=id then some (Ex.normal,s') else some (Ex.exit Wd,s')
  |r=>r)
 (λc _ s=>O.loop wl aa rs c s)
 (λid s=>some (Ex.exit id,s))
 (λs=>match wB s rs with|some v=>some (Ex.ret v,⟨[],[],s.st⟩)|none=>none)
 (λt s=>gO O wl aa rs (.OL t) s)
 (λj k s=>gO O wl aa rs (.Bb j k) s)
 (λt off s=>gO O wl aa rs (.vI t off) s) c
theorem LR(O:jC)(wl aa:Nat)(rs:List jV):∀(c:bQ)(s:St),Fy O wl aa rs c s=gO O wl aa rs c s:=by
 intro c
 induction c with
 |skip=>exact λ_=>rfl
 |region cT draw dM=>
  intro s
  show (match (match draw with|none=>rE O wl aa cT s|some bK=>yP O wl aa cT bK s) with
  |some s'=>some (Ex.normal,{ s' with env:=qA dM s'.env })
  |none=>none)=_
  rw[Ck]
  simp only[gO]
  cases draw with
  |none=>rw[zQ];rfl
  |some p=>simp only[Fx];rfl
 |seq a b ia ib=>
  intro s
  show (match Fy O wl aa rs a s with
  |some (Ex.normal,s')=>Fy O wl aa rs b s'
  |r=>r)=_
  rw[ia]
  simp only[gO]
  cases gO O wl aa rs a s with
  |none=>rfl
  |some y=>
   obtain⟨x,s'⟩:=y
   cases x with
   |normal=>exact ib s'
   |exit _=>rfl
   |ret _=>rfl
 |cond c ca a cb b ia ib=>
  intro s
  show (match AS s.env c with
  |some true=>Fy O wl aa rs a { s with env:=qA ca (ug s.env c) }
  |some false=>Fy O wl aa rs b { s with env:=qA cb (ug s.env c) }
  |none=>none)=_
  rw[Kc,Ck,Ej]
  simp only[gO]
  cases pA s.env c with
  |none=>rfl
  |some z=>cases z with
   |true=>exact ia _
   |false=>exact ib _
 |block id c ic=>
  intro s
  show (match Fy O wl aa rs c s with
  |some (Ex.exit Wd,s')=>if Wd=id then some (Ex.normal,s') else some (Ex.exit Wd,s')
  |r=>r)=_
  rw[ic]
  rfl
 |loop c _=>exact λ_=>rfl
 |exit id=>exact λ_=>rfl
 |ret=>exact λ_=>rfl
 |OL t=>exact λ_=>rfl
 |Bb j k=>exact λ_=>rfl
 |vI t off=>exact λ_=>rfl
noncomputable def sA (O:jC) (wl aa:Nat) (sf:aD) (args:List AV) (st:aj):Option (AV×aj):=
 match Nat.beq args.length sf.aF with
 |true=>match Fy O (sf.mode.wC st.length wl) (sf.mode.pC st.length aa) sf.results sf.body (pD sf args st) with
  |some (x,s)=>match Du sf.results x s with
   |some v=>sf.mode.kJ st v s.st
   |none=>none
  |none=>none
 |false=>none
theorem wh(O:jC)(wl aa:Nat)(sf:aD)(args:List AV)(st:aj):sA O wl aa sf args st=de O wl aa sf args st:=by
 unfold sA de
 rw[LR]
 by_cases h:args.length=sf.aF
 ·rw[xI h,if_pos h]
  rfl
 ·rw[Cj h,if_neg h]
noncomputable def u9 (O:jC) (wl aa:Nat) (sf:aD) (args:List AV) (st:aj):Option (AV×aj):=
 match (match sf.mode with|.pure=>Fw args|_=>false) with
 |true=>(match sA O 0 0 sf args [] with|some r=>some (r.1,st)|none=>none)
 |false=>sA O wl aa sf args st
theorem Fz(O:jC)(wl aa:Nat)(sf:aD)(args:List AV)(st:aj):u9 O wl aa sf args st=dZ O wl aa sf args st:=by
 unfold u9 dZ
 rw[wh,wh]
 have:(match sf.mode with|.pure=>Fw args|_=>false)=qn sf args:=by
  unfold qn
  rw[Nl]
  cases sf.mode<;>simp
 rw[this]
 cases qn sf args with
 |true=>simp only[if_true];cases de O 0 0 sf args []<;>rfl
 |false=>simp
noncomputable def No (S:Nat->Option aD) (n:Nat):jC:=Nat.rec (motive:=λ_=>jC)
 ⟨λ_ _ _ _ _=>none,λ_ _ _ _ _=>none⟩
 (λ_ ih=>⟨λwl aa f args st=>match S f with
   |some sf=>u9 ih wl aa sf args st
   |none=>none,
   λwl aa rs c s=>match Fy ih wl aa rs c s with
   |some (Ex.normal,s')=>ih.loop wl aa rs c s'
   |r=>r⟩) n
theorem U3(S:Nat->Option aD):∀n,No S n=n8 S n:=by
 intro n
 induction n with
 |zero=>rfl
 |succ n ih=>
  show (⟨λwl aa f args st=>match S f with
   |some sf=>u9 (No S n) wl aa sf args st
   |none=>none,
   λwl aa rs c s=>match Fy (No S n) wl aa rs c s with
   |some (Ex.normal,s')=>(No S n).loop wl aa rs c s'
   |r=>r⟩:jC)=n8 S (n+1)
  rw[ih]
  simp only[Fz,LR]
  rfl
theorem YP{S:Nat->Option aD}{n wl aa f:Nat}{args:List AV}{st:aj}{r:AV×aj}(h:(No S n).call wl aa f args st=some r):(bg S).call wl aa f args st=some r:=by
 rw[U3]at h
 exact(oF S n).call _ _ _ _ _ _ h
def YQ(x:Option (AV×aj)):Bool:=match x with|some (.bool b,[])=>b|_=>false
theorem U4{x:Option (AV×aj)}(h:YQ x=true):x=some (.bool true,[]):=by
 unfold YQ at h
 split at h
 ·subst h;rfl
 ·cases h
end Ax
namespace Ax
@[simp]abbrev Src.t(n:Nat):Src:=.tmp n false
@[simp]abbrev Src.T(n:Nat):Src:=.tmp n true
@[simp]abbrev aX.o(d:Nat)(op:fQ)(args:List Src):aX:=⟨some d,op,args,none⟩
@[simp]abbrev aX.n(op:fQ)(args:List Src):aX:=⟨none,op,args,none⟩
@[simp]abbrev aX.y(d:Nat)(op:fQ)(args:List Src)(t:Nat):aX:=⟨some d,op,args,some (t,true)⟩
@[simp]abbrev aX.z(d:Nat)(op:fQ)(args:List Src)(t:Nat):aX:=⟨some d,op,args,some (t,false)⟩
@[simp]abbrev Src.b(x:Bool):Src:=.const (.bool x)
@[simp]abbrev AV.i(n:Int):AV:=.int .i64 n
@[simp]abbrev Src.i(n:Int):Src:=.const (.int .i64 n)
@[simp]abbrev aX.m(d:Nat)(a:Src):aX:=⟨some d,.move,[a],none⟩
@[simp]abbrev aX.f(d k:Nat)(a:Src):aX:=⟨some d,.fieldAddr k,[a],none⟩
@[simp]abbrev aX.l(d i:Nat)(a:Src):aX:=⟨some d,.aE i false 1 false,[a],none⟩
@[simp]abbrev aX.d(d:Nat)(a:Src):aX:=⟨some d,.load false 1 false,[a],none⟩
@[simp]abbrev bQ.r:=bQ.region
@[simp]abbrev aX.c(d f:Nat)(args:List Src):aX:=⟨some d,.call f,args,none⟩
@[simp]abbrev bQ.g(l:List aX)(c:List Nat):bQ:=.region l none c
end Ax
