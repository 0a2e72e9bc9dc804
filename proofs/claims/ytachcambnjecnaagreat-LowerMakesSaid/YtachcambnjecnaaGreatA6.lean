/- Part of a proof. -/
import Derived.Test.YtachcambnjecnaaGreatA5
import Derived.IntWalk

namespace Ax
open Go
inductive qv where
 |dG (l:List aK) (dj:List Nat)
 |code (c:bw)
 |jF (id:Nat)
 |uU (c:bw)
def oJ(O:lE)(wl af:Nat)(rs:List iE):List qv->Ex->St->Option (Ex×St)
 |[],x,s=>some (x,s)|.jF id::k,x,s=>match x with
  |.normal=>oJ O wl af rs k .normal s|.exit i=>if i=id then oJ O wl af rs k .normal s else oJ O wl af rs k (.exit i) s
  |.ret v=>oJ O wl af rs k (.ret v) s
 |.dG l dj::k,x,s=>match x with
  |.normal=>match gw O wl af l s with|some s'=>oJ O wl af rs k .normal { s' with env:=jI dj s'.env } | none=>none
  |x=>oJ O wl af rs k x s
 |.code c::k,x,s=>match x with
  |.normal=>match iW O wl af rs c s with|some (x',s')=>oJ O wl af rs k x' s'|none=>none
  |x=>oJ O wl af rs k x s
 |.uU c::k,x,s=>match x with
  |.normal=>match iW O wl af rs (.loop c) s with|some (x',s')=>oJ O wl af rs k x' s'|none=>none
  |x=>oJ O wl af rs k x s
def W(S:Nat->Option aH)(wl af:Nat)(rs:List iE)(Q:Ex->St->Prop)(k:List qv)(x:Ex)(s:St):Prop:=∃x' s',oJ (bh S) wl af rs k x s=some (x',s')/\Q x' s'
variable {S:Nat->Option aH}{wl af:Nat}{rs:List iE}{Q:Ex->St->Prop}{k:List qv}{s:St}
theorem adq{x:Ex}:W S wl af rs Q [] x s↔Q x s:=by
 unfold W oJ;constructor;rintro⟨x',s',h,hq⟩;cases h;exact hq;intro h;exact⟨x,s,rfl,h⟩
theorem adr{id:Nat}:W S wl af rs Q (.jF id::k) .normal s↔W S wl af rs Q k .normal s:=Iff.rfl
theorem YK{id i:Nat}:W S wl af rs Q (.jF id::k) (.exit i) s↔if i=id then W S wl af rs Q k .normal s else W S wl af rs Q k (.exit i) s:=by
 unfold W;simp only[oJ];split<;>exact Iff.rfl
theorem YL{id:Nat}{v:AV}:W S wl af rs Q (.jF id::k) (.ret v) s↔W S wl af rs Q k (.ret v) s:=Iff.rfl
theorem YM{l:List aK}{dj:List Nat}{i:Nat}:W S wl af rs Q (.dG l dj::k) (.exit i) s↔W S wl af rs Q k (.exit i) s:=Iff.rfl
theorem YN{l:List aK}{dj:List Nat}{v:AV}:W S wl af rs Q (.dG l dj::k) (.ret v) s↔W S wl af rs Q k (.ret v) s:=Iff.rfl
theorem UT{c:bw}{i:Nat}:W S wl af rs Q (.code c::k) (.exit i) s↔W S wl af rs Q k (.exit i) s:=Iff.rfl
theorem UU{c:bw}{v:AV}:W S wl af rs Q (.code c::k) (.ret v) s↔W S wl af rs Q k (.ret v) s:=Iff.rfl
theorem QS{c:bw}{i:Nat}:W S wl af rs Q (.uU c::k) (.exit i) s↔W S wl af rs Q k (.exit i) s:=Iff.rfl
theorem QT{c:bw}{v:AV}:W S wl af rs Q (.uU c::k) (.ret v) s↔W S wl af rs Q k (.ret v) s:=Iff.rfl
theorem YO{dj:List Nat}:W S wl af rs Q (.dG [] dj::k) .normal s↔W S wl af rs Q k .normal { s with env:=jI dj s.env }:=Iff.rfl
theorem ahw{o:aK}{l:List aK}{dj:List Nat}:W S wl af rs Q (.dG (o::l) dj::k) .normal s↔∃s',jd (bh S) wl af o s=some s'/\W S wl af rs Q (.dG l dj::k) .normal s':=by
 unfold W;simp only[oJ,gw];cases jd (bh S) wl af o s with
 |none=>simp|some s'=>simp
theorem YP:W S wl af rs Q (.code .skip::k) .normal s↔W S wl af rs Q k .normal s:=Iff.rfl
theorem YQ{id:Nat}:W S wl af rs Q (.code (.exit id)::k) .normal s↔W S wl af rs Q k (.exit id) s:=Iff.rfl
theorem ads:W S wl af rs Q (.code .ret::k) .normal s↔∃v,xQ s rs=some v/\W S wl af rs Q k (.ret v) ⟨[],[],s.st⟩:=by
 unfold W;simp only[oJ,iW];cases xQ s rs with
 |none=>simp|some v=>simp
theorem adt{a b:bw}:W S wl af rs Q (.code (.seq a b)::k) .normal s↔W S wl af rs Q (.code a::.code b::k) .normal s:=by
 unfold W;simp only[oJ,iW];cases h:iW (bh S) wl af rs a s with
 |none=>simp|some y=>
  obtain⟨x,s'⟩:=y;cases x<;>simp
theorem QU{l:List aK}{dj:List Nat}:W S wl af rs Q (.code (.region l none dj)::k) .normal s↔W S wl af rs Q (.dG l dj::k) .normal s:=by
 unfold W;simp only[oJ,iW];cases h:gw (bh S) wl af l s with
 |none=>simp|some s'=>simp
theorem BH{O:lE}:∀{l:List aK}{s:St},(dS O wl af l s).map (·.1)=gw O wl af l s
 |[],s=>rfl|o::l,s=>by
  simp only[dS,gw];cases h:jd O wl af o s with
  |none=>rfl|some s'=>
   simp only;rw[<-BH (l:=l) (s:=s')];cases dS O wl af l s' with
   |none=>rfl|some y=>rfl
def an:List aK->Bool
 |[]=>true|o::l=>(match o.op.bg with|some _=>false|none=>true)&&an l
theorem DL{env:pX}:∀{l:List aK},an l=true->l.all (bG env)=true
 |[],_=>rfl|o::l,h=>by
  simp only[an,Bool.and_eq_true]at h;simp only[List.all_cons,DL h.2,Bool.and_true];unfold bG;cases hb:o.op.bg with
  |none=>rfl|some j=>rw[hb]at h;simp at h
theorem zK{O:lE}{l:List aK}(h:l.all (bG s.env)=true):iB O wl af l [] s=gw O wl af l s:=by
 unfold iB;rw[<-BH];cases dS O wl af l s with
 |none=>rfl|some y=>
  obtain⟨e,ga⟩:=y;simp only[List.all_nil,h,Bool.and_self,if_true,Option.map_some]
theorem au{l:List aK}{dj:List Nat}(h:an l=true):W S wl af rs Q (.code (.region l (some []) dj)::k) .normal s↔W S wl af rs Q (.dG l dj::k) .normal s:=by
 unfold W;simp only[oJ,iW,zK (DL h)];cases h:gw (bh S) wl af l s with
 |none=>simp|some s'=>simp
theorem aU{l:List aK}{dj:List Nat}:W S wl af rs Q (.code (.region l (some []) dj)::k) .normal s↔l.all (bG s.env)=true/\W S wl af rs Q (.dG l dj::k) .normal s:=by
 by_cases h:l.all (bG s.env)=true;unfold W;simp only[oJ,iW,zK h];cases h2:gw (bh S) wl af l s with
 |none=>simp|some s'=>simp[h]
 unfold W;simp only[oJ,iW,iB];cases h2:dS (bh S) wl af l s with
 |none=>simp[h]|some y=>obtain⟨e,ga⟩:=y;simp[h]
theorem mV{l:List aK}{cn:List (Nat×Nat)}{dj:List Nat}:W S wl af rs Q (.code (.region l (some cn) dj)::k) .normal s↔
  ∃e ga,dS (bh S) wl af l s=some (e,ga)/\(cn.all (gO (bh S) wl af l ga)&&l.all (bG s.env))=true/\W S wl af rs Q k .normal { e with env:=jI dj e.env }:=by
 unfold W;simp only[oJ,iW,iB];cases h:dS (bh S) wl af l s with
 |none=>simp|some y=>
  obtain⟨e,ga⟩:=y;by_cases hc:(cn.all (gO (bh S) wl af l ga)&&l.all (bG s.env))=true;simp only[hc,if_true];constructor;rintro⟨x',s',h1,h2⟩;exact⟨e,ga,rfl,hc,x',s',h1,h2⟩;rintro⟨e',ahx,h0,_,x',s',h1,h2⟩;cases h0;exact⟨x',s',h1,h2⟩;simp only[hc];constructor;rintro⟨x',s',h1,_⟩;cases h1;rintro⟨e',ahx,h0,hf,_⟩;cases h0;exact absurd hf hc
theorem YR{c:Src}{ca cb:List Nat}{a b:bw}:W S wl af rs Q (.code (.cond c ca a cb b)::k) .normal s↔
  ∃t,vD s.env c=some t/\W S wl af rs Q (.code (if t then a else b)::k) .normal { s with env:=jI (if t then ca else cb) (oA s.env c) }:=by
 unfold W;simp only[oJ,iW];cases vD s.env c with
 |none=>simp|some t=>cases t<;>simp
theorem UW{id:Nat}{c:bw}:W S wl af rs Q (.code (.block id c)::k) .normal s↔W S wl af rs Q (.code c::.jF id::k) .normal s:=by
 unfold W;simp only[oJ,iW];cases h:iW (bh S) wl af rs c s with
 |none=>simp|some y=>
  obtain⟨x,s'⟩:=y;cases x with
  |normal=>simp|exit i=>by_cases hi:i=id<;>simp[hi]|ret v=>simp
theorem YS{c:bw}:W S wl af rs Q (.code (.loop c)::k) .normal s↔W S wl af rs Q (.code c::.uU c::k) .normal s:=by
 unfold W;simp only[oJ,iW];rw[NJ];cases h:iW (bh S) wl af rs c s with
 |none=>simp|some y=>
  obtain⟨x,s'⟩:=y;cases x<;>simp
theorem K5{t off:Nat}:W S wl af rs Q (.code (.u6 t off)::k) .normal s↔∃id cy i k' v v' kL kO,di s.env t=.val (.ptr id cy i k')/\dM s.st (.ptr id cy i (k'+off)) 1=some [v]/\o6 wl v s.st=some (v',kL)/\
  cV wl af kL (.ptr id cy i (k'+off)) [v']=some kO/\W S wl af rs Q k .normal ⟨s.env,s.bx,kO⟩:=by
 constructor;intro h;unfold W at h;simp only[oJ]at h;cases hc:iW (bh S) wl af rs (.u6 t off) s with
 |none=>rw[hc]at h;simp at h|some y=>
  obtain⟨x1,s1⟩:=y;rw[hc]at h;obtain⟨rfl,id,cy,i,k',v,v',kL,kO,g1,g2,g3,g4,rfl⟩:=CY hc;exact⟨id,cy,i,k',v,v',kL,kO,g1,g2,g3,g4,h⟩
 rintro⟨id,cy,i,k',v,v',kL,kO,g1,g2,g3,g4,h⟩;unfold W;simp only[oJ,iW,g1,g2,g3,g4];exact h
theorem W.imp{Q':Ex->St->Prop}{x:Ex}(h:W S wl af rs Q k x s)(hq:∀x s,Q x s->Q' x s):W S wl af rs Q' k x s:=by
 obtain⟨x',s',h1,h2⟩:=h;exact⟨x',s',h1,hq _ _ h2⟩
theorem DN{sf:aH}{args:List AV}{st:aj}(hl:args.length=sf.aF){r:AV×aj}
  (h:W S (sf.mode.u7 st.length wl) (sf.mode.oB st.length af) sf.results (λx s=>∃v,Fa sf.results x s=some v/\sf.mode.lG st v s.st=some r) [.code sf.body] .normal (pF sf args st)) :
  eZ (bh S) wl af sf args st=some r:=by
 simp only[eZ,hl,if_true];obtain⟨x',s',h1,v,h2,h3⟩:=h;simp only[oJ]at h1;cases hs:iW (bh S) (sf.mode.u7 st.length wl) (sf.mode.oB st.length af) sf.results sf.body (pF sf args st) with
 |none=>rw[hs]at h1;cases h1|some y=>
  obtain⟨x,s⟩:=y;rw[hs]at h1;simp only at h1;cases h1;simp only[h2,h3]
theorem Om{f:Nat}{sf:aH}(hf:S f=some sf){args:List AV}{st:aj}(ha:zi sf args=false)(hl:args.length=sf.aF){r:AV×aj}
  (h:W S (sf.mode.u7 st.length wl) (sf.mode.oB st.length af) sf.results (λx s=>∃v,Fa sf.results x s=some v/\sf.mode.lG st v s.st=some r) [.code sf.body] .normal (pF sf args st)) :
  (bh S).call wl af f args st=some r:=by
 rw[FB,hf];simp only[fQ,ha,Bool.false_eq_true,if_false];exact DN hl h
theorem On{f:Nat}{sf:aH}(hf:S f=some sf)(hm:sf.mode=.pure){args:List AV}{st:aj}(hp:AV.ai args=true)(hl:args.length=sf.aF){v:AV}(hv:v.ax=true)
  (h:W S 0 0 sf.results (λx s=>Fa sf.results x s=some v) [.code sf.body] .normal (pF sf args [])) :
  (bh S).call wl af f args st=some (v,st):=by
 rw[FB,hf];have ha:zi sf args=true:=by simp[zi,hm,hp]
 simp only[fQ,ha,if_true];have:=DN (S:=S) (wl:=0) (af:=0) (sf:=sf) (args:=args) (st:=[]) hl (r:=(v,[])) (by
  rw[hm];obtain⟨x',s',h1,h2⟩:=h;exact⟨x',s',h1,v,h2,by simp[Mode.lG,hv]⟩)
 rw[this]
 rfl
def WO(S:Nat->Option aH)(wl af:Nat)(rs:List iE)(Q:Ex->St->Prop)(l:List aK)(dj:List Nat)(k:List qv):Option St->Prop
 |some s=>W S wl af rs Q (.dG l dj::k) .normal s|none=>False
def WC(S:Nat->Option aH)(wl af:Nat)(rs:List iE)(Q:Ex->St->Prop)(ca cb:List Nat)(a b:bw)(k:List qv)(s:St):Option Bool->Prop
 |some true=>W S wl af rs Q (.code a::k) .normal { s with env:=jI ca s.env }|some false=>W S wl af rs Q (.code b::k) .normal { s with env:=jI cb s.env }|none=>False
def WV(S:Nat->Option aH)(wl af:Nat)(rs:List iE)(Q:Ex->St->Prop)(k:List qv)(st:aj):Option AV->Prop
 |some v=>W S wl af rs Q k (.ret v) ⟨[],[],st⟩|none=>False
theorem adu{o:aK}{l:List aK}{dj:List Nat}:W S wl af rs Q (.dG (o::l) dj::k) .normal s↔WO S wl af rs Q l dj k (jd (bh S) wl af o s):=by
 rw[ahw];cases jd (bh S) wl af o s with
 |none=>simp[WO]|some s'=>simp[WO]
theorem UX{c:Src}{ca cb:List Nat}{a b:bw}:W S wl af rs Q (.code (.cond c ca a cb b)::k) .normal s↔WC S wl af rs Q ca cb a b k { s with env:=oA s.env c } (vD s.env c):=by
 rw[YR];cases vD s.env c with
 |none=>simp[WC]|some t=>cases t<;>simp[WC]
theorem YT:W S wl af rs Q (.code .ret::k) .normal s↔WV S wl af rs Q k s.st (xQ s rs):=by
 rw[ads];cases xQ s rs with
 |none=>simp[WV]|some v=>simp[WV]
theorem UY{l:List aK}{dj:List Nat}:WO S wl af rs Q l dj k (some s)↔W S wl af rs Q (.dG l dj::k) .normal s:=Iff.rfl
theorem UZ{l:List aK}{dj:List Nat}:WO S wl af rs Q l dj k none↔False:=Iff.rfl
theorem YU{l:List aK}{dj:List Nat}{c:Prop} [Decidable c]:WO S wl af rs Q l dj k (if c then some s else none)↔c/\W S wl af rs Q (.dG l dj::k) .normal s:=by
 by_cases h:c<;>simp[h,WO]
theorem U0{ca cb:List Nat}{a b:bw}:WC S wl af rs Q ca cb a b k s (some true)↔W S wl af rs Q (.code a::k) .normal { s with env:=jI ca s.env }:=Iff.rfl
theorem QV{ca cb:List Nat}{a b:bw}:WC S wl af rs Q ca cb a b k s (some false)↔W S wl af rs Q (.code b::k) .normal { s with env:=jI cb s.env }:=Iff.rfl
theorem U1{st:aj}{v:AV}:WV S wl af rs Q k st (some v)↔W S wl af rs Q k (.ret v) ⟨[],[],st⟩:=Iff.rfl
end Ax
namespace Ax
open Go
attribute [simp ↓] adq adr YK YL YM YN UT UU QS QT YO adu YP YQ YT adt QU UX UW
attribute [simp] UY UZ YU U0 QV U1
attribute [simp] jd o5 tT Kv oA zh eC.bg jI fq.view AV.view AV.cq se xQ yA CV
 AV.ax AV.ai di zf Iv pF Mode.u7 Mode.oB Mode.lG Fa Fz vD bP cut jt gm mL mc fq.pE
variable {S:Nat->Option aH}{wl af:Nat}{rs:List iE}{Q:Ex->St->Prop}{k:List qv}{st:aj}{bx:bF}
def qw(st:aj)(bx:bF):Option AV->Option (fq×aj×bF)
 |some v=>some (.val v,st,bx)|none=>none
@[simp]theorem abb{v:AV}:qw st bx (some v)=some (.val v,st,bx):=rfl
@[simp]theorem abd:qw st bx none=none:=rfl
@[simp]theorem adv{c:Prop} [Decidable c]{v:AV}:qw st bx (if c then some v else none)=if c then some (.val v,st,bx) else none:=by by_cases h:c<;>simp[h]
theorem qx{c b:bw}{s:St}(h:c=b):W S wl af rs Q (.code (.loop c)::k) .normal s↔W S wl af rs Q (.code b::.uU c::k) .normal s:=by
 rw[YS];subst h;exact Iff.rfl
@[simp]theorem YW:fJ st .U=some []:=rfl
@[simp]theorem YX:fJ st .mK=some []:=rfl
@[simp]theorem YY{sz:Nat}{r:List (List AV)}:fJ st (.dL sz r)=some r:=rfl
@[simp]theorem YZ{sz:Nat}{r:List (List AV)}:fJ st (.iO sz r)=some r:=rfl
@[simp]theorem abe{id cy:Nat}:fJ st (.mu id cy)=match st[id]? with|some (.rows v _ rows)=>if v=cy then some rows else none|_=>none:=rfl
@[simp]theorem U3:dY st .U=some []:=rfl
@[simp]theorem U4:dY st .mK=some []:=rfl
@[simp]theorem U5{sz:Nat}{r:List (List AV)}:dY st (.dL sz r)=some r:=rfl
@[simp]theorem U6{sz:Nat}{r:List (List AV)}:dY st (.iO sz r)=some r:=rfl
@[simp]theorem U8{l:List UInt8}:dY st (.str l)=some (nu l):=rfl
@[simp]theorem adw{l:List UInt8}:ov st .str (.str l)=some l.length:=rfl
@[simp]theorem U9{v:AV}:ov st .sl v=(fJ st v).map List.length:=by
 cases v<;>simp only[ov]<;>cases fJ st _<;>rfl
@[simp]theorem afG{id:Nat}:ov st .mp (.map id)=match st[id]? with|some (.map es)=>some es.length|_=>none:=rfl
def Cj(sz:Nat)(st:aj)(x:AV)(i:Int):Option AV:=match x with
 |.dL s rows|.iO s rows=>if s=sz/\0<=i/\i<rows.length then some (.qd sz rows i.toNat 0) else none
 |.mu id cy=>match st[id]? with
  |some (.rows v s rows)=>if v=cy/\s=sz/\0<=i/\i<rows.length then some (.ptr id cy i.toNat 0) else none
  |_=>none
 |_=>none
@[simp]theorem adx{sz s:Nat}{r:List (List AV)}{i:Int}:Cj sz st (.dL s r) i=if s=sz/\0<=i/\i<r.length then some (.qd sz r i.toNat 0) else none:=rfl
@[simp]theorem ady{sz s:Nat}{r:List (List AV)}{i:Int}:Cj sz st (.iO s r) i=if s=sz/\0<=i/\i<r.length then some (.qd sz r i.toNat 0) else none:=rfl
@[simp]theorem afH{sz id cy:Nat}{i:Int}:Cj sz st (.mu id cy) i=match st[id]? with|some (.rows v s rows)=>if v=cy/\s=sz/\0<=i/\i<rows.length then some (.ptr id cy i.toNat 0) else none|_=>none:=rfl
def nH(sz bytes:Nat)(s:AV)(new:List (List AV)):Option AV:=
 if bN sz new=true then match s with
  |.U|.mK=>if new.isEmpty then some s else if new.length*bytes<=cR then some (.iO sz new) else none
  |.iO lF kJ=>if lF=sz/\(kJ.length+new.length)*bytes<=cR then some (.iO sz (kJ++new)) else none
  |_=>none else none
@[simp]theorem ahy{e:fq}:aV wl af .move [e] st bx=some (e,st,bx):=rfl
@[simp]theorem ahz{b:Bool}{x y:fq}:aV wl af .pick [.val (.bool b),x,y] st bx=some (if b then x else y,st,bx):=rfl
@[simp]theorem akH{op:BinOp}{x y:AV}:aV wl af (.rU op) [.val x,.val y] st bx=qw st bx (B7 op x y):=by
 simp only[aV];cases B7 op x y<;>rfl
@[simp]theorem akI{kk:EqK}{neg:Bool}{x y:AV}:aV wl af (.qj kk neg) [.val x,.val y] st bx=qw st bx ((Cu kk x y).map λb=>.bool (if neg then !b else b)):=by
 simp only[aV];cases Cu kk x y<;>rfl
@[simp]theorem amt{op:UnOp}{x:AV}:aV wl af (.un op) [.val x] st bx=qw st bx (Ya op x):=by
 simp only[aV];cases Ya op x<;>rfl
@[simp]theorem ahA{kk l:IntKind}{n:Int}:aV wl af (.conv kk) [.val (.int l n)] st bx=some (.val (.int kk (kk.wrap n)),st,bx):=rfl
@[simp]theorem afI{x:AV}:aV wl af .WW [.val x] st bx=qw st bx (((fJ st x).bind Cv).map .str):=by
 simp only[aV];cases fJ st x with
 |none=>rfl|some r=>simp only[Option.bind_some];cases Cv r<;>rfl
@[simp]theorem Xk{lk:LK}{x:AV}:aV wl af (.len lk) [.val x] st bx=qw st bx ((ov st lk x).map λn=>.int .i64 n):=by
 simp only[aV];cases ov st lk x<;>rfl
@[simp]theorem adz{mx:Bool}{kk:IntKind}{a b:Int}:aV wl af (.Kw mx) [.val (.int kk a),.val (.int kk b)] st bx=some (.val (.int kk (if mx then (if b > a then b else a) else (if b<a then b else a))),st,bx):=by
 simp[aV]
@[simp]theorem ahB{j i:Nat}:aV wl af .nilCheck [.fp j i] st bx=some (.fp j i,st,bx):=rfl
@[simp]theorem ahC{a b c d:Nat}:aV wl af .nilCheck [.val (.ptr a b c d)] st bx=some (.val (.ptr a b c d),st,bx):=rfl
@[simp]theorem ahD{a:Nat}{r:List (List AV)}{c d:Nat}:aV wl af .nilCheck [.val (.qd a r c d)] st bx=some (.val (.qd a r c d),st,bx):=rfl
@[simp]theorem abf{i:Nat}{vs:List AV}:aV wl af (.extract i) [.val (.fm vs)] st bx=qw st bx vs[i]?:=by
 simp only[aV];cases vs[i]?<;>rfl
@[simp]theorem afJ{off n:Nat}{agg:Bool}{cs:List AV}:aV wl af (.field off n agg) [.val (.agg cs)] st bx=qw st bx ((cut cs off n).bind (bP agg)):=by
 simp only[aV];cases cut cs off n with
 |none=>rfl|some r=>simp only[Option.bind_some];cases bP agg r<;>rfl
@[simp]theorem afK{zero:List AV}{parts:List (Nat×Nat)}{l:List fq}:aV wl af (.build zero parts) l st bx=qw st bx (((jt l).bind (iV zero parts)).map .agg):=by
 simp only[aV];cases jt l with
 |none=>rfl|some vs=>simp only[Option.bind_some];cases iV zero parts vs<;>rfl
@[simp]theorem akJ{sz n:Nat}{zero:List AV}{parts:List Nat}{l:List fq}:aV wl af (.lit sz n zero parts) l st bx =
  qw st bx (((jt l).bind λvs=>gv sz (List.replicate n zero) parts (AV.cq vs)).bind λrows=>if rows.all AV.ai&&rows.all AV.bq then some (if n=0 then .mK else .dL sz rows) else none):=by
 simp only[aV];cases jt l with
 |none=>rfl|some vs=>
  simp only[Option.bind_some];cases gv sz (List.replicate n zero) parts (AV.cq vs) with
  |none=>rfl|some rows=>simp only[Option.bind_some];split<;>rfl
@[simp]theorem Va{off j i:Nat}:aV wl af (.fieldAddr off) [.fp j i] st bx=some (.fp j (i+off),st,bx):=rfl
@[simp]theorem Vb{off a b c d:Nat}:aV wl af (.fieldAddr off) [.val (.ptr a b c d)] st bx=some (.val (.ptr a b c (d+off)),st,bx):=rfl
@[simp]theorem Vc{off a c d:Nat}{r:List (List AV)}:aV wl af (.fieldAddr off) [.val (.qd a r c d)] st bx=some (.val (.qd a r c (d+off)),st,bx):=rfl
@[simp]theorem Xl{sz:Nat}{x:AV}{i:Int}:aV wl af (.indexAddr sz) [.val x,.val (.int .i64 i)] st bx=qw st bx (Cj sz st x i):=by
 cases x<;>try rfl
 case dL s r=>simp only[aV,Cj,Bool.and_eq_true,decide_eq_true_eq,and_assoc];split<;>rfl
 case iO s r=>simp only[aV,Cj,Bool.and_eq_true,decide_eq_true_eq,and_assoc];split<;>rfl
 case mu id cy=>
  simp only[aV,Cj,Bool.and_eq_true,decide_eq_true_eq,and_assoc];cases st[id]? with
  |none=>rfl|some ob=>cases ob with
   |rows v s r=>simp only;split<;>rfl|map es=>rfl
@[simp]theorem afL{l:List UInt8}{i:Int}:aV wl af .index [.val (.str l),.val (.int .i64 i)] st bx=if 0<=i then qw st bx (l[i.toNat]?.map λb=>.int .u8 b.toNat) else none:=by
 simp only[aV];cases l[i.toNat]?<;>rfl
@[simp]theorem ah{agg:Bool}{n:Nat}{p:AV}:aV wl af (.load agg n false) [.val p] st bx=qw st bx ((dM st p n).bind λcs=>bP agg (AV.cq cs)):=by
 simp only[aV];cases dM st p n with
 |none=>rfl|some cs=>simp only[Option.bind_some,Bool.false_eq_true,if_false];cases bP agg (AV.cq cs)<;>rfl
@[simp]theorem afM{zero:List AV}:aV wl af (.alloc zero) [] st bx=some (.val (.ptr st.length 0 0 0),st++[.rows 0 zero.length [zero]],bx):=rfl
@[simp]theorem adA{sz bytes:Nat}{s x:AV}:aV wl af (.append sz bytes) [.val s,.val x] st bx=qw st bx ((dY [] x).bind (nH sz bytes s)):=by
 simp only[aV];cases dY [] x with
 |none=>rfl|some new=>
  simp only[Option.bind_some,nH];by_cases hf:bN sz new=true
  ·simp only[hf,if_true];cases s<;>simp only[Bool.and_eq_true,decide_eq_true_eq]<;>(try rfl)<;>repeat' split
   all_goals rfl
  simp only[hf];rfl
@[simp]theorem adB{sz bytes:Nat}{zero:List AV}{n c:Int}:aV wl af (.sF sz bytes zero false) [.val (.int .i64 n),.val (.int .i64 c)] st bx =
  if 0<=n/\n<=c/\c*bytes<=cR/\zero.length=sz then (if AV.ai zero then some (.val (.iO sz (List.replicate n.toNat zero)),st,bx) else none) else none:=rfl
@[simp]theorem abg{sz bytes:Nat}{zero:List AV}{n c:Int}:aV wl af (.GJ sz bytes zero) [.val (.int .i64 n),.val (.int .i64 c)] st bx =
  if 0<=n/\n<=c/\c*bytes<=cR/\zero.length=sz/\AV.ai zero=true then some (.val (.raw sz (List.replicate n.toNat zero)),st,bx) else none:=rfl
@[simp]theorem xq{sz bytes:Nat}{zero:List AV}{n c:Int}:aV wl af (.sF sz bytes zero true) [.val (.int .i64 n),.val (.int .i64 c)] st bx =
  if 0<=n/\n<=c/\c*bytes<=cR/\zero.length=sz then some (.val (.mu st.length 0),st++[.rows 0 sz (List.replicate n.toNat zero)],bx) else none:=rfl
@[simp]theorem aa{n:Nat}{p v:AV}:aV wl af (.store n) [.val p,.val v] st bx=if v.cells.length=n/\AV.bq v.cells=true then (cV wl af st p v.cells).map λs=>(.none,s,bx) else none:=by
 simp only[aV,Bool.and_eq_true,decide_eq_true_eq];split;cases cV wl af st p v.cells<;>rfl
 rfl
@[simp]theorem Y0{id cy i j:Nat}{cells:List AV}:cV wl af st (.ptr id cy i j) cells=match st[id]? with
  |some (.rows v sz rows)=>if v=cy/\aY wl af id cells=true then rows[i]?.bind λr=>if j+cells.length<=r.length then some (st.set id (.rows v sz (rows.set i (ag r j cells)))) else none else none
  |_=>none:=by
 simp only[cV];cases st[id]? with
 |none=>rfl|some ob=>cases ob with
  |map es=>rfl|rows v sz rows=>
   simp only[Bool.and_eq_true,decide_eq_true_eq];split;cases rows[i]?<;>rfl
   rfl
attribute [simp] aY
@[simp]theorem adC{sz id cy:Nat}{hi:Int}:aV wl af (.CU sz) [.val (.mu id cy),.val (.int .i64 hi)] st bx=match st[id]? with
  |some (.rows v s rows)=>if v=cy/\s=sz/\0<=hi/\hi<=rows.length/\wl<=id then some (.val (.mu id (v+1)),st.set id (.rows (v+1) s (rows.take hi.toNat)),bx) else none
  |_=>none:=by
 simp only[aV,Bool.and_eq_true,decide_eq_true_eq,and_assoc];cases st[id]? with
 |none=>rfl|some ob=>cases ob<;>rfl
@[simp]theorem abh{sz bytes id cy:Nat}{x:AV}:aV wl af (.jx sz bytes) [.val (.mu id cy),.val x] st bx=(dY st x).bind λnew=>if bN sz new=true then match st[id]? with
  |some (.rows v lF kJ)=>if v=cy/\lF=sz/\(kJ.length+new.length)*bytes<=cR/\wl<=id/\(af<=id\/new.all AV.ai=true) then some (.val (.mu id (v+1)),st.set id (.rows (v+1) sz (kJ++new)),bx) else none
  |_=>none else none:=by
 simp only[aV,vA,Bool.and_eq_true,decide_eq_true_eq,Bool.or_eq_true,and_assoc];cases dY st x with
 |none=>rfl|some new=>rfl
@[simp]theorem ahE:aV wl af .X9 [.val .U] st bx=some (.val (.int .i64 0),st,bx):=rfl
@[simp]theorem abi{sz bytes:Nat}{s:AV}{zero:List AV}{n:Int}:aV wl af (.Ct sz bytes zero) [.val s,.val (.int .i64 n)] st bx =
  if 0<=n/\n*bytes<=cR/\zero.length=sz/\AV.ai zero=true then vA wl af sz bytes s (List.replicate n.toNat zero) st bx else none:=rfl
@[simp]theorem Y1{sz bytes:Nat}{x:AV}:aV wl af (.jx sz bytes) [.val .U,.val x] st bx=(dY st x).bind λnew=>if bN sz new=true then (if new.isEmpty=true then some (.val .U,st,bx) else if new.length*bytes<=cR then some (.val (.mu st.length 0),st++[.rows 0 sz new],bx) else none) else none:=by
 simp only[aV];cases dY st x with
 |none=>rfl|some new=>rfl
@[simp]theorem Y2{sz bytes:Nat}{x:AV}:aV wl af (.jx sz bytes) [.val .mK,.val x] st bx=(dY st x).bind λnew=>if bN sz new=true then (if new.length*bytes<=cR then some (.val (.mu st.length 0),st++[.rows 0 sz new],bx) else none) else none:=by
 simp only[aV];cases dY st x with
 |none=>rfl|some new=>rfl
@[simp]theorem afN{j i n:Nat}{agg:Bool}:aV wl af (.fD j agg n false) [.fp j i] st bx=qw st bx ((bx[j]?.bind λrow=>cut row i n).bind λcs=>bP agg (AV.cq cs)):=by
 simp only[aV,if_true];cases bx[j]? with
 |none=>rfl|some row=>
  simp only[Option.bind_some];cases cut row i n with
  |none=>rfl|some cs=>simp only[Option.bind_some,Bool.false_eq_true,if_false];cases bP agg (AV.cq cs)<;>rfl
@[simp]theorem adD{j i n:Nat}{agg:Bool}:aV wl af (.fD j agg n true) [.fp j i] st bx=(bx[j]?.bind λrow=>(cut row i n).bind λcs=>(bP agg cs).map λv=>(.val v,st,bx.set j (ag row i (cs.map AV.dJ)))):=by
 simp only[aV,if_true];cases bx[j]? with
 |none=>rfl|some row=>
  simp only[Option.bind_some];cases cut row i n with
  |none=>rfl|some cs=>simp only[Option.bind_some];cases bP agg cs<;>rfl
@[simp]theorem adE{j i n:Nat}{v:AV}:aV wl af (.jH j n) [.fp j i,.val v] st bx=if v.cells.length=n/\AV.bq v.cells=true then bx[j]?.bind λrow=>(if i+n<=row.length then some (.none,st,bx.set j (ag row i v.cells)) else none) else none:=by
 simp only[aV,Bool.and_eq_true,decide_eq_true_eq,true_and];split;cases bx[j]?<;>rfl
 rfl
@[simp]theorem adF{j:Nat}{zero:List AV}:aV wl af (.bT j zero) [] st bx=if j<bx.length then some (.fp j 0,st,bx.set j zero) else none:=rfl
@[simp]theorem MN{n:Nat}{v:AV}:aV wl af (.box n) [.val v] st bx=if v.cells.length=n/\AV.bq v.cells=true then some (.val (.ptr st.length 0 0 0),st++[.rows 0 n [v.cells]],bx) else none:=by
 simp only[aV,Bool.and_eq_true,decide_eq_true_eq]
@[simp]theorem ahF{j n:Nat}{v:AV}:aV wl af (.qV j n) [.val v] st bx=if j<bx.length/\v.cells.length=n/\AV.bq v.cells=true then some (.fp j 0,st,bx.set j v.cells) else none:=by
 simp only[aV,Bool.and_eq_true,decide_eq_true_eq,and_assoc]
@[simp]theorem Y3{f n:Nat}{l:List fq}:aV wl af (.makeFunc f n) l st bx=qw st bx ((jt l).map λvs=>.fn f (AV.cq (vs.take n)) (AV.cq (vs.drop n))):=by
 simp only[aV];cases jt l<;>rfl
@[simp]theorem abj{wT:Bool}{sz:Nat}{x:AV}{b:Int}:aV wl af (.slice wT false true false sz) [.val x,.val (.int .i64 b)] st bx=(ov st (if wT then .str else .sl) x).bind λ_=>qw st bx (ko wT sz x 0 b none):=by
 simp only[aV];cases ov st (if wT then LK.str else LK.sl) x with
 |none=>rfl|some n=>simp only[se,Bool.false_eq_true,if_false,if_true,Option.bind_some];cases ko wT sz x 0 b none<;>rfl
@[simp]theorem abk{wT:Bool}{sz:Nat}{x:AV}{a:Int}:aV wl af (.slice wT true false false sz) [.val x,.val (.int .i64 a)] st bx=(ov st (if wT then .str else .sl) x).bind λn=>qw st bx (ko wT sz x a n none):=by
 simp only[aV];cases ov st (if wT then LK.str else LK.sl) x with
 |none=>rfl|some n=>simp only[se,Bool.false_eq_true,if_false,if_true,Option.bind_some];cases ko wT sz x a n none<;>rfl
@[simp]theorem abl{wT:Bool}{sz:Nat}{x:AV}{a b:Int}:aV wl af (.slice wT true true false sz) [.val x,.val (.int .i64 a),.val (.int .i64 b)] st bx=(ov st (if wT then .str else .sl) x).bind λ_=>qw st bx (ko wT sz x a b none):=by
 simp only[aV];cases ov st (if wT then LK.str else LK.sl) x with
 |none=>rfl|some n=>simp only[se,if_true,Option.bind_some];cases ko wT sz x a b none<;>rfl
@[simp]theorem Y4{sz:Nat}{s:List UInt8}{a b:Int}:ko true sz (.str s) a b none=if 0<=a/\a<=b/\b<=s.length then some (.str ((s.take b.toNat).drop a.toNat)) else none:=by
 simp[ko,and_assoc]
attribute [simp] AV.dJ
@[simp]theorem adG{op:BinOp}{kk:IntKind}{a b:Int}:B7 op (.int kk a) (.int kk b)=lM op kk a b:=by simp[B7]
@[simp]theorem ahG{a b:List UInt8}:B7 .add (.str a) (.str b)=if a.length+b.length<=4611686018427387904 then some (.str (a++b)) else none:=rfl
@[simp]theorem ahH{a b:List UInt8}:B7 .eql (.str a) (.str b)=some (.bool (decide (a=b))):=by simp only[B7];by_cases h:a=b<;>simp[h]
@[simp]theorem ahI{a b:List UInt8}:B7 .neq (.str a) (.str b)=some (.bool (!decide (a=b))):=by simp only[B7];by_cases h:a=b<;>simp[h]
@[simp]theorem afO{b:Bool}:Ya .not (.bool b)=some (.bool (!b)):=rfl
@[simp]theorem afP{kk:IntKind}{a:Int}:Ya .neg (.int kk a)=some (.int kk (kk.wrap (0-a))):=rfl
@[simp]theorem adH{a b:Bool}:Cu (.sc .bool) (.bool a) (.bool b)=some (decide (a=b)):=by cases a<;>cases b<;>rfl
@[simp]theorem afQ{kk:IntKind}{a b:Int}:Cu (.sc .int) (.int kk a) (.int kk b)=some (decide (a=b)):=by simp[Cu,AG];by_cases h:a=b<;>simp[h]
@[simp]theorem afR{a b:List UInt8}:Cu (.sc .str) (.str a) (.str b)=some (decide (a=b)):=by simp[Cu,AG];by_cases h:a=b<;>simp[h]
@[simp]theorem adI{ks:List SK}{a b:List AV}:Cu (.flat ks) (.agg a) (.agg b)=AH ks a b:=rfl
attribute [simp] AH
@[simp]theorem adJ{a b:Bool}:AG .bool (.bool a) (.bool b)=some (decide (a=b)):=by cases a<;>cases b<;>rfl
@[simp]theorem afS{kk:IntKind}{a b:Int}:AG .int (.int kk a) (.int kk b)=some (decide (a=b)):=by simp[AG];by_cases h:a=b<;>simp[h]
@[simp]theorem afT{a b:List UInt8}:AG .str (.str a) (.str b)=some (decide (a=b)):=by simp[AG];by_cases h:a=b<;>simp[h]
section
variable {kk:IntKind}{a b:Int}
@[simp]theorem ahJ:lM .add kk a b=some (.int kk (kk.wrap (a+b))):=rfl
@[simp]theorem ahK:lM .sub kk a b=some (.int kk (kk.wrap (a-b))):=rfl
@[simp]theorem ahL:lM .mul kk a b=some (.int kk (kk.wrap (a*b))):=rfl
@[simp]theorem ahM:lM .quo kk a b=if b=0 then none else some (.int kk (kk.wrap (a.tdiv b))):=rfl
@[simp]theorem ahN:lM .rem kk a b=if b=0 then none else some (.int kk (a.tmod b)):=rfl
@[simp]theorem ahO:lM .and kk a b=some (.int kk (kk.wrap ((BitVec.ofInt kk.bits a &&& BitVec.ofInt kk.bits b).toNat))):=rfl
@[simp]theorem ahP:lM .eql kk a b=some (.bool (decide (a=b))):=by simp only[lM];by_cases h:a=b<;>simp[h]
@[simp]theorem ahQ:lM .neq kk a b=some (.bool (!decide (a=b))):=by simp only[lM];by_cases h:a=b<;>simp[h]
@[simp]theorem ahR:lM .lss kk a b=some (.bool (decide (a<b))):=rfl
@[simp]theorem ahS:lM .leq kk a b=some (.bool (decide (a<=b))):=rfl
@[simp]theorem ahT:lM .gtr kk a b=some (.bool (decide (b<a))):=rfl
@[simp]theorem ahU:lM .geq kk a b=some (.bool (decide (b<=a))):=rfl
end
@[simp]theorem abm{sz:Nat}{rows:List (List AV)}{i kk n:Nat}:dM st (.qd sz rows i kk) n=rows[i]?.bind λr=>cut r kk n:=by
 simp only[dM];cases rows[i]?<;>rfl
@[simp]theorem abn{id cy i kk n:Nat}:dM st (.ptr id cy i kk) n=match st[id]? with
  |some (.rows v _ rows)=>if v=cy then rows[i]?.bind λr=>cut r kk n else none
  |_=>none:=by
 simp only[dM];cases st[id]? with
 |none=>rfl|some ob=>cases ob with
  |rows v s r=>
   simp only;split;cases r[i]?<;>rfl
   rfl
  |map es=>rfl
@[simp]theorem Y5(b:Bool):AV.cells (.bool b)=[.bool b]:=rfl
@[simp]theorem Xm(b:Bool):AV.cx (.bool b)=true:=rfl
@[simp]theorem abo(kk:IntKind)(n:Int):AV.cells (.int kk n)=[.int kk n]:=rfl
@[simp]theorem Y6(kk:IntKind)(n:Int):AV.cx (.int kk n)=true:=rfl
@[simp]theorem abp(l:List UInt8):AV.cells (.str l)=[.str l]:=rfl
@[simp]theorem Y7(l:List UInt8):AV.cx (.str l)=true:=rfl
@[simp]theorem Ve:AV.cells (.fF)=[.fF]:=rfl
@[simp]theorem TU:AV.cx (.fF)=true:=rfl
@[simp]theorem Xn:AV.cells (.U)=[.U]:=rfl
@[simp]theorem Vf:AV.cx (.U)=true:=rfl
@[simp]theorem Vg:AV.cells (.gn)=[.gn]:=rfl
@[simp]theorem TV:AV.cx (.gn)=true:=rfl
@[simp]theorem Xo:AV.cells (.jc)=[.jc]:=rfl
@[simp]theorem Vh:AV.cx (.jc)=true:=rfl
@[simp]theorem Xp:AV.cells (.ke)=[.ke]:=rfl
@[simp]theorem Vi:AV.cx (.ke)=true:=rfl
@[simp]theorem abq(s:Nat)(r:List (List AV)):AV.cells (.dL s r)=[.dL s r]:=rfl
@[simp]theorem Y8(s:Nat)(r:List (List AV)):AV.cx (.dL s r)=true:=rfl
@[simp]theorem abr(s:Nat)(r:List (List AV)):AV.cells (.iO s r)=[.iO s r]:=rfl
@[simp]theorem Y9(s:Nat)(r:List (List AV)):AV.cx (.iO s r)=true:=rfl
@[simp]theorem abt:AV.cells (.mK)=[.mK]:=rfl
@[simp]theorem Za:AV.cx (.mK)=true:=rfl
@[simp]theorem adK(a b:Nat):AV.cells (.mu a b)=[.mu a b]:=rfl
@[simp]theorem abu(a b:Nat):AV.cx (.mu a b)=true:=rfl
@[simp]theorem abv(a b c d:Nat):AV.cells (.ptr a b c d)=[.ptr a b c d]:=rfl
@[simp]theorem Zb(a b c d:Nat):AV.cx (.ptr a b c d)=true:=rfl
@[simp]theorem abw(a:Nat)(r:List (List AV))(c d:Nat):AV.cells (.qd a r c d)=[.qd a r c d]:=rfl
@[simp]theorem Zc(a:Nat)(r:List (List AV))(c d:Nat):AV.cx (.qd a r c d)=true:=rfl
@[simp]theorem abx(a:Nat):AV.cells (.map a)=[.map a]:=rfl
@[simp]theorem Zd(a:Nat):AV.cx (.map a)=true:=rfl
@[simp]theorem adL(f:Nat)(a b:List AV):AV.cells (.fn f a b)=[.fn f a b]:=rfl
@[simp]theorem aby(f:Nat)(a b:List AV):AV.cx (.fn f a b)=true:=rfl
@[simp]theorem Ze:AV.cells (.gone)=[.gone]:=rfl
@[simp]theorem Xq:AV.cx (.gone)=true:=rfl
@[simp]theorem abz(cs:List AV):AV.cells (.agg cs)=cs:=rfl
@[simp]theorem Vj:AV.bq []=true:=rfl
@[simp]theorem TW(a:AV)(l:List AV):AV.bq (a::l)=(a.cx&&AV.bq l):=rfl
attribute [simp] gv iV ag
theorem dZ{n:Int}(h1 : -9223372036854775808<=n)(h2:n<=9223372036854775807):IntKind.i64.wrap n=n:=IntWalk.i64_in n ⟨h1,h2⟩
theorem wk(k:Nat)(h:k<9000000000000000000):IntKind.i64.wrap ((k:Int)+1)=((k+1:Nat):Int):=by rw[dZ]<;>omega
end Ax
namespace Ax
open Go
variable {S:Nat->Option aH}{wl af:Nat}{rs:List iE}{Q:Ex->St->Prop}{k:List qv}{st:aj}{bx:bF}
def zM(rs:List iE)(m:Mode)(st:aj)(r:AV×aj)(x:Ex)(s:St):Prop:=∃v,Fa rs x s=some v/\m.lG st v s.st=some r
theorem ay{f:Nat}{sf:aH}(hf:S f=some sf){args:List AV}(ha:zi sf args=false)(hl:args.length=sf.aF){r:AV×aj}
  (h:W S (sf.mode.u7 st.length wl) (sf.mode.oB st.length af) sf.results (zM sf.results sf.mode st r) [.code sf.body] .normal (pF sf args st)) :
  (bh S).call wl af f args st=some r:=Om hf ha hl h
@[simp]theorem Jl{m:Mode}{r:AV×aj}{v:AV}{s:St}:zM rs m st r (.ret v) s↔m.lG st v s.st=some r:=by
 simp[zM,Fa]
@[simp]theorem Jm{m:Mode}{r:AV×aj}{s:St}:zM rs m st r .normal s↔∃v,xQ s rs=some v/\m.lG st v s.st=some r:=Iff.rfl
def Jn(rs:List iE)(v:AV)(x:Ex)(s:St):Prop:=Fa rs x s=some v
@[simp]theorem abA{v u:AV}{s:St}:Jn rs v (.ret u) s↔u=v:=by simp[Jn,Fa]
@[simp]theorem abB{v:AV}{s:St}:Jn rs v .normal s↔xQ s rs=some v:=Iff.rfl
theorem bL{f:Nat}{sf:aH}(hf:S f=some sf)(hm:sf.mode=.pure){args:List AV}(hp:AV.ai args=true)(hl:args.length=sf.aF){v:AV}(hv:v.ax=true)
  (h:W S 0 0 sf.results (Jn sf.results v) [.code sf.body] .normal (pF sf args [])) :
  (bh S).call wl af f args st=some (v,st):=On hf hm hp hl hv h
theorem adM{α:Type}{c b:bw}(h:c=b)(f:α->St)(I:α->Prop)(μ:α->Nat)
  (round:∀a,I a->(∀a',I a'->μ a'<μ a->W S wl af rs Q (.code (.loop c)::k) .normal (f a'))->W S wl af rs Q (.code b::.uU c::k) .normal (f a)) :
  ∀a,I a->W S wl af rs Q (.code (.loop c)::k) .normal (f a):=by
 have key:∀n a,μ a=n->I a->W S wl af rs Q (.code (.loop c)::k) .normal (f a):=by
  intro n;induction n using Nat.strongRecOn with
  |_ n ih=>
   intro a hn ha;rw[qx h];exact round a ha λa' h' aW=>ih (μ a') (by omega) a' rfl h'
 exact λa ha=>key _ a rfl ha
def aM:AV->List (List AV)
 |.dL _ r|.iO _ r=>r|_=>[]
def aD:AV->Bool
 |.U|.mK|.dL _ _|.iO _ _=>true|_=>false
def bX(sz:Nat):AV->Bool
 |.U|.mK=>true|.dL s r|.iO s r=>s==sz&&bN sz r|_=>false
@[simp]theorem DO(v:AV):aM v.view=aM v:=by cases v<;>simp[aM,AV.view]
@[simp]theorem jY(v:AV):aD v.view=aD v:=by cases v<;>simp[aD,AV.view]
@[simp]theorem AU(sz:Nat)(v:AV):bX sz v.view=bX sz v:=by cases v<;>simp[bX,AV.view]
@[simp]theorem abC:aM .U=[]:=rfl
@[simp]theorem abD:aM .mK=[]:=rfl
@[simp]theorem Oo{sz:Nat}{r:List (List AV)}:aM (.dL sz r)=r:=rfl
@[simp]theorem Oq{sz:Nat}{r:List (List AV)}:aM (.iO sz r)=r:=rfl
@[simp]theorem adN:aD .U=true:=rfl
@[simp]theorem adO:aD .mK=true:=rfl
@[simp]theorem adP{sz:Nat}{r:List (List AV)}:aD (.dL sz r)=true:=rfl
@[simp]theorem adQ{sz:Nat}{r:List (List AV)}:aD (.iO sz r)=true:=rfl
@[simp]theorem adR{sz:Nat}:bX sz .U=true:=rfl
@[simp]theorem adS{sz:Nat}:bX sz .mK=true:=rfl
@[simp]theorem gf{sz s:Nat}{r:List (List AV)}:bX sz (.dL s r)=(s==sz&&bN sz r):=rfl
@[simp]theorem adT{sz s:Nat}{r:List (List AV)}:bX sz (.iO s r)=(s==sz&&bN sz r):=rfl
theorem pg{sz:Nat}{v:AV}(h:bX sz v=true):aD v=true:=by cases v<;>simp_all [bX,aD]
@[simp]theorem abE{v:AV}(h:aD v=true):fJ st v=some (aM v):=by cases v<;>simp_all [aD,aM]
@[simp]theorem Xr{v:AV}(h:aD v=true):dY st v=some (aM v):=by cases v<;>simp_all [aD,aM]
@[simp]theorem afU{sz:Nat}{v:AV}{i:Int}(h:bX sz v=true):Cj sz st v i=if 0<=i/\i<(aM v).length then some (.qd sz (aM v) i.toNat 0) else none:=by
 by_cases hi:0<=i/\i<(aM v).length
 ·rw[if_pos hi];cases v<;>simp[bX]at h
  case U=>have:=hi.2;simp[aM]at this;omega
  case mK=>have:=hi.2;simp[aM]at this;omega
  case dL s r=>simp only[Cj,aM];rw[if_pos ⟨h.1,hi⟩]
  case iO s r=>simp only[Cj,aM];rw[if_pos ⟨h.1,hi⟩]
 ·rw[if_neg hi];cases v<;>simp[bX]at h
  case U=>rfl
  case mK=>rfl
  case dL s r=>simp only[Cj];rw[if_neg λc=>hi c.2]
  case iO s r=>simp only[Cj];rw[if_neg λc=>hi c.2]
mutual
theorem DP:∀v:AV,v.view.view=v.view
 |.iO _ _=>rfl|.raw _ _=>rfl|.agg cs=>by simp only[AV.view];rw[v8 cs]|.fm cs=>by simp only[AV.view];rw[v8 cs]|.undef|.gone|.bool _|.int _ _|.str _|.fF|.U|.gn|.jc|.ke|.dL _ _|.mK|.mu _ _|.ptr _ _ _ _|.qd _ _ _ _|.map _|.fn _ _ _=>rfl
theorem v8:∀cs:List AV,AV.cq (AV.cq cs)=AV.cq cs
 |[]=>rfl|c::cs=>by simp only[AV.cq];rw[DP c,v8 cs]
end
@[simp]theorem oK(v:AV):v.view.view=v.view:=DP v
@[simp]theorem ck{v:AV}(h:aD v=true):v.ax=true:=by cases v<;>simp_all [aD]
@[simp]theorem adU{v:AV}(h:aD v=true):v.cells=[v]:=by cases v<;>simp_all [aD,AV.cells]
@[simp]theorem bU{v:AV}(h:aD v=true):v.cx=true:=by cases v<;>simp_all [aD,AV.cx]
def bD(sz:Nat)(r:List (List AV)):AV:=if r.isEmpty then .U else .iO sz r
@[simp]theorem pN{sz:Nat}{r:List (List AV)}:aM (bD sz r)=r:=by
 cases r<;>rfl
@[simp]theorem bY{sz:Nat}{r:List (List AV)}:aD (bD sz r)=true:=by
 cases r<;>rfl
@[simp]theorem xu{sz:Nat}{r:List (List AV)}:bX sz (bD sz r)=bN sz r:=by
 cases r<;>simp[bD,bX,bN]
theorem jB{sz:Nat}:bD sz []=.U:=rfl
theorem dV{sz bytes:Nat}{r new:List (List AV)}(hf:bN sz new=true)(hr:(r.length+new.length)*bytes<=cR):nH sz bytes (bD sz r) new=some (bD sz (r++new)):=by
 unfold nH;rw[if_pos hf];cases r with
 |nil=>
  cases new with
  |nil=>rfl|cons a l=>simp only[bD,List.isEmpty_nil,if_true,List.isEmpty_cons,Bool.false_eq_true,if_false,List.nil_append];rw[if_pos (by simpa using hr)]
 |cons b r=>simp only[bD,List.isEmpty_cons,Bool.false_eq_true,if_false,List.cons_append];rw[if_pos ⟨trivial,hr⟩]
def DQ(v:AV)(lo hi:Nat):AV:=match v with
 |.dL s r|.iO s r=>.dL s ((r.take hi).drop lo)|x=>x
@[simp]theorem abF{sz:Nat}{v:AV}{lo hi:Int}(h:bX sz v=true):ko false sz v lo hi none=if 0<=lo/\lo<=hi/\hi<=(aM v).length then some (DQ v lo.toNat hi.toNat) else none:=by
 by_cases hc:0<=lo/\lo<=hi/\hi<=(aM v).length
 ·rw[if_pos hc];cases v<;>simp[bX]at h
  case U=>
   simp[aM]at hc;have:lo=0/\hi=0:=by omega
   obtain⟨rfl,rfl⟩:=this
   rfl
  case mK=>
   simp[aM]at hc;have:lo=0/\hi=0:=by omega
   obtain⟨rfl,rfl⟩:=this
   rfl
  case dL s r=>simp only[aM]at hc;simp[ko,DQ,h.1,hc]
  case iO s r=>simp only[aM]at hc;simp[ko,DQ,h.1,hc]
 ·rw[if_neg hc];cases v<;>simp[bX]at h
  case U=>
   simp only[ko];refine if_neg λh=>hc ?_;simp at h;obtain⟨rfl,rfl⟩:=h;simp[aM]
  case mK=>
   simp only[ko];refine if_neg λh=>hc ?_;simp at h;obtain⟨rfl,rfl⟩:=h;simp[aM]
  case dL s r=>
   simp only[ko];refine if_neg λh=>hc ?_;simp at h;simp only[aM];exact⟨h.1.1.2,h.1.2,h.2⟩
  case iO s r=>
   simp only[ko];refine if_neg λh=>hc ?_;simp at h;simp only[aM];exact⟨h.1.1.2,h.1.2,h.2⟩
@[simp]theorem adV{v:AV}{lo hi:Nat}(h:aD v=true):aD (DQ v lo hi)=true:=by
 cases v<;>simp_all [aD,DQ]
@[simp]theorem Ot{v:AV}{lo hi:Nat}(h:aD v=true):aM (DQ v lo hi)=((aM v).take hi).drop lo:=by
 cases v<;>simp_all [aD,DQ,aM]
theorem QW{sz lo hi:Nat}{r:List (List AV)}(h:bN sz r=true):bN sz ((r.take hi).drop lo)=true:=by
 simp only[bN,List.all_eq_true]at *;exact λx hx=>h x (List.mem_of_mem_take (List.mem_of_mem_drop hx))
@[simp]theorem QX{sz:Nat}{v:AV}{lo hi:Nat}(h:bX sz v=true):bX sz (DQ v lo hi)=true:=by
 cases v<;>simp_all [bX,DQ,QW]
def bQ(xs:List Int):List (List AV):=xs.map λn=>[.int .i64 n]
def dI(v:AV):List Int:=(aM v).map λr=>match r with | [.int .i64 n]=>n|_=>0
def CG(v:AV):Bool:=bX 1 v&&(aM v).all λr=>match r with | [.int .i64 _]=>true|_=>false
theorem Hu(xs:List Int):((bQ xs).map λr=>match r with | [AV.int .i64 n]=>n|_=>(0:Int))=xs:=by
 induction xs with
 |nil=>rfl|cons x xs ih=>simp only[bQ,List.map_cons]at *;rw[ih]
@[simp]theorem adW(xs:List Int):(bQ xs).length=xs.length:=by simp[bQ]
@[simp]theorem adX(xs:List Int)(i:Nat)(h:i<(bQ xs).length):(bQ xs)[i]=[.int .i64 (xs[i]'(by simpa using h))]:=by simp[bQ]
@[simp]theorem abG(xs:List Int):bN 1 (bQ xs)=true:=by simp[bN,bQ]
@[simp]theorem abH(xs:List Int)(k:Nat):List.take k (bQ xs)=bQ (xs.take k):=by simp[bQ]
@[simp]theorem Zf(xs:List Bool)(k:Nat):List.take k (xs.map λb=>[AV.bool b])=(xs.take k).map λb=>[AV.bool b]:=by simp
@[simp]theorem abI(xs:List Int)(k:Nat):List.drop k (bQ xs)=bQ (xs.drop k):=by simp[bQ]
@[simp]theorem Xs(xs ys:List Int):bQ xs++bQ ys=bQ (xs++ys):=by simp[bQ]
@[simp]theorem Vk(xs:List Int)(n:Int):bQ xs++[[.int .i64 n]]=bQ (xs++[n]):=by simp[bQ]
@[simp]theorem adY(v:AV):CG v.view=CG v:=by simp[CG]
@[simp]theorem afV(v:AV):dI v.view=dI v:=by simp[dI]
@[simp]theorem Zg{v:AV}(h:CG v=true):bX 1 v=true:=by simp only[CG,Bool.and_eq_true]at h;exact h.1
@[simp]theorem QY{v:AV}(h:CG v=true):aD v=true:=pg (Zg h)
@[simp]theorem ahV(xs:List Int):CG (bD 1 (bQ xs))=true:=by simp[CG,bQ,bN]
@[simp]theorem akK(xs:List Int):dI (bD 1 (bQ xs))=xs:=by simp only[dI,pN];exact Hu xs
@[simp]theorem afW:CG .U=true:=rfl
@[simp]theorem ahW:dI .U=[]:=rfl
@[simp]theorem afX(xs:List Int):CG (.dL 1 (bQ xs))=true:=by simp[CG,bQ,bN]
@[simp]theorem ahX(xs:List Int):dI (.dL 1 (bQ xs))=xs:=by simp only[dI,Oo];exact Hu xs
@[simp]theorem afY(xs:List Int):CG (.iO 1 (bQ xs))=true:=by simp[CG,bQ,bN]
@[simp]theorem ahY(xs:List Int):dI (.iO 1 (bQ xs))=xs:=by simp only[dI,Oq];exact Hu xs
@[simp]theorem afZ{v:AV}{lo hi:Nat}(h:CG v=true):CG (DQ v lo hi)=true:=by
 have h0:=QY h;simp only[CG,Bool.and_eq_true,List.all_eq_true]at *;refine⟨QX h.1,λr hr=>?_⟩;rw[Ot h0]at hr;exact h.2 r (List.mem_of_mem_take (List.mem_of_mem_drop hr))
@[simp]theorem ahZ{v:AV}{lo hi:Nat}(h:CG v=true):dI (DQ v lo hi)=((dI v).take hi).drop lo:=by
 simp[dI,QY h,List.map_take,List.map_drop]
@[simp]theorem adZ(n:Int):CG (.iO 1 [[.int .i64 n]])=true:=rfl
@[simp]theorem ad0(n:Int):CG (.dL 1 [[.int .i64 n]])=true:=rfl
@[simp]theorem ad1(a b:Int):CG (.dL 1 [[.int .i64 a],[.int .i64 b]])=true:=rfl
@[simp]theorem af0(a b:Int):dI (.dL 1 [[.int .i64 a],[.int .i64 b]])=[a,b]:=rfl
@[simp]theorem ad2(a b c:Int):CG (.dL 1 [[.int .i64 a],[.int .i64 b],[.int .i64 c]])=true:=rfl
@[simp]theorem af1(a b c:Int):dI (.dL 1 [[.int .i64 a],[.int .i64 b],[.int .i64 c]])=[a,b,c]:=rfl
@[simp]theorem af2(n:Int):dI (.dL 1 [[.int .i64 n]])=[n]:=rfl
def fT(xs:List Bool):List (List AV):=xs.map λb=>[.bool b]
@[simp]theorem abJ(xs:List Bool):(fT xs).length=xs.length:=by simp[fT]
@[simp]theorem abK(xs:List Bool)(i:Nat)(h:i<(fT xs).length):(fT xs)[i]=[.bool (xs[i]'(by simpa using h))]:=by simp[fT]
@[simp]theorem abL(xs:List Bool)(i:Nat)(b:Bool):(fT xs).set i [.bool b]=fT (xs.set i b):=by simp[fT]
@[simp]theorem st0{α:Type}(st:List α)(a:α)(l:List α):(st++a::l)[st.length]?=some a:=by simp
@[simp]theorem kL{α:Type}(st:List α)(a b:α)(l:List α):(st++a::b::l)[st.length+1]?=some b:=by
 rw[List.getElem?_append_right (by omega)];simp
@[simp]theorem kO{α:Type}(st:List α)(a b c:α)(l:List α):(st++a::b::c::l)[st.length+2]?=some c:=by
 rw[List.getElem?_append_right (by omega)];simp
@[simp]theorem ah0{α:Type}(st:List α)(a x:α)(l:List α):(st++a::l).set st.length x=st++x::l:=by simp
@[simp]theorem ah1{α:Type}(st:List α)(a b x:α)(l:List α):(st++a::b::l).set (st.length+1) x=st++a::x::l:=by
 rw[List.set_append_right _ _ (by omega)];simp
@[simp]theorem amu{α:Type}(st:List α)(a b c x:α)(l:List α):(st++a::b::c::l).set (st.length+2) x=st++a::b::x::l:=by
 rw[List.set_append_right _ _ (by omega)];simp
end Ax
namespace Ax
open Go
theorem bf{S:Nat->Option aH}{wl af:Nat}{rs:List iE}{Q:Ex->St->Prop}{k:List qv}{α:Type}{c b:bw}{s:St}(h:c=b)(f:α->St)(I:α->Prop)(μ:α->Nat)(a0:α)(hs:s=f a0)(h0:I a0)
  (round:∀a,I a->(∀a',I a'->μ a'<μ a->W S wl af rs Q (.code (.loop c)::k) .normal (f a'))->W S wl af rs Q (.code b::.uU c::k) .normal (f a)) :
  W S wl af rs Q (.code (.loop c)::k) .normal s:=by
 subst hs;exact adM h f I μ round a0 h0
def PK(v:AV):List AV:=(aM v).map λr=>r.headD .undef
def DR(v:AV):Bool:=bX 1 v&&(aM v).all λr=>match r with | [x]=>CG x|_=>false
def dII(v:AV):List (List Int):=(PK v).map dI
theorem QZ{v:AV}(h:DR v=true):aM v=(PK v).map λx=>[x]:=by
 simp only[DR,Bool.and_eq_true,List.all_eq_true]at h;unfold PK;rw[List.map_map];conv=>lhs;rw[<-List.map_id (aM v)]
 refine List.map_congr_left λr hr=>?_;have:=h.2 r hr;split at this
 rfl
 cases this
theorem Zh{v:AV}(h:DR v=true):∀x∈PK v,CG x=true:=by
 intro x hx;have h1:=QZ h;simp only[DR,Bool.and_eq_true,List.all_eq_true]at h;have:[x]∈aM v:=by rw[h1];exact List.mem_map.2 ⟨x,hx,rfl⟩
 exact h.2 _ this
@[simp]theorem ad4(v:AV):PK v.view=PK v:=by simp[PK]
@[simp]theorem abM(v:AV):DR v.view=DR v:=by simp[DR]
@[simp]theorem ad5(v:AV):dII v.view=dII v:=by simp[dII]
@[simp]theorem Vl{v:AV}(h:DR v=true):bX 1 v=true:=by simp only[DR,Bool.and_eq_true]at h;exact h.1
@[simp]theorem af3{v:AV}(h:DR v=true):aD v=true:=pg (Vl h)
@[simp]theorem af4(v:AV):(dII v).length=(PK v).length:=by simp[dII]
@[simp]theorem af5{v:AV}(h:DR v=true)(i:Nat)(hi:i<(PK v).length):CG (PK v)[i]=true:=Zh h _ (List.getElem_mem _)
end Ax
namespace Ax
@[simp]theorem cast_eq(a b:Nat):((a:Int)=(b:Int))↔a=b:=Int.natCast_inj
end Ax
namespace Ax
open Go
end Ax
namespace Ax
open Go
variable {P:Program}
theorem Zi{t:TypeId}{as:List AV}(h1:P.underlying t=some .string)(h:Ty P t as):∃l:List UInt8,as=[.str l]/\l.length<=maxLen:=by
 cases h with
 |str hu l hl=>exact⟨l,rfl,hl⟩|bool hu=>rw[h1]at hu;cases hu|int hu=>rw[h1]at hu;cases hu|U hu=>rw[h1]at hu;cases hu|mK hu=>rw[h1]at hu;cases hu|dL hu=>rw[h1]at hu;cases hu|adm hu=>rw[h1]at hu;cases hu
theorem Vm{t:TypeId}{a:AV}(h1:∀fs,P.underlying t≠some (.struct fs))(h:TyV P t a):Ty P t [a]:=by
 rcases h with⟨fs,as,h2,_⟩|⟨_,h2⟩;exact absurd h2 (h1 fs);exact h2
theorem Q0{t:TypeId}{as:List AV}(h:UP P [t] as):∃a,as=[a]/\TyV P t a:=by
 match as,h with
 |[a],h=>exact⟨a,rfl,h.1⟩
end Ax
namespace Ax
open Go
noncomputable def Q1 (env:pX) (t:Nat):fq:=List.rec (motive:=λ_=>fq) fq.none (λp _ ih=>match Nat.beq p.1 t with|true=>p.2|false=>ih) env
noncomputable def ad6 (env:pX) (t:Nat) (e:fq):pX:=List.rec (motive:=λ_=>pX) [(t,e)] (λp r ih=>match Nat.ble p.1 t with
  |false=>(t,e)::p::r|true=>match Nat.beq p.1 t with
   |true=>(t,e)::r|false=>p::ih) env
noncomputable def Xt (env:pX) (t:Nat):pX:=List.rec (motive:=λ_=>pX) [] (λp _ ih=>match Nat.beq p.1 t with|true=>ih|false=>p::ih) env
noncomputable def Xu (v:AV):AV:=match v with
 |.iO sz rows=>.dL sz rows|.raw _ _=>.gone|.agg cs=>(AV.agg cs).view|.fm cs=>(AV.fm cs).view|v=>v
noncomputable def Q2 (l:List AV):List AV:=List.rec (motive:=λ_=>List AV) [] (λv _ ih=>Xu v::ih) l
noncomputable def ad7 (v:AV):Bool:=match v with
 |.mu _ _|.ptr _ _ _ _|.map _=>false|.agg cs=>(AV.agg cs).ax|.fm cs=>(AV.fm cs).ax|.fn f a b=>(AV.fn f a b).ax|_=>true
noncomputable def Zj (l:List AV):Bool:=List.rec (motive:=λ_=>Bool) true (λv _ ih=>match ad7 v with|true=>ih|false=>false) l
noncomputable def ad8 (e:fq):fq:=match e with|.val v=>.val (Xu v)|.none=>.none|.fp j k=>.fp j k
noncomputable def ad9 (env:pX) (x:Src):fq:=match x with
 |.tmp t mv=>match mv with|true=>Q1 env t|false=>ad8 (Q1 env t)
 |.const a=>.val a
noncomputable def K6 (env:pX) (x:Src):pX:=match x with
 |.tmp t mv=>match mv with|true=>Xt env t|false=>env
 |.const _=>env
noncomputable def Hv (l:List Nat) (env:pX):pX:=List.rec (motive:=λ_=>pX->pX) (λenv=>env) (λt _ ih env=>ih (Xt env t)) l env
noncomputable def MO (env:pX) (dst:Option Nat) (e:fq):pX:=match dst with|some d=>ad6 env d e|none=>env
noncomputable def Q3 (env:pX) (g:Option (Nat×Bool)):Option Bool:=match g with
 |none=>some true|some (t,b)=>match Q1 env t with
  |.val (.bool c)=>some (c==b)|.val .undef=>some false|_=>none
noncomputable def aea (env:pX) (l:List Src):List fq:=List.rec (motive:=λ_=>List fq) [] (λx _ ih=>ad9 env x::ih) l
noncomputable def K7 (env:pX) (l:List Src):pX:=List.rec (motive:=λ_=>pX->pX) (λenv=>env) (λx _ ih env=>ih (K6 env x)) l env
noncomputable def ah2 (O:lE) (wl af:Nat) (op:eC) (vals:List fq) (st:aj) (bx:bF):Option (fq×aj×bF):=match op with
 |.move=>match vals with
  |[e]=>some (e,st,bx)|_=>none
 |.load agg n take=>match take with
  |true=>aV wl af (.load agg n true) vals st bx|false=>match vals with
   |[.val p]=>match dM st p n with
    |some cs=>match bP agg (Q2 cs) with|some v=>some (.val v,st,bx)|none=>none
    |none=>none
   |_=>none
 |.fD j agg n take=>match take with
  |true=>aV wl af (.fD j agg n true) vals st bx|false=>match vals with
   |[.fp j' k]=>match Nat.beq j j' with
    |true=>match bx[j]? with
     |some row=>match cut row k n with
      |some cs=>match bP agg (Q2 cs) with|some v=>some (.val v,st,bx)|none=>none
      |none=>none
     |none=>none
    |false=>none
   |_=>none
 |.call f=>gm O wl af (mL (.call f) vals) st bx|.qW=>gm O wl af (mL .qW vals) st bx|op=>aV wl af op vals st bx
noncomputable def Vn (O:lE) (wl af:Nat) (o:aK) (s:St):Option St:=
 match Q3 s.env o.guard with
 |none=>none|some false=>some { s with env:=MO s.env o.dst (.val .undef) }|some true=>
  match ah2 O wl af o.op (aea s.env o.args) s.st s.bx with
  |none=>none|some (e,bV,gC)=>
   match o.op.bg with
   |none=>some ⟨MO (K7 s.env o.args) o.dst e,gC,bV⟩|some j=>if mc j (MO (K7 s.env o.args) o.dst .none) then some ⟨MO (K7 s.env o.args) o.dst e,gC,bV⟩ else none
noncomputable def Jo (O:lE) (wl af:Nat) (l:List aK) (s:St):Option St:=List.rec (motive:=λ_=>St->Option St) (λs=>some s)
 (λo _ ih s=>match Vn O wl af o s with|some s'=>ih s'|none=>none) l s
noncomputable def Ou (O:lE) (wl af:Nat) (dG:List aK) (cn:List (Nat×Nat)) (s:St):Option St:=match cn with
 |[]=>match dG.all (bG s.env) with
  |true=>Jo O wl af dG s|false=>none
 |p::l=>iB O wl af dG (p::l) s
noncomputable def Vo (env:pX) (c:Src):Option Bool:=
 match ad9 env c with
 |.val (.bool b)=>some b|_=>none
noncomputable def aeb (O:lE) (wl af:Nat) (rs:List iE) (c:bw):St->Option (Ex×St):=bw.rec (motive:=λ_=>St->Option (Ex×St))
 (λs=>some (Ex.normal,s))
 (λdG draw dj s=>
  match (match draw with|none=>Jo O wl af dG s|some cn=>Ou O wl af dG cn s) with
  |some s'=>some (Ex.normal,{ s' with env:=Hv dj s'.env })|none=>none)
 (λ_ _ ia ib s=>match ia s with
  |some (Ex.normal,s')=>ib s'|r=>r)
 (λc ca _ cb _ ia ib s=>match Vo s.env c with
  |some true=>ia { s with env:=Hv ca (K6 s.env c) }|some false=>ib { s with env:=Hv cb (K6 s.env c) }|none=>none)
 (λid _ ic s=>match ic s with
  |some (Ex.exit id',s')=>if id'=id then some (Ex.normal,s') else some (Ex.exit id',s')
  |r=>r)
 (λc _ s=>O.loop wl af rs c s)
 (λid s=>some (Ex.exit id,s))
 (λs=>match xQ s rs with|some v=>some (Ex.ret v,⟨[],[],s.st⟩)|none=>none)
 (λt s=>iW O wl af rs (.TM t) s)
 (λj k s=>iW O wl af rs (.E8 j k) s)
 (λt off s=>iW O wl af rs (.u6 t off) s) c
noncomputable def DS (O:lE) (wl af:Nat) (sf:aH) (args:List AV) (st:aj):Option (AV×aj):=
 match Nat.beq args.length sf.aF with
 |true=>match aeb O (sf.mode.u7 st.length wl) (sf.mode.oB st.length af) sf.results sf.body (pF sf args st) with
  |some (x,s)=>match Fa sf.results x s with
   |some v=>sf.mode.lG st v s.st|none=>none
  |none=>none
 |false=>none
noncomputable def Ov (O:lE) (wl af:Nat) (sf:aH) (args:List AV) (st:aj):Option (AV×aj):=
 match (match sf.mode with|.pure=>Zj args|_=>false) with
 |true=>(match DS O 0 0 sf args [] with|some r=>some (r.1,st)|none=>none)
 |false=>DS O wl af sf args st
noncomputable def amv (S:Nat->Option aH) (n:Nat):lE:=Nat.rec (motive:=λ_=>lE)
 ⟨λ_ _ _ _ _=>none,λ_ _ _ _ _=>none⟩
 (λ_ ih=>⟨λwl af f args st=>match S f with
   |some sf=>Ov ih wl af sf args st|none=>none,
   λwl af rs c s=>match aeb ih wl af rs c s with
   |some (Ex.normal,s')=>ih.loop wl af rs c s'|r=>r⟩) n
end Ax
namespace Ax
@[simp]abbrev Src.t(n:Nat):Src:=.tmp n false
@[simp]abbrev Src.T(n:Nat):Src:=.tmp n true
@[simp]abbrev aK.o(d:Nat)(op:eC)(args:List Src):aK:=⟨some d,op,args,none⟩
@[simp]abbrev aK.n(op:eC)(args:List Src):aK:=⟨none,op,args,none⟩
@[simp]abbrev aK.y(d:Nat)(op:eC)(args:List Src)(t:Nat):aK:=⟨some d,op,args,some (t,true)⟩
@[simp]abbrev aK.z(d:Nat)(op:eC)(args:List Src)(t:Nat):aK:=⟨some d,op,args,some (t,false)⟩
@[simp]abbrev Src.b(x:Bool):Src:=.const (.bool x)
@[simp]abbrev AV.i(n:Int):AV:=.int .i64 n
@[simp]abbrev Src.i(n:Int):Src:=.const (.int .i64 n)
@[simp]abbrev aK.m(d:Nat)(a:Src):aK:=⟨some d,.move,[a],none⟩
@[simp]abbrev aK.f(d k:Nat)(a:Src):aK:=⟨some d,.fieldAddr k,[a],none⟩
@[simp]abbrev aK.l(d i:Nat)(a:Src):aK:=⟨some d,.fD i false 1 false,[a],none⟩
@[simp]abbrev aK.d(d:Nat)(a:Src):aK:=⟨some d,.load false 1 false,[a],none⟩
@[simp]abbrev bw.r:=bw.region
@[simp]abbrev aK.c(d f:Nat)(args:List Src):aK:=⟨some d,.call f,args,none⟩
@[simp]abbrev bw.g(l:List aK)(c:List Nat):bw:=.region l none c
end Ax
