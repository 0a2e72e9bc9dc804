/- Part of a proof. -/
import Derived.Test.YtachcambnjecnaaGreatA5
import Derived.IntWalk

namespace Ax
open Go
inductive qy where
 |dJ (l:List aK) (dm:List Nat)
 |code (c:bw)
 |jF (id:Nat)
 |uW (c:bw)
def oL(O:lE)(wl af:Nat)(rs:List iE):List qy->Ex->St->Option (Ex×St)
 |[],x,s=>some (x,s)|.jF id::k,x,s=>match x with
  |.normal=>oL O wl af rs k .normal s|.exit i=>if i=id then oL O wl af rs k .normal s else oL O wl af rs k (.exit i) s
  |.ret v=>oL O wl af rs k (.ret v) s
 |.dJ l dm::k,x,s=>match x with
  |.normal=>match gw O wl af l s with|some s'=>oL O wl af rs k .normal { s' with env:=jI dm s'.env } | none=>none
  |x=>oL O wl af rs k x s
 |.code c::k,x,s=>match x with
  |.normal=>match iW O wl af rs c s with|some (x',s')=>oL O wl af rs k x' s'|none=>none
  |x=>oL O wl af rs k x s
 |.uW c::k,x,s=>match x with
  |.normal=>match iW O wl af rs (.loop c) s with|some (x',s')=>oL O wl af rs k x' s'|none=>none
  |x=>oL O wl af rs k x s
def W(S:Nat->Option aH)(wl af:Nat)(rs:List iE)(Q:Ex->St->Prop)(k:List qy)(x:Ex)(s:St):Prop:=∃x' s',oL (bh S) wl af rs k x s=some (x',s')/\Q x' s'
variable {S:Nat->Option aH}{wl af:Nat}{rs:List iE}{Q:Ex->St->Prop}{k:List qy}{s:St}
theorem adv{x:Ex}:W S wl af rs Q [] x s↔Q x s:=by
 unfold W oL;constructor;rintro⟨x',s',h,hq⟩;cases h;exact hq;intro h;exact⟨x,s,rfl,h⟩
theorem adw{id:Nat}:W S wl af rs Q (.jF id::k) .normal s↔W S wl af rs Q k .normal s:=Iff.rfl
theorem YQ{id i:Nat}:W S wl af rs Q (.jF id::k) (.exit i) s↔if i=id then W S wl af rs Q k .normal s else W S wl af rs Q k (.exit i) s:=by
 unfold W;simp only[oL];split<;>exact Iff.rfl
theorem YR{id:Nat}{v:AV}:W S wl af rs Q (.jF id::k) (.ret v) s↔W S wl af rs Q k (.ret v) s:=Iff.rfl
theorem YS{l:List aK}{dm:List Nat}{i:Nat}:W S wl af rs Q (.dJ l dm::k) (.exit i) s↔W S wl af rs Q k (.exit i) s:=Iff.rfl
theorem YT{l:List aK}{dm:List Nat}{v:AV}:W S wl af rs Q (.dJ l dm::k) (.ret v) s↔W S wl af rs Q k (.ret v) s:=Iff.rfl
theorem UY{c:bw}{i:Nat}:W S wl af rs Q (.code c::k) (.exit i) s↔W S wl af rs Q k (.exit i) s:=Iff.rfl
theorem UZ{c:bw}{v:AV}:W S wl af rs Q (.code c::k) (.ret v) s↔W S wl af rs Q k (.ret v) s:=Iff.rfl
theorem QX{c:bw}{i:Nat}:W S wl af rs Q (.uW c::k) (.exit i) s↔W S wl af rs Q k (.exit i) s:=Iff.rfl
theorem QY{c:bw}{v:AV}:W S wl af rs Q (.uW c::k) (.ret v) s↔W S wl af rs Q k (.ret v) s:=Iff.rfl
theorem YU{dm:List Nat}:W S wl af rs Q (.dJ [] dm::k) .normal s↔W S wl af rs Q k .normal { s with env:=jI dm s.env }:=Iff.rfl
theorem ahC{o:aK}{l:List aK}{dm:List Nat}:W S wl af rs Q (.dJ (o::l) dm::k) .normal s↔∃s',jd (bh S) wl af o s=some s'/\W S wl af rs Q (.dJ l dm::k) .normal s':=by
 unfold W;simp only[oL,gw];cases jd (bh S) wl af o s with
 |none=>simp|some s'=>simp
theorem YW:W S wl af rs Q (.code .skip::k) .normal s↔W S wl af rs Q k .normal s:=Iff.rfl
theorem YX{id:Nat}:W S wl af rs Q (.code (.exit id)::k) .normal s↔W S wl af rs Q k (.exit id) s:=Iff.rfl
theorem adx:W S wl af rs Q (.code .ret::k) .normal s↔∃v,xS s rs=some v/\W S wl af rs Q k (.ret v) ⟨[],[],s.st⟩:=by
 unfold W;simp only[oL,iW];cases xS s rs with
 |none=>simp|some v=>simp
theorem ady{a b:bw}:W S wl af rs Q (.code (.seq a b)::k) .normal s↔W S wl af rs Q (.code a::.code b::k) .normal s:=by
 unfold W;simp only[oL,iW];cases h:iW (bh S) wl af rs a s with
 |none=>simp|some y=>
  obtain⟨x,s'⟩:=y;cases x<;>simp
theorem QZ{l:List aK}{dm:List Nat}:W S wl af rs Q (.code (.region l none dm)::k) .normal s↔W S wl af rs Q (.dJ l dm::k) .normal s:=by
 unfold W;simp only[oL,iW];cases h:gw (bh S) wl af l s with
 |none=>simp|some s'=>simp
theorem BJ{O:lE}:∀{l:List aK}{s:St},(dS O wl af l s).map (·.1)=gw O wl af l s
 |[],s=>rfl|o::l,s=>by
  simp only[dS,gw];cases h:jd O wl af o s with
  |none=>rfl|some s'=>
   simp only;rw[<-BJ (l:=l) (s:=s')];cases dS O wl af l s' with
   |none=>rfl|some y=>rfl
def an:List aK->Bool
 |[]=>true|o::l=>(match o.op.bg with|some _=>false|none=>true)&&an l
theorem DQ{env:p0}:∀{l:List aK},an l=true->l.all (bG env)=true
 |[],_=>rfl|o::l,h=>by
  simp only[an,Bool.and_eq_true]at h;simp only[List.all_cons,DQ h.2,Bool.and_true];unfold bG;cases hb:o.op.bg with
  |none=>rfl|some j=>rw[hb]at h;simp at h
theorem zN{O:lE}{l:List aK}(h:l.all (bG s.env)=true):iB O wl af l [] s=gw O wl af l s:=by
 unfold iB;rw[<-BJ];cases dS O wl af l s with
 |none=>rfl|some y=>
  obtain⟨e,ga⟩:=y;simp only[List.all_nil,h,Bool.and_self,if_true,Option.map_some]
theorem au{l:List aK}{dm:List Nat}(h:an l=true):W S wl af rs Q (.code (.region l (some []) dm)::k) .normal s↔W S wl af rs Q (.dJ l dm::k) .normal s:=by
 unfold W;simp only[oL,iW,zN (DQ h)];cases h:gw (bh S) wl af l s with
 |none=>simp|some s'=>simp
theorem aV{l:List aK}{dm:List Nat}:W S wl af rs Q (.code (.region l (some []) dm)::k) .normal s↔l.all (bG s.env)=true/\W S wl af rs Q (.dJ l dm::k) .normal s:=by
 by_cases h:l.all (bG s.env)=true;unfold W;simp only[oL,iW,zN h];cases h2:gw (bh S) wl af l s with
 |none=>simp|some s'=>simp[h]
 unfold W;simp only[oL,iW,iB];cases h2:dS (bh S) wl af l s with
 |none=>simp[h]|some y=>obtain⟨e,ga⟩:=y;simp[h]
theorem mW{l:List aK}{cn:List (Nat×Nat)}{dm:List Nat}:W S wl af rs Q (.code (.region l (some cn) dm)::k) .normal s↔
  ∃e ga,dS (bh S) wl af l s=some (e,ga)/\(cn.all (gQ (bh S) wl af l ga)&&l.all (bG s.env))=true/\W S wl af rs Q k .normal { e with env:=jI dm e.env }:=by
 unfold W;simp only[oL,iW,iB];cases h:dS (bh S) wl af l s with
 |none=>simp|some y=>
  obtain⟨e,ga⟩:=y;by_cases hc:(cn.all (gQ (bh S) wl af l ga)&&l.all (bG s.env))=true;simp only[hc,if_true];constructor;rintro⟨x',s',h1,h2⟩;exact⟨e,ga,rfl,hc,x',s',h1,h2⟩;rintro⟨e',ahD,h0,_,x',s',h1,h2⟩;cases h0;exact⟨x',s',h1,h2⟩;simp only[hc];constructor;rintro⟨x',s',h1,_⟩;cases h1;rintro⟨e',ahD,h0,hf,_⟩;cases h0;exact absurd hf hc
theorem YY{c:Src}{ca cb:List Nat}{a b:bw}:W S wl af rs Q (.code (.cond c ca a cb b)::k) .normal s↔
  ∃t,vF s.env c=some t/\W S wl af rs Q (.code (if t then a else b)::k) .normal { s with env:=jI (if t then ca else cb) (oB s.env c) }:=by
 unfold W;simp only[oL,iW];cases vF s.env c with
 |none=>simp|some t=>cases t<;>simp
theorem U0{id:Nat}{c:bw}:W S wl af rs Q (.code (.block id c)::k) .normal s↔W S wl af rs Q (.code c::.jF id::k) .normal s:=by
 unfold W;simp only[oL,iW];cases h:iW (bh S) wl af rs c s with
 |none=>simp|some y=>
  obtain⟨x,s'⟩:=y;cases x with
  |normal=>simp|exit i=>by_cases hi:i=id<;>simp[hi]|ret v=>simp
theorem YZ{c:bw}:W S wl af rs Q (.code (.loop c)::k) .normal s↔W S wl af rs Q (.code c::.uW c::k) .normal s:=by
 unfold W;simp only[oL,iW];rw[NP];cases h:iW (bh S) wl af rs c s with
 |none=>simp|some y=>
  obtain⟨x,s'⟩:=y;cases x<;>simp
theorem La{t off:Nat}:W S wl af rs Q (.code (.vg t off)::k) .normal s↔∃id cz i k' v v' kM kP,dj s.env t=.val (.ptr id cz i k')/\dA s.st (.ptr id cz i (k'+off)) 1=some [v]/\o9 wl v s.st=some (v',kM)/\
  cu wl af kM (.ptr id cz i (k'+off)) [v']=some kP/\W S wl af rs Q k .normal ⟨s.env,s.bx,kP⟩:=by
 constructor;intro h;unfold W at h;simp only[oL]at h;cases hc:iW (bh S) wl af rs (.vg t off) s with
 |none=>rw[hc]at h;simp at h|some y=>
  obtain⟨x1,s1⟩:=y;rw[hc]at h;obtain⟨rfl,id,cz,i,k',v,v',kM,kP,g1,g2,g3,g4,rfl⟩:=C1 hc;exact⟨id,cz,i,k',v,v',kM,kP,g1,g2,g3,g4,h⟩
 rintro⟨id,cz,i,k',v,v',kM,kP,g1,g2,g3,g4,h⟩;unfold W;simp only[oL,iW,g1,g2,g3,g4];exact h
theorem W.imp{Q':Ex->St->Prop}{x:Ex}(h:W S wl af rs Q k x s)(hq:∀x s,Q x s->Q' x s):W S wl af rs Q' k x s:=by
 obtain⟨x',s',h1,h2⟩:=h;exact⟨x',s',h1,hq _ _ h2⟩
theorem DR{sf:aH}{args:List AV}{st:aj}(hl:args.length=sf.aF){r:AV×aj}
  (h:W S (sf.mode.vh st.length wl) (sf.mode.oC st.length af) sf.results (λx s=>∃v,Fh sf.results x s=some v/\sf.mode.lG st v s.st=some r) [.code sf.body] .normal (pI sf args st)) :
  ff (bh S) wl af sf args st=some r:=by
 simp only[ff,hl,if_true];obtain⟨x',s',h1,v,h2,h3⟩:=h;simp only[oL]at h1;cases hs:iW (bh S) (sf.mode.vh st.length wl) (sf.mode.oC st.length af) sf.results sf.body (pI sf args st) with
 |none=>rw[hs]at h1;cases h1|some y=>
  obtain⟨x,s⟩:=y;rw[hs]at h1;simp only at h1;cases h1;simp only[h2,h3]
theorem Ou{f:Nat}{sf:aH}(hf:S f=some sf){args:List AV}{st:aj}(ha:zk sf args=false)(hl:args.length=sf.aF){r:AV×aj}
  (h:W S (sf.mode.vh st.length wl) (sf.mode.oC st.length af) sf.results (λx s=>∃v,Fh sf.results x s=some v/\sf.mode.lG st v s.st=some r) [.code sf.body] .normal (pI sf args st)) :
  (bh S).call wl af f args st=some r:=by
 rw[FG,hf];simp only[fQ,ha,Bool.false_eq_true,if_false];exact DR hl h
theorem Ov{f:Nat}{sf:aH}(hf:S f=some sf)(hm:sf.mode=.pure){args:List AV}{st:aj}(hp:AV.ai args=true)(hl:args.length=sf.aF){v:AV}(hv:v.ax=true)
  (h:W S 0 0 sf.results (λx s=>Fh sf.results x s=some v) [.code sf.body] .normal (pI sf args [])) :
  (bh S).call wl af f args st=some (v,st):=by
 rw[FG,hf];have ha:zk sf args=true:=by simp[zk,hm,hp]
 simp only[fQ,ha,if_true];have:=DR (S:=S) (wl:=0) (af:=0) (sf:=sf) (args:=args) (st:=[]) hl (r:=(v,[])) (by
  rw[hm];obtain⟨x',s',h1,h2⟩:=h;exact⟨x',s',h1,v,h2,by simp[Mode.lG,hv]⟩)
 rw[this]
 rfl
def WO(S:Nat->Option aH)(wl af:Nat)(rs:List iE)(Q:Ex->St->Prop)(l:List aK)(dm:List Nat)(k:List qy):Option St->Prop
 |some s=>W S wl af rs Q (.dJ l dm::k) .normal s|none=>False
def WC(S:Nat->Option aH)(wl af:Nat)(rs:List iE)(Q:Ex->St->Prop)(ca cb:List Nat)(a b:bw)(k:List qy)(s:St):Option Bool->Prop
 |some true=>W S wl af rs Q (.code a::k) .normal { s with env:=jI ca s.env }|some false=>W S wl af rs Q (.code b::k) .normal { s with env:=jI cb s.env }|none=>False
def WV(S:Nat->Option aH)(wl af:Nat)(rs:List iE)(Q:Ex->St->Prop)(k:List qy)(st:aj):Option AV->Prop
 |some v=>W S wl af rs Q k (.ret v) ⟨[],[],st⟩|none=>False
theorem adz{o:aK}{l:List aK}{dm:List Nat}:W S wl af rs Q (.dJ (o::l) dm::k) .normal s↔WO S wl af rs Q l dm k (jd (bh S) wl af o s):=by
 rw[ahC];cases jd (bh S) wl af o s with
 |none=>simp[WO]|some s'=>simp[WO]
theorem U1{c:Src}{ca cb:List Nat}{a b:bw}:W S wl af rs Q (.code (.cond c ca a cb b)::k) .normal s↔WC S wl af rs Q ca cb a b k { s with env:=oB s.env c } (vF s.env c):=by
 rw[YY];cases vF s.env c with
 |none=>simp[WC]|some t=>cases t<;>simp[WC]
theorem Y0:W S wl af rs Q (.code .ret::k) .normal s↔WV S wl af rs Q k s.st (xS s rs):=by
 rw[adx];cases xS s rs with
 |none=>simp[WV]|some v=>simp[WV]
theorem U3{l:List aK}{dm:List Nat}:WO S wl af rs Q l dm k (some s)↔W S wl af rs Q (.dJ l dm::k) .normal s:=Iff.rfl
theorem U4{l:List aK}{dm:List Nat}:WO S wl af rs Q l dm k none↔False:=Iff.rfl
theorem Y1{l:List aK}{dm:List Nat}{c:Prop} [Decidable c]:WO S wl af rs Q l dm k (if c then some s else none)↔c/\W S wl af rs Q (.dJ l dm::k) .normal s:=by
 by_cases h:c<;>simp[h,WO]
theorem U5{ca cb:List Nat}{a b:bw}:WC S wl af rs Q ca cb a b k s (some true)↔W S wl af rs Q (.code a::k) .normal { s with env:=jI ca s.env }:=Iff.rfl
theorem Q0{ca cb:List Nat}{a b:bw}:WC S wl af rs Q ca cb a b k s (some false)↔W S wl af rs Q (.code b::k) .normal { s with env:=jI cb s.env }:=Iff.rfl
theorem U6{st:aj}{v:AV}:WV S wl af rs Q k st (some v)↔W S wl af rs Q k (.ret v) ⟨[],[],st⟩:=Iff.rfl
end Ax
namespace Ax
open Go
attribute [simp ↓] adv adw YQ YR YS YT UY UZ QX QY YU adz YW YX Y0 ady QZ U1 U0
attribute [simp] U3 U4 Y1 U5 Q0 U6
attribute [simp] jd o8 tV Kz oB zj eE.bg jI fq.view AV.view AV.cq sq xS yC CY
 AV.ax AV.ai dj zh IC pI Mode.vh Mode.oC Mode.lG Fh FE vF bM cut jt gm mM mc fq.pH
variable {S:Nat->Option aH}{wl af:Nat}{rs:List iE}{Q:Ex->St->Prop}{k:List qy}{st:aj}{bx:bF}
def qz(st:aj)(bx:bF):Option AV->Option (fq×aj×bF)
 |some v=>some (.val v,st,bx)|none=>none
@[simp]theorem abh{v:AV}:qz st bx (some v)=some (.val v,st,bx):=rfl
@[simp]theorem abi:qz st bx none=none:=rfl
@[simp]theorem adA{c:Prop} [Decidable c]{v:AV}:qz st bx (if c then some v else none)=if c then some (.val v,st,bx) else none:=by by_cases h:c<;>simp[h]
theorem qA{c b:bw}{s:St}(h:c=b):W S wl af rs Q (.code (.loop c)::k) .normal s↔W S wl af rs Q (.code b::.uW c::k) .normal s:=by
 rw[YZ];subst h;exact Iff.rfl
@[simp]theorem Y2:fJ st .U=some []:=rfl
@[simp]theorem Y3:fJ st .mL=some []:=rfl
@[simp]theorem Y4{sz:Nat}{r:List (List AV)}:fJ st (.dM sz r)=some r:=rfl
@[simp]theorem Y5{sz:Nat}{r:List (List AV)}:fJ st (.iO sz r)=some r:=rfl
@[simp]theorem abj{id cz:Nat}:fJ st (.mu id cz)=match st[id]? with|some (.rows v _ rows)=>if v=cz then some rows else none|_=>none:=rfl
@[simp]theorem U8:dZ st .U=some []:=rfl
@[simp]theorem U9:dZ st .mL=some []:=rfl
@[simp]theorem Va{sz:Nat}{r:List (List AV)}:dZ st (.dM sz r)=some r:=rfl
@[simp]theorem Vb{sz:Nat}{r:List (List AV)}:dZ st (.iO sz r)=some r:=rfl
@[simp]theorem Vc{l:List UInt8}:dZ st (.str l)=some (nw l):=rfl
@[simp]theorem adB{l:List UInt8}:ov st .str (.str l)=some l.length:=rfl
@[simp]theorem Ve{v:AV}:ov st .sl v=(fJ st v).map List.length:=by
 cases v<;>simp only[ov]<;>cases fJ st _<;>rfl
@[simp]theorem afM{id:Nat}:ov st .mp (.map id)=match st[id]? with|some (.map es)=>some es.length|_=>none:=rfl
def Cm(sz:Nat)(st:aj)(x:AV)(i:Int):Option AV:=match x with
 |.dM s rows|.iO s rows=>if s=sz/\0<=i/\i<rows.length then some (.qg sz rows i.toNat 0) else none
 |.mu id cz=>match st[id]? with
  |some (.rows v s rows)=>if v=cz/\s=sz/\0<=i/\i<rows.length then some (.ptr id cz i.toNat 0) else none
  |_=>none
 |_=>none
@[simp]theorem adC{sz s:Nat}{r:List (List AV)}{i:Int}:Cm sz st (.dM s r) i=if s=sz/\0<=i/\i<r.length then some (.qg sz r i.toNat 0) else none:=rfl
@[simp]theorem adD{sz s:Nat}{r:List (List AV)}{i:Int}:Cm sz st (.iO s r) i=if s=sz/\0<=i/\i<r.length then some (.qg sz r i.toNat 0) else none:=rfl
@[simp]theorem afN{sz id cz:Nat}{i:Int}:Cm sz st (.mu id cz) i=match st[id]? with|some (.rows v s rows)=>if v=cz/\s=sz/\0<=i/\i<rows.length then some (.ptr id cz i.toNat 0) else none|_=>none:=rfl
def nI(sz bytes:Nat)(s:AV)(new:List (List AV)):Option AV:=
 if bL sz new=true then match s with
  |.U|.mL=>if new.isEmpty then some s else if new.length*bytes<=cT then some (.iO sz new) else none
  |.iO lF kL=>if lF=sz/\(kL.length+new.length)*bytes<=cT then some (.iO sz (kL++new)) else none
  |_=>none else none
@[simp]theorem ahE{e:fq}:aW wl af .move [e] st bx=some (e,st,bx):=rfl
@[simp]theorem ahF{b:Bool}{x y:fq}:aW wl af .pick [.val (.bool b),x,y] st bx=some (if b then x else y,st,bx):=rfl
@[simp]theorem akK{op:BinOp}{x y:AV}:aW wl af (.rV op) [.val x,.val y] st bx=qz st bx (Ca op x y):=by
 simp only[aW];cases Ca op x y<;>rfl
@[simp]theorem akL{kk:EqK}{neg:Bool}{x y:AV}:aW wl af (.qn kk neg) [.val x,.val y] st bx=qz st bx ((Cx kk x y).map λb=>.bool (if neg then !b else b)):=by
 simp only[aW];cases Cx kk x y<;>rfl
@[simp]theorem amx{op:UnOp}{x:AV}:aW wl af (.un op) [.val x] st bx=qz st bx (Yg op x):=by
 simp only[aW];cases Yg op x<;>rfl
@[simp]theorem ahG{kk l:IntKind}{n:Int}:aW wl af (.conv kk) [.val (.int l n)] st bx=some (.val (.int kk (kk.wrap n)),st,bx):=rfl
@[simp]theorem afO{x:AV}:aW wl af .W0 [.val x] st bx=qz st bx (((fJ st x).bind Cy).map .str):=by
 simp only[aW];cases fJ st x with
 |none=>rfl|some r=>simp only[Option.bind_some];cases Cy r<;>rfl
@[simp]theorem Xo{lk:LK}{x:AV}:aW wl af (.len lk) [.val x] st bx=qz st bx ((ov st lk x).map λn=>.int .i64 n):=by
 simp only[aW];cases ov st lk x<;>rfl
@[simp]theorem adE{mx:Bool}{kk:IntKind}{a b:Int}:aW wl af (.KA mx) [.val (.int kk a),.val (.int kk b)] st bx=some (.val (.int kk (if mx then (if b > a then b else a) else (if b<a then b else a))),st,bx):=by
 simp[aW]
@[simp]theorem ahH{j i:Nat}:aW wl af .nilCheck [.fp j i] st bx=some (.fp j i,st,bx):=rfl
@[simp]theorem ahI{a b c d:Nat}:aW wl af .nilCheck [.val (.ptr a b c d)] st bx=some (.val (.ptr a b c d),st,bx):=rfl
@[simp]theorem ahJ{a:Nat}{r:List (List AV)}{c d:Nat}:aW wl af .nilCheck [.val (.qg a r c d)] st bx=some (.val (.qg a r c d),st,bx):=rfl
@[simp]theorem abk{i:Nat}{vs:List AV}:aW wl af (.extract i) [.val (.fm vs)] st bx=qz st bx vs[i]?:=by
 simp only[aW];cases vs[i]?<;>rfl
@[simp]theorem afP{off n:Nat}{agg:Bool}{cs:List AV}:aW wl af (.field off n agg) [.val (.agg cs)] st bx=qz st bx ((cut cs off n).bind (bM agg)):=by
 simp only[aW];cases cut cs off n with
 |none=>rfl|some r=>simp only[Option.bind_some];cases bM agg r<;>rfl
@[simp]theorem afQ{zero:List AV}{parts:List (Nat×Nat)}{l:List fq}:aW wl af (.build zero parts) l st bx=qz st bx (((jt l).bind (iV zero parts)).map .agg):=by
 simp only[aW];cases jt l with
 |none=>rfl|some vs=>simp only[Option.bind_some];cases iV zero parts vs<;>rfl
@[simp]theorem akM{sz n:Nat}{zero:List AV}{parts:List Nat}{l:List fq}:aW wl af (.lit sz n zero parts) l st bx =
  qz st bx (((jt l).bind λvs=>gv sz (List.replicate n zero) parts (AV.cq vs)).bind λrows=>if rows.all AV.ai&&rows.all AV.bq then some (if n=0 then .mL else .dM sz rows) else none):=by
 simp only[aW];cases jt l with
 |none=>rfl|some vs=>
  simp only[Option.bind_some];cases gv sz (List.replicate n zero) parts (AV.cq vs) with
  |none=>rfl|some rows=>simp only[Option.bind_some];split<;>rfl
@[simp]theorem Vf{off j i:Nat}:aW wl af (.fieldAddr off) [.fp j i] st bx=some (.fp j (i+off),st,bx):=rfl
@[simp]theorem Vg{off a b c d:Nat}:aW wl af (.fieldAddr off) [.val (.ptr a b c d)] st bx=some (.val (.ptr a b c (d+off)),st,bx):=rfl
@[simp]theorem Vh{off a c d:Nat}{r:List (List AV)}:aW wl af (.fieldAddr off) [.val (.qg a r c d)] st bx=some (.val (.qg a r c (d+off)),st,bx):=rfl
@[simp]theorem Xp{sz:Nat}{x:AV}{i:Int}:aW wl af (.indexAddr sz) [.val x,.val (.int .i64 i)] st bx=qz st bx (Cm sz st x i):=by
 cases x<;>try rfl
 case dM s r=>simp only[aW,Cm,Bool.and_eq_true,decide_eq_true_eq,and_assoc];split<;>rfl
 case iO s r=>simp only[aW,Cm,Bool.and_eq_true,decide_eq_true_eq,and_assoc];split<;>rfl
 case mu id cz=>
  simp only[aW,Cm,Bool.and_eq_true,decide_eq_true_eq,and_assoc];cases st[id]? with
  |none=>rfl|some ob=>cases ob with
   |rows v s r=>simp only;split<;>rfl|map es=>rfl
@[simp]theorem afR{l:List UInt8}{i:Int}:aW wl af .index [.val (.str l),.val (.int .i64 i)] st bx=if 0<=i then qz st bx (l[i.toNat]?.map λb=>.int .u8 b.toNat) else none:=by
 simp only[aW];cases l[i.toNat]?<;>rfl
@[simp]theorem ah{agg:Bool}{n:Nat}{p:AV}:aW wl af (.load agg n false) [.val p] st bx=qz st bx ((dA st p n).bind λcs=>bM agg (AV.cq cs)):=by
 simp only[aW];cases dA st p n with
 |none=>rfl|some cs=>simp only[Option.bind_some,Bool.false_eq_true,if_false];cases bM agg (AV.cq cs)<;>rfl
@[simp]theorem afS{zero:List AV}:aW wl af (.alloc zero) [] st bx=some (.val (.ptr st.length 0 0 0),st++[.rows 0 zero.length [zero]],bx):=rfl
@[simp]theorem adF{sz bytes:Nat}{s x:AV}:aW wl af (.append sz bytes) [.val s,.val x] st bx=qz st bx ((dZ [] x).bind (nI sz bytes s)):=by
 simp only[aW];cases dZ [] x with
 |none=>rfl|some new=>
  simp only[Option.bind_some,nI];by_cases hf:bL sz new=true
  ·simp only[hf,if_true];cases s<;>simp only[Bool.and_eq_true,decide_eq_true_eq]<;>(try rfl)<;>repeat' split
   all_goals rfl
  simp only[hf];rfl
@[simp]theorem adG{sz bytes:Nat}{zero:List AV}{n c:Int}:aW wl af (.sH sz bytes zero false) [.val (.int .i64 n),.val (.int .i64 c)] st bx =
  if 0<=n/\n<=c/\c*bytes<=cT/\zero.length=sz then (if AV.ai zero then some (.val (.iO sz (List.replicate n.toNat zero)),st,bx) else none) else none:=rfl
@[simp]theorem abl{sz bytes:Nat}{zero:List AV}{n c:Int}:aW wl af (.GQ sz bytes zero) [.val (.int .i64 n),.val (.int .i64 c)] st bx =
  if 0<=n/\n<=c/\c*bytes<=cT/\zero.length=sz/\AV.ai zero=true then some (.val (.raw sz (List.replicate n.toNat zero)),st,bx) else none:=rfl
@[simp]theorem xx{sz bytes:Nat}{zero:List AV}{n c:Int}:aW wl af (.sH sz bytes zero true) [.val (.int .i64 n),.val (.int .i64 c)] st bx =
  if 0<=n/\n<=c/\c*bytes<=cT/\zero.length=sz then some (.val (.mu st.length 0),st++[.rows 0 sz (List.replicate n.toNat zero)],bx) else none:=rfl
@[simp]theorem aa{n:Nat}{p v:AV}:aW wl af (.store n) [.val p,.val v] st bx=if v.cells.length=n/\AV.bq v.cells=true then (cu wl af st p v.cells).map λs=>(.none,s,bx) else none:=by
 simp only[aW,Bool.and_eq_true,decide_eq_true_eq];split;cases cu wl af st p v.cells<;>rfl
 rfl
@[simp]theorem Y6{id cz i j:Nat}{cells:List AV}:cu wl af st (.ptr id cz i j) cells=match st[id]? with
  |some (.rows v sz rows)=>if v=cz/\aQ wl af id cells=true then rows[i]?.bind λr=>if j+cells.length<=r.length then some (st.set id (.rows v sz (rows.set i (ag r j cells)))) else none else none
  |_=>none:=by
 simp only[cu];cases st[id]? with
 |none=>rfl|some ob=>cases ob with
  |map es=>rfl|rows v sz rows=>
   simp only[Bool.and_eq_true,decide_eq_true_eq];split;cases rows[i]?<;>rfl
   rfl
attribute [simp] aQ
@[simp]theorem adH{sz id cz:Nat}{hi:Int}:aW wl af (.CX sz) [.val (.mu id cz),.val (.int .i64 hi)] st bx=match st[id]? with
  |some (.rows v s rows)=>if v=cz/\s=sz/\0<=hi/\hi<=rows.length/\wl<=id then some (.val (.mu id (v+1)),st.set id (.rows (v+1) s (rows.take hi.toNat)),bx) else none
  |_=>none:=by
 simp only[aW,Bool.and_eq_true,decide_eq_true_eq,and_assoc];cases st[id]? with
 |none=>rfl|some ob=>cases ob<;>rfl
@[simp]theorem abm{sz bytes id cz:Nat}{x:AV}:aW wl af (.jx sz bytes) [.val (.mu id cz),.val x] st bx=(dZ st x).bind λnew=>if bL sz new=true then match st[id]? with
  |some (.rows v lF kL)=>if v=cz/\lF=sz/\(kL.length+new.length)*bytes<=cT/\wl<=id/\(af<=id\/new.all AV.ai=true) then some (.val (.mu id (v+1)),st.set id (.rows (v+1) sz (kL++new)),bx) else none
  |_=>none else none:=by
 simp only[aW,vD,Bool.and_eq_true,decide_eq_true_eq,Bool.or_eq_true,and_assoc];cases dZ st x with
 |none=>rfl|some new=>rfl
@[simp]theorem ahK:aW wl af .Yf [.val .U] st bx=some (.val (.int .i64 0),st,bx):=rfl
@[simp]theorem abn{sz bytes:Nat}{s:AV}{zero:List AV}{n:Int}:aW wl af (.Cw sz bytes zero) [.val s,.val (.int .i64 n)] st bx =
  if 0<=n/\n*bytes<=cT/\zero.length=sz/\AV.ai zero=true then vD wl af sz bytes s (List.replicate n.toNat zero) st bx else none:=rfl
@[simp]theorem Y7{sz bytes:Nat}{x:AV}:aW wl af (.jx sz bytes) [.val .U,.val x] st bx=(dZ st x).bind λnew=>if bL sz new=true then (if new.isEmpty=true then some (.val .U,st,bx) else if new.length*bytes<=cT then some (.val (.mu st.length 0),st++[.rows 0 sz new],bx) else none) else none:=by
 simp only[aW];cases dZ st x with
 |none=>rfl|some new=>rfl
@[simp]theorem Y8{sz bytes:Nat}{x:AV}:aW wl af (.jx sz bytes) [.val .mL,.val x] st bx=(dZ st x).bind λnew=>if bL sz new=true then (if new.length*bytes<=cT then some (.val (.mu st.length 0),st++[.rows 0 sz new],bx) else none) else none:=by
 simp only[aW];cases dZ st x with
 |none=>rfl|some new=>rfl
@[simp]theorem afT{j i n:Nat}{agg:Bool}:aW wl af (.fD j agg n false) [.fp j i] st bx=qz st bx ((bx[j]?.bind λrow=>cut row i n).bind λcs=>bM agg (AV.cq cs)):=by
 simp only[aW,if_true];cases bx[j]? with
 |none=>rfl|some row=>
  simp only[Option.bind_some];cases cut row i n with
  |none=>rfl|some cs=>simp only[Option.bind_some,Bool.false_eq_true,if_false];cases bM agg (AV.cq cs)<;>rfl
@[simp]theorem adI{j i n:Nat}{agg:Bool}:aW wl af (.fD j agg n true) [.fp j i] st bx=(bx[j]?.bind λrow=>(cut row i n).bind λcs=>(bM agg cs).map λv=>(.val v,st,bx.set j (ag row i (cs.map AV.di)))):=by
 simp only[aW,if_true];cases bx[j]? with
 |none=>rfl|some row=>
  simp only[Option.bind_some];cases cut row i n with
  |none=>rfl|some cs=>simp only[Option.bind_some];cases bM agg cs<;>rfl
@[simp]theorem adJ{j i n:Nat}{v:AV}:aW wl af (.jH j n) [.fp j i,.val v] st bx=if v.cells.length=n/\AV.bq v.cells=true then bx[j]?.bind λrow=>(if i+n<=row.length then some (.none,st,bx.set j (ag row i v.cells)) else none) else none:=by
 simp only[aW,Bool.and_eq_true,decide_eq_true_eq,true_and];split;cases bx[j]?<;>rfl
 rfl
@[simp]theorem adK{j:Nat}{zero:List AV}:aW wl af (.bT j zero) [] st bx=if j<bx.length then some (.fp j 0,st,bx.set j zero) else none:=rfl
@[simp]theorem MW{n:Nat}{v:AV}:aW wl af (.box n) [.val v] st bx=if v.cells.length=n/\AV.bq v.cells=true then some (.val (.ptr st.length 0 0 0),st++[.rows 0 n [v.cells]],bx) else none:=by
 simp only[aW,Bool.and_eq_true,decide_eq_true_eq]
@[simp]theorem ahL{j n:Nat}{v:AV}:aW wl af (.qW j n) [.val v] st bx=if j<bx.length/\v.cells.length=n/\AV.bq v.cells=true then some (.fp j 0,st,bx.set j v.cells) else none:=by
 simp only[aW,Bool.and_eq_true,decide_eq_true_eq,and_assoc]
@[simp]theorem Y9{f n:Nat}{l:List fq}:aW wl af (.makeFunc f n) l st bx=qz st bx ((jt l).map λvs=>.fn f (AV.cq (vs.take n)) (AV.cq (vs.drop n))):=by
 simp only[aW];cases jt l<;>rfl
@[simp]theorem abo{wV:Bool}{sz:Nat}{x:AV}{b:Int}:aW wl af (.slice wV false true false sz) [.val x,.val (.int .i64 b)] st bx=(ov st (if wV then .str else .sl) x).bind λ_=>qz st bx (kq wV sz x 0 b none):=by
 simp only[aW];cases ov st (if wV then LK.str else LK.sl) x with
 |none=>rfl|some n=>simp only[sq,Bool.false_eq_true,if_false,if_true,Option.bind_some];cases kq wV sz x 0 b none<;>rfl
@[simp]theorem abp{wV:Bool}{sz:Nat}{x:AV}{a:Int}:aW wl af (.slice wV true false false sz) [.val x,.val (.int .i64 a)] st bx=(ov st (if wV then .str else .sl) x).bind λn=>qz st bx (kq wV sz x a n none):=by
 simp only[aW];cases ov st (if wV then LK.str else LK.sl) x with
 |none=>rfl|some n=>simp only[sq,Bool.false_eq_true,if_false,if_true,Option.bind_some];cases kq wV sz x a n none<;>rfl
@[simp]theorem abq{wV:Bool}{sz:Nat}{x:AV}{a b:Int}:aW wl af (.slice wV true true false sz) [.val x,.val (.int .i64 a),.val (.int .i64 b)] st bx=(ov st (if wV then .str else .sl) x).bind λ_=>qz st bx (kq wV sz x a b none):=by
 simp only[aW];cases ov st (if wV then LK.str else LK.sl) x with
 |none=>rfl|some n=>simp only[sq,if_true,Option.bind_some];cases kq wV sz x a b none<;>rfl
@[simp]theorem Za{sz:Nat}{s:List UInt8}{a b:Int}:kq true sz (.str s) a b none=if 0<=a/\a<=b/\b<=s.length then some (.str ((s.take b.toNat).drop a.toNat)) else none:=by
 simp[kq,and_assoc]
attribute [simp] AV.di
@[simp]theorem adL{op:BinOp}{kk:IntKind}{a b:Int}:Ca op (.int kk a) (.int kk b)=lM op kk a b:=by simp[Ca]
@[simp]theorem ahM{a b:List UInt8}:Ca .add (.str a) (.str b)=if a.length+b.length<=4611686018427387904 then some (.str (a++b)) else none:=rfl
@[simp]theorem ahN{a b:List UInt8}:Ca .eql (.str a) (.str b)=some (.bool (decide (a=b))):=by simp only[Ca];by_cases h:a=b<;>simp[h]
@[simp]theorem ahO{a b:List UInt8}:Ca .neq (.str a) (.str b)=some (.bool (!decide (a=b))):=by simp only[Ca];by_cases h:a=b<;>simp[h]
@[simp]theorem afU{b:Bool}:Yg .not (.bool b)=some (.bool (!b)):=rfl
@[simp]theorem afV{kk:IntKind}{a:Int}:Yg .neg (.int kk a)=some (.int kk (kk.wrap (0-a))):=rfl
@[simp]theorem adM{a b:Bool}:Cx (.sc .bool) (.bool a) (.bool b)=some (decide (a=b)):=by cases a<;>cases b<;>rfl
@[simp]theorem afW{kk:IntKind}{a b:Int}:Cx (.sc .int) (.int kk a) (.int kk b)=some (decide (a=b)):=by simp[Cx,AI];by_cases h:a=b<;>simp[h]
@[simp]theorem afX{a b:List UInt8}:Cx (.sc .str) (.str a) (.str b)=some (decide (a=b)):=by simp[Cx,AI];by_cases h:a=b<;>simp[h]
@[simp]theorem adN{ks:List SK}{a b:List AV}:Cx (.flat ks) (.agg a) (.agg b)=AJ ks a b:=rfl
attribute [simp] AJ
@[simp]theorem adO{a b:Bool}:AI .bool (.bool a) (.bool b)=some (decide (a=b)):=by cases a<;>cases b<;>rfl
@[simp]theorem afY{kk:IntKind}{a b:Int}:AI .int (.int kk a) (.int kk b)=some (decide (a=b)):=by simp[AI];by_cases h:a=b<;>simp[h]
@[simp]theorem afZ{a b:List UInt8}:AI .str (.str a) (.str b)=some (decide (a=b)):=by simp[AI];by_cases h:a=b<;>simp[h]
section
variable {kk:IntKind}{a b:Int}
@[simp]theorem ahP:lM .add kk a b=some (.int kk (kk.wrap (a+b))):=rfl
@[simp]theorem ahQ:lM .sub kk a b=some (.int kk (kk.wrap (a-b))):=rfl
@[simp]theorem ahR:lM .mul kk a b=some (.int kk (kk.wrap (a*b))):=rfl
@[simp]theorem ahS:lM .quo kk a b=if b=0 then none else some (.int kk (kk.wrap (a.tdiv b))):=rfl
@[simp]theorem ahT:lM .rem kk a b=if b=0 then none else some (.int kk (a.tmod b)):=rfl
@[simp]theorem ahU:lM .and kk a b=some (.int kk (kk.wrap ((BitVec.ofInt kk.bits a &&& BitVec.ofInt kk.bits b).toNat))):=rfl
@[simp]theorem ahV:lM .eql kk a b=some (.bool (decide (a=b))):=by simp only[lM];by_cases h:a=b<;>simp[h]
@[simp]theorem ahW:lM .neq kk a b=some (.bool (!decide (a=b))):=by simp only[lM];by_cases h:a=b<;>simp[h]
@[simp]theorem ahX:lM .lss kk a b=some (.bool (decide (a<b))):=rfl
@[simp]theorem ahY:lM .leq kk a b=some (.bool (decide (a<=b))):=rfl
@[simp]theorem ahZ:lM .gtr kk a b=some (.bool (decide (b<a))):=rfl
@[simp]theorem ah0:lM .geq kk a b=some (.bool (decide (b<=a))):=rfl
end
@[simp]theorem abr{sz:Nat}{rows:List (List AV)}{i kk n:Nat}:dA st (.qg sz rows i kk) n=rows[i]?.bind λr=>cut r kk n:=by
 simp only[dA];cases rows[i]?<;>rfl
@[simp]theorem abt{id cz i kk n:Nat}:dA st (.ptr id cz i kk) n=match st[id]? with
  |some (.rows v _ rows)=>if v=cz then rows[i]?.bind λr=>cut r kk n else none
  |_=>none:=by
 simp only[dA];cases st[id]? with
 |none=>rfl|some ob=>cases ob with
  |rows v s r=>
   simp only;split;cases r[i]?<;>rfl
   rfl
  |map es=>rfl
@[simp]theorem Zb(b:Bool):AV.cells (.bool b)=[.bool b]:=rfl
@[simp]theorem Xq(b:Bool):AV.cy (.bool b)=true:=rfl
@[simp]theorem abu(kk:IntKind)(n:Int):AV.cells (.int kk n)=[.int kk n]:=rfl
@[simp]theorem Zc(kk:IntKind)(n:Int):AV.cy (.int kk n)=true:=rfl
@[simp]theorem abv(l:List UInt8):AV.cells (.str l)=[.str l]:=rfl
@[simp]theorem Zd(l:List UInt8):AV.cy (.str l)=true:=rfl
@[simp]theorem Vi:AV.cells (.fF)=[.fF]:=rfl
@[simp]theorem TY:AV.cy (.fF)=true:=rfl
@[simp]theorem Xr:AV.cells (.U)=[.U]:=rfl
@[simp]theorem Vj:AV.cy (.U)=true:=rfl
@[simp]theorem Vk:AV.cells (.gn)=[.gn]:=rfl
@[simp]theorem TZ:AV.cy (.gn)=true:=rfl
@[simp]theorem Xs:AV.cells (.jc)=[.jc]:=rfl
@[simp]theorem Vl:AV.cy (.jc)=true:=rfl
@[simp]theorem Xt:AV.cells (.kg)=[.kg]:=rfl
@[simp]theorem Vm:AV.cy (.kg)=true:=rfl
@[simp]theorem abw(s:Nat)(r:List (List AV)):AV.cells (.dM s r)=[.dM s r]:=rfl
@[simp]theorem Ze(s:Nat)(r:List (List AV)):AV.cy (.dM s r)=true:=rfl
@[simp]theorem abx(s:Nat)(r:List (List AV)):AV.cells (.iO s r)=[.iO s r]:=rfl
@[simp]theorem Zf(s:Nat)(r:List (List AV)):AV.cy (.iO s r)=true:=rfl
@[simp]theorem aby:AV.cells (.mL)=[.mL]:=rfl
@[simp]theorem Zg:AV.cy (.mL)=true:=rfl
@[simp]theorem adP(a b:Nat):AV.cells (.mu a b)=[.mu a b]:=rfl
@[simp]theorem abz(a b:Nat):AV.cy (.mu a b)=true:=rfl
@[simp]theorem abA(a b c d:Nat):AV.cells (.ptr a b c d)=[.ptr a b c d]:=rfl
@[simp]theorem Zh(a b c d:Nat):AV.cy (.ptr a b c d)=true:=rfl
@[simp]theorem abB(a:Nat)(r:List (List AV))(c d:Nat):AV.cells (.qg a r c d)=[.qg a r c d]:=rfl
@[simp]theorem Zi(a:Nat)(r:List (List AV))(c d:Nat):AV.cy (.qg a r c d)=true:=rfl
@[simp]theorem abC(a:Nat):AV.cells (.map a)=[.map a]:=rfl
@[simp]theorem Zj(a:Nat):AV.cy (.map a)=true:=rfl
@[simp]theorem adQ(f:Nat)(a b:List AV):AV.cells (.fn f a b)=[.fn f a b]:=rfl
@[simp]theorem abD(f:Nat)(a b:List AV):AV.cy (.fn f a b)=true:=rfl
@[simp]theorem Zk:AV.cells (.gone)=[.gone]:=rfl
@[simp]theorem Xu:AV.cy (.gone)=true:=rfl
@[simp]theorem abE(cs:List AV):AV.cells (.agg cs)=cs:=rfl
@[simp]theorem Vn:AV.bq []=true:=rfl
@[simp]theorem T1(a:AV)(l:List AV):AV.bq (a::l)=(a.cy&&AV.bq l):=rfl
attribute [simp] gv iV ag
theorem ee{n:Int}(h1 : -9223372036854775808<=n)(h2:n<=9223372036854775807):IntKind.i64.wrap n=n:=IntWalk.i64_in n ⟨h1,h2⟩
theorem wk(k:Nat)(h:k<9000000000000000000):IntKind.i64.wrap ((k:Int)+1)=((k+1:Nat):Int):=by rw[ee]<;>omega
end Ax
namespace Ax
open Go
variable {S:Nat->Option aH}{wl af:Nat}{rs:List iE}{Q:Ex->St->Prop}{k:List qy}{st:aj}{bx:bF}
def zO(rs:List iE)(m:Mode)(st:aj)(r:AV×aj)(x:Ex)(s:St):Prop:=∃v,Fh rs x s=some v/\m.lG st v s.st=some r
theorem ay{f:Nat}{sf:aH}(hf:S f=some sf){args:List AV}(ha:zk sf args=false)(hl:args.length=sf.aF){r:AV×aj}
  (h:W S (sf.mode.vh st.length wl) (sf.mode.oC st.length af) sf.results (zO sf.results sf.mode st r) [.code sf.body] .normal (pI sf args st)) :
  (bh S).call wl af f args st=some r:=Ou hf ha hl h
@[simp]theorem Jp{m:Mode}{r:AV×aj}{v:AV}{s:St}:zO rs m st r (.ret v) s↔m.lG st v s.st=some r:=by
 simp[zO,Fh]
@[simp]theorem Jq{m:Mode}{r:AV×aj}{s:St}:zO rs m st r .normal s↔∃v,xS s rs=some v/\m.lG st v s.st=some r:=Iff.rfl
def Jr(rs:List iE)(v:AV)(x:Ex)(s:St):Prop:=Fh rs x s=some v
@[simp]theorem abF{v u:AV}{s:St}:Jr rs v (.ret u) s↔u=v:=by simp[Jr,Fh]
@[simp]theorem abG{v:AV}{s:St}:Jr rs v .normal s↔xS s rs=some v:=Iff.rfl
theorem bN{f:Nat}{sf:aH}(hf:S f=some sf)(hm:sf.mode=.pure){args:List AV}(hp:AV.ai args=true)(hl:args.length=sf.aF){v:AV}(hv:v.ax=true)
  (h:W S 0 0 sf.results (Jr sf.results v) [.code sf.body] .normal (pI sf args [])) :
  (bh S).call wl af f args st=some (v,st):=Ov hf hm hp hl hv h
theorem adR{α:Type}{c b:bw}(h:c=b)(f:α->St)(I:α->Prop)(μ:α->Nat)
  (round:∀a,I a->(∀a',I a'->μ a'<μ a->W S wl af rs Q (.code (.loop c)::k) .normal (f a'))->W S wl af rs Q (.code b::.uW c::k) .normal (f a)) :
  ∀a,I a->W S wl af rs Q (.code (.loop c)::k) .normal (f a):=by
 have key:∀n a,μ a=n->I a->W S wl af rs Q (.code (.loop c)::k) .normal (f a):=by
  intro n;induction n using Nat.strongRecOn with
  |_ n ih=>
   intro a hn ha;rw[qA h];exact round a ha λa' h' aX=>ih (μ a') (by omega) a' rfl h'
 exact λa ha=>key _ a rfl ha
def aM:AV->List (List AV)
 |.dM _ r|.iO _ r=>r|_=>[]
def aD:AV->Bool
 |.U|.mL|.dM _ _|.iO _ _=>true|_=>false
def bX(sz:Nat):AV->Bool
 |.U|.mL=>true|.dM s r|.iO s r=>s==sz&&bL sz r|_=>false
@[simp]theorem DS(v:AV):aM v.view=aM v:=by cases v<;>simp[aM,AV.view]
@[simp]theorem jY(v:AV):aD v.view=aD v:=by cases v<;>simp[aD,AV.view]
@[simp]theorem AX(sz:Nat)(v:AV):bX sz v.view=bX sz v:=by cases v<;>simp[bX,AV.view]
@[simp]theorem abH:aM .U=[]:=rfl
@[simp]theorem abI:aM .mL=[]:=rfl
@[simp]theorem Ow{sz:Nat}{r:List (List AV)}:aM (.dM sz r)=r:=rfl
@[simp]theorem Ox{sz:Nat}{r:List (List AV)}:aM (.iO sz r)=r:=rfl
@[simp]theorem adS:aD .U=true:=rfl
@[simp]theorem adT:aD .mL=true:=rfl
@[simp]theorem adU{sz:Nat}{r:List (List AV)}:aD (.dM sz r)=true:=rfl
@[simp]theorem adV{sz:Nat}{r:List (List AV)}:aD (.iO sz r)=true:=rfl
@[simp]theorem adW{sz:Nat}:bX sz .U=true:=rfl
@[simp]theorem adX{sz:Nat}:bX sz .mL=true:=rfl
@[simp]theorem gf{sz s:Nat}{r:List (List AV)}:bX sz (.dM s r)=(s==sz&&bL sz r):=rfl
@[simp]theorem adY{sz s:Nat}{r:List (List AV)}:bX sz (.iO s r)=(s==sz&&bL sz r):=rfl
theorem pz{sz:Nat}{v:AV}(h:bX sz v=true):aD v=true:=by cases v<;>simp_all [bX,aD]
@[simp]theorem abJ{v:AV}(h:aD v=true):fJ st v=some (aM v):=by cases v<;>simp_all [aD,aM]
@[simp]theorem Xv{v:AV}(h:aD v=true):dZ st v=some (aM v):=by cases v<;>simp_all [aD,aM]
@[simp]theorem af0{sz:Nat}{v:AV}{i:Int}(h:bX sz v=true):Cm sz st v i=if 0<=i/\i<(aM v).length then some (.qg sz (aM v) i.toNat 0) else none:=by
 by_cases hi:0<=i/\i<(aM v).length
 ·rw[if_pos hi];cases v<;>simp[bX]at h
  case U=>have:=hi.2;simp[aM]at this;omega
  case mL=>have:=hi.2;simp[aM]at this;omega
  case dM s r=>simp only[Cm,aM];rw[if_pos ⟨h.1,hi⟩]
  case iO s r=>simp only[Cm,aM];rw[if_pos ⟨h.1,hi⟩]
 ·rw[if_neg hi];cases v<;>simp[bX]at h
  case U=>rfl
  case mL=>rfl
  case dM s r=>simp only[Cm];rw[if_neg λc=>hi c.2]
  case iO s r=>simp only[Cm];rw[if_neg λc=>hi c.2]
mutual
theorem DT:∀v:AV,v.view.view=v.view
 |.iO _ _=>rfl|.raw _ _=>rfl|.agg cs=>by simp only[AV.view];rw[we cs]|.fm cs=>by simp only[AV.view];rw[we cs]|.undef|.gone|.bool _|.int _ _|.str _|.fF|.U|.gn|.jc|.kg|.dM _ _|.mL|.mu _ _|.ptr _ _ _ _|.qg _ _ _ _|.map _|.fn _ _ _=>rfl
theorem we:∀cs:List AV,AV.cq (AV.cq cs)=AV.cq cs
 |[]=>rfl|c::cs=>by simp only[AV.cq];rw[DT c,we cs]
end
@[simp]theorem oM(v:AV):v.view.view=v.view:=DT v
@[simp]theorem ck{v:AV}(h:aD v=true):v.ax=true:=by cases v<;>simp_all [aD]
@[simp]theorem adZ{v:AV}(h:aD v=true):v.cells=[v]:=by cases v<;>simp_all [aD,AV.cells]
@[simp]theorem bU{v:AV}(h:aD v=true):v.cy=true:=by cases v<;>simp_all [aD,AV.cy]
def bD(sz:Nat)(r:List (List AV)):AV:=if r.isEmpty then .U else .iO sz r
@[simp]theorem pQ{sz:Nat}{r:List (List AV)}:aM (bD sz r)=r:=by
 cases r<;>rfl
@[simp]theorem bY{sz:Nat}{r:List (List AV)}:aD (bD sz r)=true:=by
 cases r<;>rfl
@[simp]theorem xy{sz:Nat}{r:List (List AV)}:bX sz (bD sz r)=bL sz r:=by
 cases r<;>simp[bD,bX,bL]
theorem jB{sz:Nat}:bD sz []=.U:=rfl
theorem dV{sz bytes:Nat}{r new:List (List AV)}(hf:bL sz new=true)(hr:(r.length+new.length)*bytes<=cT):nI sz bytes (bD sz r) new=some (bD sz (r++new)):=by
 unfold nI;rw[if_pos hf];cases r with
 |nil=>
  cases new with
  |nil=>rfl|cons a l=>simp only[bD,List.isEmpty_nil,if_true,List.isEmpty_cons,Bool.false_eq_true,if_false,List.nil_append];rw[if_pos (by simpa using hr)]
 |cons b r=>simp only[bD,List.isEmpty_cons,Bool.false_eq_true,if_false,List.cons_append];rw[if_pos ⟨trivial,hr⟩]
def DU(v:AV)(lo hi:Nat):AV:=match v with
 |.dM s r|.iO s r=>.dM s ((r.take hi).drop lo)|x=>x
@[simp]theorem abK{sz:Nat}{v:AV}{lo hi:Int}(h:bX sz v=true):kq false sz v lo hi none=if 0<=lo/\lo<=hi/\hi<=(aM v).length then some (DU v lo.toNat hi.toNat) else none:=by
 by_cases hc:0<=lo/\lo<=hi/\hi<=(aM v).length
 ·rw[if_pos hc];cases v<;>simp[bX]at h
  case U=>
   simp[aM]at hc;have:lo=0/\hi=0:=by omega
   obtain⟨rfl,rfl⟩:=this
   rfl
  case mL=>
   simp[aM]at hc;have:lo=0/\hi=0:=by omega
   obtain⟨rfl,rfl⟩:=this
   rfl
  case dM s r=>simp only[aM]at hc;simp[kq,DU,h.1,hc]
  case iO s r=>simp only[aM]at hc;simp[kq,DU,h.1,hc]
 ·rw[if_neg hc];cases v<;>simp[bX]at h
  case U=>
   simp only[kq];refine if_neg λh=>hc ?_;simp at h;obtain⟨rfl,rfl⟩:=h;simp[aM]
  case mL=>
   simp only[kq];refine if_neg λh=>hc ?_;simp at h;obtain⟨rfl,rfl⟩:=h;simp[aM]
  case dM s r=>
   simp only[kq];refine if_neg λh=>hc ?_;simp at h;simp only[aM];exact⟨h.1.1.2,h.1.2,h.2⟩
  case iO s r=>
   simp only[kq];refine if_neg λh=>hc ?_;simp at h;simp only[aM];exact⟨h.1.1.2,h.1.2,h.2⟩
@[simp]theorem ad0{v:AV}{lo hi:Nat}(h:aD v=true):aD (DU v lo hi)=true:=by
 cases v<;>simp_all [aD,DU]
@[simp]theorem Oy{v:AV}{lo hi:Nat}(h:aD v=true):aM (DU v lo hi)=((aM v).take hi).drop lo:=by
 cases v<;>simp_all [aD,DU,aM]
theorem Q1{sz lo hi:Nat}{r:List (List AV)}(h:bL sz r=true):bL sz ((r.take hi).drop lo)=true:=by
 simp only[bL,List.all_eq_true]at *;exact λx hx=>h x (List.mem_of_mem_take (List.mem_of_mem_drop hx))
@[simp]theorem Q2{sz:Nat}{v:AV}{lo hi:Nat}(h:bX sz v=true):bX sz (DU v lo hi)=true:=by
 cases v<;>simp_all [bX,DU,Q1]
def bQ(xs:List Int):List (List AV):=xs.map λn=>[.int .i64 n]
def dI(v:AV):List Int:=(aM v).map λr=>match r with | [.int .i64 n]=>n|_=>0
def CJ(v:AV):Bool:=bX 1 v&&(aM v).all λr=>match r with | [.int .i64 _]=>true|_=>false
theorem HA(xs:List Int):((bQ xs).map λr=>match r with | [AV.int .i64 n]=>n|_=>(0:Int))=xs:=by
 induction xs with
 |nil=>rfl|cons x xs ih=>simp only[bQ,List.map_cons]at *;rw[ih]
@[simp]theorem ad1(xs:List Int):(bQ xs).length=xs.length:=by simp[bQ]
@[simp]theorem ad2(xs:List Int)(i:Nat)(h:i<(bQ xs).length):(bQ xs)[i]=[.int .i64 (xs[i]'(by simpa using h))]:=by simp[bQ]
@[simp]theorem abL(xs:List Int):bL 1 (bQ xs)=true:=by simp[bL,bQ]
@[simp]theorem abM(xs:List Int)(k:Nat):List.take k (bQ xs)=bQ (xs.take k):=by simp[bQ]
@[simp]theorem Zl(xs:List Bool)(k:Nat):List.take k (xs.map λb=>[AV.bool b])=(xs.take k).map λb=>[AV.bool b]:=by simp
@[simp]theorem abN(xs:List Int)(k:Nat):List.drop k (bQ xs)=bQ (xs.drop k):=by simp[bQ]
@[simp]theorem Xw(xs ys:List Int):bQ xs++bQ ys=bQ (xs++ys):=by simp[bQ]
@[simp]theorem Vo(xs:List Int)(n:Int):bQ xs++[[.int .i64 n]]=bQ (xs++[n]):=by simp[bQ]
@[simp]theorem ad3(v:AV):CJ v.view=CJ v:=by simp[CJ]
@[simp]theorem af1(v:AV):dI v.view=dI v:=by simp[dI]
@[simp]theorem Zm{v:AV}(h:CJ v=true):bX 1 v=true:=by simp only[CJ,Bool.and_eq_true]at h;exact h.1
@[simp]theorem Q3{v:AV}(h:CJ v=true):aD v=true:=pz (Zm h)
@[simp]theorem ah1(xs:List Int):CJ (bD 1 (bQ xs))=true:=by simp[CJ,bQ,bL]
@[simp]theorem akN(xs:List Int):dI (bD 1 (bQ xs))=xs:=by simp only[dI,pQ];exact HA xs
@[simp]theorem af2:CJ .U=true:=rfl
@[simp]theorem ah2:dI .U=[]:=rfl
@[simp]theorem af3(xs:List Int):CJ (.dM 1 (bQ xs))=true:=by simp[CJ,bQ,bL]
@[simp]theorem ah3(xs:List Int):dI (.dM 1 (bQ xs))=xs:=by simp only[dI,Ow];exact HA xs
@[simp]theorem af4(xs:List Int):CJ (.iO 1 (bQ xs))=true:=by simp[CJ,bQ,bL]
@[simp]theorem ah4(xs:List Int):dI (.iO 1 (bQ xs))=xs:=by simp only[dI,Ox];exact HA xs
@[simp]theorem af5{v:AV}{lo hi:Nat}(h:CJ v=true):CJ (DU v lo hi)=true:=by
 have h0:=Q3 h;simp only[CJ,Bool.and_eq_true,List.all_eq_true]at *;refine⟨Q2 h.1,λr hr=>?_⟩;rw[Oy h0]at hr;exact h.2 r (List.mem_of_mem_take (List.mem_of_mem_drop hr))
@[simp]theorem ah5{v:AV}{lo hi:Nat}(h:CJ v=true):dI (DU v lo hi)=((dI v).take hi).drop lo:=by
 simp[dI,Q3 h,List.map_take,List.map_drop]
@[simp]theorem ad4(n:Int):CJ (.iO 1 [[.int .i64 n]])=true:=rfl
@[simp]theorem ad5(n:Int):CJ (.dM 1 [[.int .i64 n]])=true:=rfl
@[simp]theorem ad6(a b:Int):CJ (.dM 1 [[.int .i64 a],[.int .i64 b]])=true:=rfl
@[simp]theorem af6(a b:Int):dI (.dM 1 [[.int .i64 a],[.int .i64 b]])=[a,b]:=rfl
@[simp]theorem ad7(a b c:Int):CJ (.dM 1 [[.int .i64 a],[.int .i64 b],[.int .i64 c]])=true:=rfl
@[simp]theorem af7(a b c:Int):dI (.dM 1 [[.int .i64 a],[.int .i64 b],[.int .i64 c]])=[a,b,c]:=rfl
@[simp]theorem af8(n:Int):dI (.dM 1 [[.int .i64 n]])=[n]:=rfl
def fT(xs:List Bool):List (List AV):=xs.map λb=>[.bool b]
@[simp]theorem abO(xs:List Bool):(fT xs).length=xs.length:=by simp[fT]
@[simp]theorem abP(xs:List Bool)(i:Nat)(h:i<(fT xs).length):(fT xs)[i]=[.bool (xs[i]'(by simpa using h))]:=by simp[fT]
@[simp]theorem abQ(xs:List Bool)(i:Nat)(b:Bool):(fT xs).set i [.bool b]=fT (xs.set i b):=by simp[fT]
@[simp]theorem st0{α:Type}(st:List α)(a:α)(l:List α):(st++a::l)[st.length]?=some a:=by simp
@[simp]theorem kM{α:Type}(st:List α)(a b:α)(l:List α):(st++a::b::l)[st.length+1]?=some b:=by
 rw[List.getElem?_append_right (by omega)];simp
@[simp]theorem kP{α:Type}(st:List α)(a b c:α)(l:List α):(st++a::b::c::l)[st.length+2]?=some c:=by
 rw[List.getElem?_append_right (by omega)];simp
@[simp]theorem rY{α:Type}(st:List α)(a x:α)(l:List α):(st++a::l).set st.length x=st++x::l:=by simp
@[simp]theorem Lb{α:Type}(st:List α)(a b x:α)(l:List α):(st++a::b::l).set (st.length+1) x=st++a::x::l:=by
 rw[List.set_append_right _ _ (by omega)];simp
@[simp]theorem amy{α:Type}(st:List α)(a b c x:α)(l:List α):(st++a::b::c::l).set (st.length+2) x=st++a::b::x::l:=by
 rw[List.set_append_right _ _ (by omega)];simp
end Ax
namespace Ax
open Go
theorem bf{S:Nat->Option aH}{wl af:Nat}{rs:List iE}{Q:Ex->St->Prop}{k:List qy}{α:Type}{c b:bw}{s:St}(h:c=b)(f:α->St)(I:α->Prop)(μ:α->Nat)(a0:α)(hs:s=f a0)(h0:I a0)
  (round:∀a,I a->(∀a',I a'->μ a'<μ a->W S wl af rs Q (.code (.loop c)::k) .normal (f a'))->W S wl af rs Q (.code b::.uW c::k) .normal (f a)) :
  W S wl af rs Q (.code (.loop c)::k) .normal s:=by
 subst hs;exact adR h f I μ round a0 h0
def PT(v:AV):List AV:=(aM v).map λr=>r.headD .undef
def DW(v:AV):Bool:=bX 1 v&&(aM v).all λr=>match r with | [x]=>CJ x|_=>false
def dII(v:AV):List (List Int):=(PT v).map dI
theorem Q4{v:AV}(h:DW v=true):aM v=(PT v).map λx=>[x]:=by
 simp only[DW,Bool.and_eq_true,List.all_eq_true]at h;unfold PT;rw[List.map_map];conv=>lhs;rw[<-List.map_id (aM v)]
 refine List.map_congr_left λr hr=>?_;have:=h.2 r hr;split at this
 rfl
 cases this
theorem Zn{v:AV}(h:DW v=true):∀x∈PT v,CJ x=true:=by
 intro x hx;have h1:=Q4 h;simp only[DW,Bool.and_eq_true,List.all_eq_true]at h;have:[x]∈aM v:=by rw[h1];exact List.mem_map.2 ⟨x,hx,rfl⟩
 exact h.2 _ this
@[simp]theorem ad9(v:AV):PT v.view=PT v:=by simp[PT]
@[simp]theorem abR(v:AV):DW v.view=DW v:=by simp[DW]
@[simp]theorem aea(v:AV):dII v.view=dII v:=by simp[dII]
@[simp]theorem Vp{v:AV}(h:DW v=true):bX 1 v=true:=by simp only[DW,Bool.and_eq_true]at h;exact h.1
@[simp]theorem af9{v:AV}(h:DW v=true):aD v=true:=pz (Vp h)
@[simp]theorem aga(v:AV):(dII v).length=(PT v).length:=by simp[dII]
@[simp]theorem agb{v:AV}(h:DW v=true)(i:Nat)(hi:i<(PT v).length):CJ (PT v)[i]=true:=Zn h _ (List.getElem_mem _)
end Ax
namespace Ax
@[simp]theorem cast_eq(a b:Nat):((a:Int)=(b:Int))↔a=b:=Int.natCast_inj
end Ax
namespace Ax
open Go
end Ax
namespace Ax
open Go
variable {P:Program}
theorem Zo{t:TypeId}{as:List AV}(h1:P.underlying t=some .string)(h:Ty P t as):∃l:List UInt8,as=[.str l]/\l.length<=maxLen:=by
 cases h with
 |str hu l hl=>exact⟨l,rfl,hl⟩|bool hu=>rw[h1]at hu;cases hu|int hu=>rw[h1]at hu;cases hu|U hu=>rw[h1]at hu;cases hu|mL hu=>rw[h1]at hu;cases hu|dM hu=>rw[h1]at hu;cases hu|adr hu=>rw[h1]at hu;cases hu
theorem Vq{t:TypeId}{a:AV}(h1:∀fs,P.underlying t≠some (.struct fs))(h:TyV P t a):Ty P t [a]:=by
 rcases h with⟨fs,as,h2,_⟩|⟨_,h2⟩;exact absurd h2 (h1 fs);exact h2
theorem Q5{t:TypeId}{as:List AV}(h:UT P [t] as):∃a,as=[a]/\TyV P t a:=by
 match as,h with
 |[a],h=>exact⟨a,rfl,h.1⟩
end Ax
namespace Ax
open Go
noncomputable def Q6 (env:p0) (t:Nat):fq:=List.rec (motive:=λ_=>fq) fq.none (λp _ ih=>match Nat.beq p.1 t with|true=>p.2|false=>ih) env
noncomputable def aeb (env:p0) (t:Nat) (e:fq):p0:=List.rec (motive:=λ_=>p0) [(t,e)] (λp r ih=>match Nat.ble p.1 t with
  |false=>(t,e)::p::r|true=>match Nat.beq p.1 t with
   |true=>(t,e)::r|false=>p::ih) env
noncomputable def Xx (env:p0) (t:Nat):p0:=List.rec (motive:=λ_=>p0) [] (λp _ ih=>match Nat.beq p.1 t with|true=>ih|false=>p::ih) env
noncomputable def Xy (v:AV):AV:=match v with
 |.iO sz rows=>.dM sz rows|.raw _ _=>.gone|.agg cs=>(AV.agg cs).view|.fm cs=>(AV.fm cs).view|v=>v
noncomputable def Q7 (l:List AV):List AV:=List.rec (motive:=λ_=>List AV) [] (λv _ ih=>Xy v::ih) l
noncomputable def aec (v:AV):Bool:=match v with
 |.mu _ _|.ptr _ _ _ _|.map _=>false|.agg cs=>(AV.agg cs).ax|.fm cs=>(AV.fm cs).ax|.fn f a b=>(AV.fn f a b).ax|_=>true
noncomputable def Zp (l:List AV):Bool:=List.rec (motive:=λ_=>Bool) true (λv _ ih=>match aec v with|true=>ih|false=>false) l
noncomputable def aed (e:fq):fq:=match e with|.val v=>.val (Xy v)|.none=>.none|.fp j k=>.fp j k
noncomputable def aee (env:p0) (x:Src):fq:=match x with
 |.tmp t mv=>match mv with|true=>Q6 env t|false=>aed (Q6 env t)
 |.const a=>.val a
noncomputable def Lc (env:p0) (x:Src):p0:=match x with
 |.tmp t mv=>match mv with|true=>Xx env t|false=>env
 |.const _=>env
noncomputable def HB (l:List Nat) (env:p0):p0:=List.rec (motive:=λ_=>p0->p0) (λenv=>env) (λt _ ih env=>ih (Xx env t)) l env
noncomputable def MX (env:p0) (dst:Option Nat) (e:fq):p0:=match dst with|some d=>aeb env d e|none=>env
noncomputable def Q8 (env:p0) (g:Option (Nat×Bool)):Option Bool:=match g with
 |none=>some true|some (t,b)=>match Q6 env t with
  |.val (.bool c)=>some (c==b)|.val .undef=>some false|_=>none
noncomputable def aef (env:p0) (l:List Src):List fq:=List.rec (motive:=λ_=>List fq) [] (λx _ ih=>aee env x::ih) l
noncomputable def Ld (env:p0) (l:List Src):p0:=List.rec (motive:=λ_=>p0->p0) (λenv=>env) (λx _ ih env=>ih (Lc env x)) l env
noncomputable def ah6 (O:lE) (wl af:Nat) (op:eE) (vals:List fq) (st:aj) (bx:bF):Option (fq×aj×bF):=match op with
 |.move=>match vals with
  |[e]=>some (e,st,bx)|_=>none
 |.load agg n take=>match take with
  |true=>aW wl af (.load agg n true) vals st bx|false=>match vals with
   |[.val p]=>match dA st p n with
    |some cs=>match bM agg (Q7 cs) with|some v=>some (.val v,st,bx)|none=>none
    |none=>none
   |_=>none
 |.fD j agg n take=>match take with
  |true=>aW wl af (.fD j agg n true) vals st bx|false=>match vals with
   |[.fp j' k]=>match Nat.beq j j' with
    |true=>match bx[j]? with
     |some row=>match cut row k n with
      |some cs=>match bM agg (Q7 cs) with|some v=>some (.val v,st,bx)|none=>none
      |none=>none
     |none=>none
    |false=>none
   |_=>none
 |.call f=>gm O wl af (mM (.call f) vals) st bx|.qX=>gm O wl af (mM .qX vals) st bx|op=>aW wl af op vals st bx
noncomputable def Vr (O:lE) (wl af:Nat) (o:aK) (s:St):Option St:=
 match Q8 s.env o.guard with
 |none=>none|some false=>some { s with env:=MX s.env o.dst (.val .undef) }|some true=>
  match ah6 O wl af o.op (aef s.env o.args) s.st s.bx with
  |none=>none|some (e,bV,gD)=>
   match o.op.bg with
   |none=>some ⟨MX (Ld s.env o.args) o.dst e,gD,bV⟩|some j=>if mc j (MX (Ld s.env o.args) o.dst .none) then some ⟨MX (Ld s.env o.args) o.dst e,gD,bV⟩ else none
noncomputable def Js (O:lE) (wl af:Nat) (l:List aK) (s:St):Option St:=List.rec (motive:=λ_=>St->Option St) (λs=>some s)
 (λo _ ih s=>match Vr O wl af o s with|some s'=>ih s'|none=>none) l s
noncomputable def Oz (O:lE) (wl af:Nat) (dJ:List aK) (cn:List (Nat×Nat)) (s:St):Option St:=match cn with
 |[]=>match dJ.all (bG s.env) with
  |true=>Js O wl af dJ s|false=>none
 |p::l=>iB O wl af dJ (p::l) s
noncomputable def Vs (env:p0) (c:Src):Option Bool:=
 match aee env c with
 |.val (.bool b)=>some b|_=>none
noncomputable def aeg (O:lE) (wl af:Nat) (rs:List iE) (c:bw):St->Option (Ex×St):=bw.rec (motive:=λ_=>St->Option (Ex×St))
 (λs=>some (Ex.normal,s))
 (λdJ draw dm s=>
  match (match draw with|none=>Js O wl af dJ s|some cn=>Oz O wl af dJ cn s) with
  |some s'=>some (Ex.normal,{ s' with env:=HB dm s'.env })|none=>none)
 (λ_ _ ia ib s=>match ia s with
  |some (Ex.normal,s')=>ib s'|r=>r)
 (λc ca _ cb _ ia ib s=>match Vs s.env c with
  |some true=>ia { s with env:=HB ca (Lc s.env c) }|some false=>ib { s with env:=HB cb (Lc s.env c) }|none=>none)
 (λid _ ic s=>match ic s with
  |some (Ex.exit id',s')=>if id'=id then some (Ex.normal,s') else some (Ex.exit id',s')
  |r=>r)
 (λc _ s=>O.loop wl af rs c s)
 (λid s=>some (Ex.exit id,s))
 (λs=>match xS s rs with|some v=>some (Ex.ret v,⟨[],[],s.st⟩)|none=>none)
 (λt s=>iW O wl af rs (.TR t) s)
 (λj k s=>iW O wl af rs (.Ff j k) s)
 (λt off s=>iW O wl af rs (.vg t off) s) c
noncomputable def DX (O:lE) (wl af:Nat) (sf:aH) (args:List AV) (st:aj):Option (AV×aj):=
 match Nat.beq args.length sf.aF with
 |true=>match aeg O (sf.mode.vh st.length wl) (sf.mode.oC st.length af) sf.results sf.body (pI sf args st) with
  |some (x,s)=>match Fh sf.results x s with
   |some v=>sf.mode.lG st v s.st|none=>none
  |none=>none
 |false=>none
noncomputable def OA (O:lE) (wl af:Nat) (sf:aH) (args:List AV) (st:aj):Option (AV×aj):=
 match (match sf.mode with|.pure=>Zp args|_=>false) with
 |true=>(match DX O 0 0 sf args [] with|some r=>some (r.1,st)|none=>none)
 |false=>DX O wl af sf args st
noncomputable def amz (S:Nat->Option aH) (n:Nat):lE:=Nat.rec (motive:=λ_=>lE)
 ⟨λ_ _ _ _ _=>none,λ_ _ _ _ _=>none⟩
 (λ_ ih=>⟨λwl af f args st=>match S f with
   |some sf=>OA ih wl af sf args st|none=>none,
   λwl af rs c s=>match aeg ih wl af rs c s with
   |some (Ex.normal,s')=>ih.loop wl af rs c s'|r=>r⟩) n
end Ax
namespace Ax
@[simp]abbrev Src.t(n:Nat):Src:=.tmp n false
@[simp]abbrev Src.T(n:Nat):Src:=.tmp n true
@[simp]abbrev aK.o(d:Nat)(op:eE)(args:List Src):aK:=⟨some d,op,args,none⟩
@[simp]abbrev aK.n(op:eE)(args:List Src):aK:=⟨none,op,args,none⟩
@[simp]abbrev aK.y(d:Nat)(op:eE)(args:List Src)(t:Nat):aK:=⟨some d,op,args,some (t,true)⟩
@[simp]abbrev aK.z(d:Nat)(op:eE)(args:List Src)(t:Nat):aK:=⟨some d,op,args,some (t,false)⟩
@[simp]abbrev Src.b(x:Bool):Src:=.const (.bool x)
@[simp]abbrev AV.i(n:Int):AV:=.int .i64 n
@[simp]abbrev Src.i(n:Int):Src:=.const (.int .i64 n)
@[simp]abbrev aK.m(d:Nat)(a:Src):aK:=⟨some d,.move,[a],none⟩
@[simp]abbrev aK.f(d k:Nat)(a:Src):aK:=⟨some d,.fieldAddr k,[a],none⟩
@[simp]abbrev aK.l(d i:Nat)(a:Src):aK:=⟨some d,.fD i false 1 false,[a],none⟩
@[simp]abbrev aK.d(d:Nat)(a:Src):aK:=⟨some d,.load false 1 false,[a],none⟩
@[simp]abbrev bw.r:=bw.region
@[simp]abbrev aK.c(d f:Nat)(args:List Src):aK:=⟨some d,.call f,args,none⟩
@[simp]abbrev bw.g(l:List aK)(c:List Nat):bw:=.region l none c
end Ax
