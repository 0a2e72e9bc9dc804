/- Part of a proof. -/
import Derived.Test.YtpnadocbfbbboaaGreatA5
import Derived.IntWalk

namespace Ax
open Go
inductive Ip where
 |cN (l:List aY) (di:List Nat)
 |code (c:bE)
 |jK (id:Nat)
 |vH (c:bE)
def ou(O:j4)(wl J:Nat)(rs:List kD):List Ip->Ex->St->Option (Ex×St)
 |[],x,s=>some (x,s)|.jK id::k,x,s=>match x with
  |.normal=>ou O wl J rs k .normal s|.exit i=>if i=id then ou O wl J rs k .normal s else ou O wl J rs k (.exit i) s
  |.ret v=>ou O wl J rs k (.ret v) s
 |.cN l di::k,x,s=>match x with
  |.normal=>match fB O wl J l s with|some s'=>ou O wl J rs k .normal { s' with env:=iU di s'.env } | none=>none
  |x=>ou O wl J rs k x s
 |.code c::k,x,s=>match x with
  |.normal=>match iu O wl J rs c s with|some (x',s')=>ou O wl J rs k x' s'|none=>none
  |x=>ou O wl J rs k x s
 |.vH c::k,x,s=>match x with
  |.normal=>match iu O wl J rs (.loop c) s with|some (x',s')=>ou O wl J rs k x' s'|none=>none
  |x=>ou O wl J rs k x s
def W(S:Nat->Option aD)(wl J:Nat)(rs:List kD)(Q:Ex->St->Prop)(k:List Ip)(x:Ex)(s:St):Prop:=∃x' s',ou (aT S) wl J rs k x s=some (x',s')/\Q x' s'
variable {S:Nat->Option aD}{wl J:Nat}{rs:List kD}{Q:Ex->St->Prop}{k:List Ip}{s:St}
theorem agF{x:Ex}:W S wl J rs Q [] x s↔Q x s:=by
 unfold W ou;constructor;rintro⟨x',s',h,hq⟩;cases h;exact hq;intro h;exact⟨x,s,rfl,h⟩
theorem agG{id:Nat}:W S wl J rs Q (.jK id::k) .normal s↔W S wl J rs Q k .normal s:=Iff.rfl
theorem abW{id i:Nat}:W S wl J rs Q (.jK id::k) (.exit i) s↔if i=id then W S wl J rs Q k .normal s else W S wl J rs Q k (.exit i) s:=by
 unfold W;simp only[ou];split<;>exact Iff.rfl
theorem abX{id:Nat}{v:AV}:W S wl J rs Q (.jK id::k) (.ret v) s↔W S wl J rs Q k (.ret v) s:=Iff.rfl
theorem abY{l:List aY}{di:List Nat}{i:Nat}:W S wl J rs Q (.cN l di::k) (.exit i) s↔W S wl J rs Q k (.exit i) s:=Iff.rfl
theorem abZ{l:List aY}{di:List Nat}{v:AV}:W S wl J rs Q (.cN l di::k) (.ret v) s↔W S wl J rs Q k (.ret v) s:=Iff.rfl
theorem XU{c:bE}{i:Nat}:W S wl J rs Q (.code c::k) (.exit i) s↔W S wl J rs Q k (.exit i) s:=Iff.rfl
theorem XV{c:bE}{v:AV}:W S wl J rs Q (.code c::k) (.ret v) s↔W S wl J rs Q k (.ret v) s:=Iff.rfl
theorem Tr{c:bE}{i:Nat}:W S wl J rs Q (.vH c::k) (.exit i) s↔W S wl J rs Q k (.exit i) s:=Iff.rfl
theorem Ts{c:bE}{v:AV}:W S wl J rs Q (.vH c::k) (.ret v) s↔W S wl J rs Q k (.ret v) s:=Iff.rfl
theorem fC{c:bE}:W S wl J rs Q (.vH c::k) .normal s↔W S wl J rs Q (.code (.loop c)::k) .normal s:=Iff.rfl
theorem ab0{di:List Nat}:W S wl J rs Q (.cN [] di::k) .normal s↔W S wl J rs Q k .normal { s with env:=iU di s.env }:=Iff.rfl
theorem alk{o:aY}{l:List aY}{di:List Nat}:W S wl J rs Q (.cN (o::l) di::k) .normal s↔∃s',gO (aT S) wl J o s=some s'/\W S wl J rs Q (.cN l di::k) .normal s':=by
 unfold W;simp only[ou,fB];cases gO (aT S) wl J o s with
 |none=>simp|some s'=>simp
theorem ab1:W S wl J rs Q (.code .skip::k) .normal s↔W S wl J rs Q k .normal s:=Iff.rfl
theorem ab2{id:Nat}:W S wl J rs Q (.code (.exit id)::k) .normal s↔W S wl J rs Q k (.exit id) s:=Iff.rfl
theorem agH:W S wl J rs Q (.code .ret::k) .normal s↔∃v,x3 s rs=some v/\W S wl J rs Q k (.ret v) ⟨[],[],s.st⟩:=by
 unfold W;simp only[ou,iu];cases x3 s rs with
 |none=>simp|some v=>simp
theorem agI{a b:bE}:W S wl J rs Q (.code (.seq a b)::k) .normal s↔W S wl J rs Q (.code a::.code b::k) .normal s:=by
 unfold W;simp only[ou,iu];cases h:iu (aT S) wl J rs a s with
 |none=>simp|some y=>
  obtain⟨x,s'⟩:=y;cases x<;>simp
theorem Tt{l:List aY}{di:List Nat}:W S wl J rs Q (.code (.region l none di)::k) .normal s↔W S wl J rs Q (.cN l di::k) .normal s:=by
 unfold W;simp only[ou,iu];cases h:fB (aT S) wl J l s with
 |none=>simp|some s'=>simp
theorem B5{O:j4}:∀{l:List aY}{s:St},(eH O wl J l s).map (·.1)=fB O wl J l s
 |[],s=>rfl|o::l,s=>by
  simp only[eH,fB];cases h:gO O wl J o s with
  |none=>rfl|some s'=>
   simp only;rw[<-B5 (l:=l) (s:=s')];cases eH O wl J l s' with
   |none=>rfl|some y=>rfl
def aC:List aY->Bool
 |[]=>true|o::l=>(match o.op.b8 with|some _=>false|none=>true)&&aC l
theorem Eb{env:pU}:∀{l:List aY},aC l=true->l.all (bD env)=true
 |[],_=>rfl|o::l,h=>by
  simp only[aC,Bool.and_eq_true]at h;simp only[List.all_cons,Eb h.2,Bool.and_true];unfold bD;cases hb:o.op.b8 with
  |none=>rfl|some j=>rw[hb]at h;simp at h
theorem u6{O:j4}{l:List aY}(h:l.all (bD s.env)=true):fY O wl J l [] s=fB O wl J l s:=by
 unfold fY;rw[<-B5];cases eH O wl J l s with
 |none=>rfl|some y=>
  obtain⟨e,iB⟩:=y;simp only[List.all_nil,h,Bool.and_self,if_true,Option.map_some]
theorem aF{l:List aY}{di:List Nat}(h:aC l=true):W S wl J rs Q (.code (.region l (some []) di)::k) .normal s↔W S wl J rs Q (.cN l di::k) .normal s:=by
 unfold W;simp only[ou,iu,u6 (Eb h)];cases h:fB (aT S) wl J l s with
 |none=>simp|some s'=>simp
theorem aV{l:List aY}{di:List Nat}:W S wl J rs Q (.code (.region l (some []) di)::k) .normal s↔l.all (bD s.env)=true/\W S wl J rs Q (.cN l di::k) .normal s:=by
 by_cases h:l.all (bD s.env)=true;unfold W;simp only[ou,iu,u6 h];cases h2:fB (aT S) wl J l s with
 |none=>simp|some s'=>simp[h]
 unfold W;simp only[ou,iu,fY];cases h2:eH (aT S) wl J l s with
 |none=>simp[h]|some y=>obtain⟨e,iB⟩:=y;simp[h]
theorem zO{l:List aY}{bG:List (Nat×Nat)}{di:List Nat}:W S wl J rs Q (.code (.region l (some bG) di)::k) .normal s↔
  ∃e iB,eH (aT S) wl J l s=some (e,iB)/\(bG.all (jx (aT S) wl J l iB)&&l.all (bD s.env))=true/\W S wl J rs Q k .normal { e with env:=iU di e.env }:=by
 unfold W;simp only[ou,iu,fY];cases h:eH (aT S) wl J l s with
 |none=>simp|some y=>
  obtain⟨e,iB⟩:=y;by_cases hc:(bG.all (jx (aT S) wl J l iB)&&l.all (bD s.env))=true;simp only[hc,if_true];constructor;rintro⟨x',s',h1,h2⟩;exact⟨e,iB,rfl,hc,x',s',h1,h2⟩;rintro⟨e',alm,h0,_,x',s',h1,h2⟩;cases h0;exact⟨x',s',h1,h2⟩;simp only[hc];constructor;rintro⟨x',s',h1,_⟩;cases h1;rintro⟨e',alm,h0,hf,_⟩;cases h0;exact absurd hf hc
theorem ab3{c:Src}{ca cb:List Nat}{a b:bE}:W S wl J rs Q (.code (.cond c ca a cb b)::k) .normal s↔
  ∃t,qX s.env c=some t/\W S wl J rs Q (.code (if t then a else b)::k) .normal { s with env:=iU (if t then ca else cb) (mE s.env c) }:=by
 unfold W;simp only[ou,iu];cases qX s.env c with
 |none=>simp|some t=>cases t<;>simp
theorem XW{id:Nat}{c:bE}:W S wl J rs Q (.code (.block id c)::k) .normal s↔W S wl J rs Q (.code c::.jK id::k) .normal s:=by
 unfold W;simp only[ou,iu];cases h:iu (aT S) wl J rs c s with
 |none=>simp|some y=>
  obtain⟨x,s'⟩:=y;cases x with
  |normal=>simp|exit i=>by_cases hi:i=id<;>simp[hi]|ret v=>simp
theorem yS{c:bE}:W S wl J rs Q (.code (.loop c)::k) .normal s↔W S wl J rs Q (.code c::.vH c::k) .normal s:=by
 unfold W;simp only[ou,iu];rw[Qf];cases h:iu (aT S) wl J rs c s with
 |none=>simp|some y=>
  obtain⟨x,s'⟩:=y;cases x<;>simp
theorem agJ{t:Nat}:W S wl J rs Q (.code (.Qe t)::k) .normal s↔∃v v' st',cK s.env t=.val v/\iI wl v s.st=some (v',st')/\W S wl J rs Q k .normal ⟨vN s.env t (.val v'),s.bx,st'⟩:=by
 unfold W;simp only[ou,iu];cases h:cK s.env t with
 |none=>simp|fp j k=>simp|val v=>
  simp only;cases h2:iI wl v s.st with
  |none=>simp[h2]|some y=>
   obtain⟨v',st'⟩:=y;constructor;intro h;exact⟨v,v',st',rfl,h2,h⟩;rintro⟨_,_,_,e1,e2,h⟩;cases e1;rw[h2]at e2;cases e2;exact h
theorem M5{t off:Nat}:W S wl J rs Q (.code (.xX t off)::k) .normal s↔∃id b6 i k' v v' rf qg,cK s.env t=.val (.ptr id b6 i k')/\jD s.st (.ptr id b6 i (k'+off)) 1=some [v]/\qp wl v s.st=some (v',rf)/\
  fV wl J rf (.ptr id b6 i (k'+off)) [v']=some qg/\W S wl J rs Q k .normal ⟨s.env,s.bx,qg⟩:=by
 constructor;intro h;unfold W at h;simp only[ou]at h;cases hc:iu (aT S) wl J rs (.xX t off) s with
 |none=>rw[hc]at h;simp at h|some y=>
  obtain⟨x1,s1⟩:=y;rw[hc]at h;obtain⟨rfl,id,b6,i,k',v,v',rf,qg,g1,g2,g3,g4,rfl⟩:=Dr hc;exact⟨id,b6,i,k',v,v',rf,qg,g1,g2,g3,g4,h⟩
 rintro⟨id,b6,i,k',v,v',rf,qg,g1,g2,g3,g4,h⟩;unfold W;simp only[ou,iu,g1,g2,g3,g4];exact h
theorem W.imp{Q':Ex->St->Prop}{x:Ex}(h:W S wl J rs Q k x s)(hq:∀x s,Q x s->Q' x s):W S wl J rs Q' k x s:=by
 obtain⟨x',s',h1,h2⟩:=h;exact⟨x',s',h1,hq _ _ h2⟩
theorem Ec{sf:aD}{args:List AV}{st:ai}(hl:args.length=sf.aE){r:AV×ai}
  (h:W S (sf.mode.yH st.length wl) (sf.mode.qY st.length J) sf.results (λx s=>∃v,Fy sf.results x s=some v/\sf.mode.mM st v s.st=some r) [.code sf.body] .normal (qZ sf args st)) :
  dh (aT S) wl J sf args st=some r:=by
 simp only[dh,hl,if_true];obtain⟨x',s',h1,v,h2,h3⟩:=h;simp only[ou]at h1;cases hs:iu (aT S) (sf.mode.yH st.length wl) (sf.mode.qY st.length J) sf.results sf.body (qZ sf args st) with
 |none=>rw[hs]at h1;cases h1|some y=>
  obtain⟨x,s⟩:=y;rw[hs]at h1;simp only at h1;cases h1;simp only[h2,h3]
theorem QL{f:Nat}{sf:aD}(hf:S f=some sf){args:List AV}{st:ai}(ha:sG sf args=false)(hl:args.length=sf.aE){r:AV×ai}
  (h:W S (sf.mode.yH st.length wl) (sf.mode.qY st.length J) sf.results (λx s=>∃v,Fy sf.results x s=some v/\sf.mode.mM st v s.st=some r) [.code sf.body] .normal (qZ sf args st)) :
  (aT S).call wl J f args st=some r:=by
 rw[AS,hf];simp only[eA,ha,Bool.false_eq_true,if_false];exact Ec hl h
theorem QM{f:Nat}{sf:aD}(hf:S f=some sf)(hm:sf.mode=.pure){args:List AV}{st:ai}(hp:AV.af args=true)(hl:args.length=sf.aE){v:AV}(hv:v.au=true)
  (h:W S 0 0 sf.results (λx s=>Fy sf.results x s=some v) [.code sf.body] .normal (qZ sf args [])) :
  (aT S).call wl J f args st=some (v,st):=by
 rw[AS,hf];have ha:sG sf args=true:=by simp[sG,hm,hp]
 simp only[eA,ha,if_true];have:=Ec (S:=S) (wl:=0) (J:=0) (sf:=sf) (args:=args) (st:=[]) hl (r:=(v,[])) (by
  rw[hm];obtain⟨x',s',h1,h2⟩:=h;exact⟨x',s',h1,v,h2,by simp[Mode.mM,hv]⟩)
 rw[this]
 rfl
def WO(S:Nat->Option aD)(wl J:Nat)(rs:List kD)(Q:Ex->St->Prop)(l:List aY)(di:List Nat)(k:List Ip):Option St->Prop
 |some s=>W S wl J rs Q (.cN l di::k) .normal s|none=>False
def WC(S:Nat->Option aD)(wl J:Nat)(rs:List kD)(Q:Ex->St->Prop)(ca cb:List Nat)(a b:bE)(k:List Ip)(s:St):Option Bool->Prop
 |some true=>W S wl J rs Q (.code a::k) .normal { s with env:=iU ca s.env }|some false=>W S wl J rs Q (.code b::k) .normal { s with env:=iU cb s.env }|none=>False
def WV(S:Nat->Option aD)(wl J:Nat)(rs:List kD)(Q:Ex->St->Prop)(k:List Ip)(st:ai):Option AV->Prop
 |some v=>W S wl J rs Q k (.ret v) ⟨[],[],st⟩|none=>False
theorem agK{o:aY}{l:List aY}{di:List Nat}:W S wl J rs Q (.cN (o::l) di::k) .normal s↔WO S wl J rs Q l di k (gO (aT S) wl J o s):=by
 rw[alk];cases gO (aT S) wl J o s with
 |none=>simp[WO]|some s'=>simp[WO]
theorem XX{c:Src}{ca cb:List Nat}{a b:bE}:W S wl J rs Q (.code (.cond c ca a cb b)::k) .normal s↔WC S wl J rs Q ca cb a b k { s with env:=mE s.env c } (qX s.env c):=by
 rw[ab3];cases qX s.env c with
 |none=>simp[WC]|some t=>cases t<;>simp[WC]
theorem ab4:W S wl J rs Q (.code .ret::k) .normal s↔WV S wl J rs Q k s.st (x3 s rs):=by
 rw[agH];cases x3 s rs with
 |none=>simp[WV]|some v=>simp[WV]
theorem XY{l:List aY}{di:List Nat}:WO S wl J rs Q l di k (some s)↔W S wl J rs Q (.cN l di::k) .normal s:=Iff.rfl
theorem XZ{l:List aY}{di:List Nat}:WO S wl J rs Q l di k none↔False:=Iff.rfl
theorem ab5{l:List aY}{di:List Nat}{c:Prop} [Decidable c]:WO S wl J rs Q l di k (if c then some s else none)↔c/\W S wl J rs Q (.cN l di::k) .normal s:=by
 by_cases h:c<;>simp[h,WO]
theorem X1{ca cb:List Nat}{a b:bE}:WC S wl J rs Q ca cb a b k s (some true)↔W S wl J rs Q (.code a::k) .normal { s with env:=iU ca s.env }:=Iff.rfl
theorem Tu{ca cb:List Nat}{a b:bE}:WC S wl J rs Q ca cb a b k s (some false)↔W S wl J rs Q (.code b::k) .normal { s with env:=iU cb s.env }:=Iff.rfl
theorem X2{st:ai}{v:AV}:WV S wl J rs Q k st (some v)↔W S wl J rs Q k (.ret v) ⟨[],[],st⟩:=Iff.rfl
end Ax
namespace Ax
open Go
attribute [simp ↓] agF agG abW abX abY abZ XU XV Tr Ts ab0 agK ab1 ab2 ab4 agI Tt XX XW
attribute [simp] XY XZ ab5 X1 Tu X2
attribute [simp] gO mL tC JN mE xZ ir.b8 iU eO.aa AV.aa AV.cJ sF x3 yG Dn
 AV.au AV.af cK vN Co qZ Mode.yH Mode.qY Mode.mM Fy Gc qX ck cut je fN mF pX eO.pB
variable {S:Nat->Option aD}{wl J:Nat}{rs:List kD}{Q:Ex->St->Prop}{k:List Ip}{st:ai}{bx:aX}
def sj(st:ai)(bx:aX):Option AV->Option (eO×ai×aX)
 |some v=>some (.val v,st,bx)|none=>none
@[simp]theorem aeK{v:AV}:sj st bx (some v)=some (.val v,st,bx):=rfl
@[simp]theorem aeL:sj st bx none=none:=rfl
@[simp]theorem agL{c:Prop} [Decidable c]{v:AV}:sj st bx (if c then some v else none)=if c then some (.val v,st,bx) else none:=by by_cases h:c<;>simp[h]
theorem Iq{c b:bE}{s:St}(h:c=b):W S wl J rs Q (.code (.loop c)::k) .normal s↔W S wl J rs Q (.code b::.vH c::k) .normal s:=by
 rw[yS];subst h;exact Iff.rfl
@[simp]theorem ab6:dD st .U=some []:=rfl
@[simp]theorem ab7:dD st .lU=some []:=rfl
@[simp]theorem ab8{sz:Nat}{r:List (List AV)}:dD st (.dc sz r)=some r:=rfl
@[simp]theorem ab9{sz:Nat}{r:List (List AV)}:dD st (.lA sz r)=some r:=rfl
@[simp]theorem aeM{id b6:Nat}:dD st (.mu id b6)=match st[id]? with|some (.rows v _ rows)=>if v=b6 then some rows else none|_=>none:=rfl
@[simp]theorem X3:cV st .U=some []:=rfl
@[simp]theorem X4:cV st .lU=some []:=rfl
@[simp]theorem X5{sz:Nat}{r:List (List AV)}:cV st (.dc sz r)=some r:=rfl
@[simp]theorem X6{sz:Nat}{r:List (List AV)}:cV st (.lA sz r)=some r:=rfl
@[simp]theorem X7{l:List UInt8}:cV st (.str l)=some (eR l):=rfl
@[simp]theorem agM{l:List UInt8}:oD st .str (.str l)=some l.length:=rfl
@[simp]theorem ajl{v:AV}:oD st .sl v=(dD st v).map List.length:=by
 cases v<;>simp only[oD]<;>cases dD st _<;>rfl
@[simp]theorem ajm{id:Nat}:oD st .mp (.map id)=match st[id]? with|some (.map es)=>some es.length|_=>none:=rfl
def CA(sz:Nat)(st:ai)(x:AV)(i:Int):Option AV:=match x with
 |.dc s rows|.lA s rows=>if s=sz/\0<=i/\i<rows.length then some (.qm sz rows i.toNat 0) else none
 |.mu id b6=>match st[id]? with
  |some (.rows v s rows)=>if v=b6/\s=sz/\0<=i/\i<rows.length then some (.ptr id b6 i.toNat 0) else none
  |_=>none
 |_=>none
@[simp]theorem agN{sz s:Nat}{r:List (List AV)}{i:Int}:CA sz st (.dc s r) i=if s=sz/\0<=i/\i<r.length then some (.qm sz r i.toNat 0) else none:=rfl
@[simp]theorem agO{sz s:Nat}{r:List (List AV)}{i:Int}:CA sz st (.lA s r) i=if s=sz/\0<=i/\i<r.length then some (.qm sz r i.toNat 0) else none:=rfl
@[simp]theorem ajn{sz id b6:Nat}{i:Int}:CA sz st (.mu id b6) i=match st[id]? with|some (.rows v s rows)=>if v=b6/\s=sz/\0<=i/\i<rows.length then some (.ptr id b6 i.toNat 0) else none|_=>none:=rfl
def x7(sz bytes:Nat)(s:AV)(new:List (List AV)):Option AV:=
 if bV sz new=true then match s with
  |.U|.lU=>if new.isEmpty then some s else if new.length*bytes<=dx then some (.lA sz new) else none
  |.lA jw old=>if jw=sz/\(old.length+new.length)*bytes<=dx then some (.lA sz (old++new)) else none
  |_=>none else none
@[simp]theorem aln{e:eO}:aP wl J .move [e] st bx=some (e,st,bx):=rfl
@[simp]theorem alo{b:Bool}{x y:eO}:aP wl J .pick [.val (.bool b),x,y] st bx=some (if b then x else y,st,bx):=rfl
@[simp]theorem aop{op:BinOp}{x y:AV}:aP wl J (.aJ op) [.val x,.val y] st bx=sj st bx (iT op x y):=by
 simp only[aP];cases iT op x y<;>rfl
@[simp]theorem aoq{kk:EqK}{neg:Bool}{x y:AV}:aP wl J (.BH kk neg) [.val x,.val y] st bx=sj st bx ((Ga kk x y).map λb=>.bool (if neg then !b else b)):=by
 simp only[aP];cases Ga kk x y<;>rfl
@[simp]theorem aqy{op:UnOp}{x:AV}:aP wl J (.un op) [.val x] st bx=sj st bx (unV op x):=by
 simp only[aP];cases unV op x<;>rfl
@[simp]theorem alp{kk l:IntKind}{n:Int}:aP wl J (.conv kk) [.val (.int l n)] st bx=some (.val (.int kk (kk.wrap n)),st,bx):=rfl
@[simp]theorem ajo{x:AV}:aP wl J .NY [.val x] st bx=sj st bx (((dD st x).bind oZ).map .str):=by
 simp only[aP];cases dD st x with
 |none=>rfl|some r=>simp only[Option.bind_some];cases oZ r<;>rfl
@[simp]theorem aor{lk:LK}{x:AV}:aP wl J (.len lk) [.val x] st bx=sj st bx ((oD st lk x).map λn=>.int .i64 n):=by
 simp only[aP];cases oD st lk x<;>rfl
@[simp]theorem agP{mx:Bool}{kk:IntKind}{a b:Int}:aP wl J (.yF mx) [.val (.int kk a),.val (.int kk b)] st bx=some (.val (.int kk (if mx then (if b > a then b else a) else (if b<a then b else a))),st,bx):=by
 simp[aP]
@[simp]theorem alq{j i:Nat}:aP wl J .nilCheck [.fp j i] st bx=some (.fp j i,st,bx):=rfl
@[simp]theorem alr{a b c d:Nat}:aP wl J .nilCheck [.val (.ptr a b c d)] st bx=some (.val (.ptr a b c d),st,bx):=rfl
@[simp]theorem als{a:Nat}{r:List (List AV)}{c d:Nat}:aP wl J .nilCheck [.val (.qm a r c d)] st bx=some (.val (.qm a r c d),st,bx):=rfl
@[simp]theorem aeN{i:Nat}{vs:List AV}:aP wl J (.extract i) [.val (.fF vs)] st bx=sj st bx vs[i]?:=by
 simp only[aP];cases vs[i]?<;>rfl
@[simp]theorem ajp{off n:Nat}{agg:Bool}{cs:List AV}:aP wl J (.field off n agg) [.val (.agg cs)] st bx=sj st bx ((cut cs off n).bind (ck agg)):=by
 simp only[aP];cases cut cs off n with
 |none=>rfl|some r=>simp only[Option.bind_some];cases ck agg r<;>rfl
@[simp]theorem ajq{zero:List AV}{parts:List (Nat×Nat)}{l:List eO}:aP wl J (.build zero parts) l st bx=sj st bx (((je l).bind (iO zero parts)).map .agg):=by
 simp only[aP];cases je l with
 |none=>rfl|some vs=>simp only[Option.bind_some];cases iO zero parts vs<;>rfl
@[simp]theorem aos{sz n:Nat}{zero:List AV}{parts:List Nat}{l:List eO}:aP wl J (.lit sz n zero parts) l st bx =
  sj st bx (((je l).bind λvs=>fW sz (List.replicate n zero) parts (AV.cJ vs)).bind λrows=>if rows.all AV.af&&rows.all AV.aO then some (if n=0 then .lU else .dc sz rows) else none):=by
 simp only[aP];cases je l with
 |none=>rfl|some vs=>
  simp only[Option.bind_some];cases fW sz (List.replicate n zero) parts (AV.cJ vs) with
  |none=>rfl|some rows=>simp only[Option.bind_some];split<;>rfl
@[simp]theorem X8{off j i:Nat}:aP wl J (.fieldAddr off) [.fp j i] st bx=some (.fp j (i+off),st,bx):=rfl
@[simp]theorem X9{off a b c d:Nat}:aP wl J (.fieldAddr off) [.val (.ptr a b c d)] st bx=some (.val (.ptr a b c (d+off)),st,bx):=rfl
@[simp]theorem Ya{off a c d:Nat}{r:List (List AV)}:aP wl J (.fieldAddr off) [.val (.qm a r c d)] st bx=some (.val (.qm a r c (d+off)),st,bx):=rfl
@[simp]theorem aaC{sz:Nat}{x:AV}{i:Int}:aP wl J (.indexAddr sz) [.val x,.val (.int .i64 i)] st bx=sj st bx (CA sz st x i):=by
 cases x<;>try rfl
 case dc s r=>simp only[aP,CA,Bool.and_eq_true,decide_eq_true_eq,and_assoc];split<;>rfl
 case lA s r=>simp only[aP,CA,Bool.and_eq_true,decide_eq_true_eq,and_assoc];split<;>rfl
 case mu id b6=>
  simp only[aP,CA,Bool.and_eq_true,decide_eq_true_eq,and_assoc];cases st[id]? with
  |none=>rfl|some ob=>cases ob with
   |rows v s r=>simp only;split<;>rfl|map es=>rfl
@[simp]theorem ajr{l:List UInt8}{i:Int}:aP wl J .index [.val (.str l),.val (.int .i64 i)] st bx=if 0<=i then sj st bx (l[i.toNat]?.map λb=>.int .u8 b.toNat) else none:=by
 simp only[aP];cases l[i.toNat]?<;>rfl
@[simp]theorem ax{agg:Bool}{n:Nat}{p:AV}:aP wl J (.load agg n false) [.val p] st bx=sj st bx ((jD st p n).bind λcs=>ck agg (AV.cJ cs)):=by
 simp only[aP];cases jD st p n with
 |none=>rfl|some cs=>simp only[Option.bind_some,Bool.false_eq_true,if_false];cases ck agg (AV.cJ cs)<;>rfl
@[simp]theorem ajs{zero:List AV}:aP wl J (.alloc zero) [] st bx=some (.val (.ptr st.length 0 0 0),st++[.rows 0 zero.length [zero]],bx):=rfl
@[simp]theorem agQ{sz bytes:Nat}{s x:AV}:aP wl J (.append sz bytes) [.val s,.val x] st bx=sj st bx ((cV [] x).bind (x7 sz bytes s)):=by
 simp only[aP];cases cV [] x with
 |none=>rfl|some new=>
  simp only[Option.bind_some,x7];by_cases hf:bV sz new=true
  ·simp only[hf,if_true];cases s<;>simp only[Bool.and_eq_true,decide_eq_true_eq]<;>(try rfl)<;>repeat' split
   all_goals rfl
  simp only[hf];rfl
@[simp]theorem agR{sz bytes:Nat}{zero:List AV}{n c:Int}:aP wl J (.qV sz bytes zero false) [.val (.int .i64 n),.val (.int .i64 c)] st bx =
  if 0<=n/\n<=c/\c*bytes<=dx/\zero.length=sz then (if AV.af zero then some (.val (.lA sz (List.replicate n.toNat zero)),st,bx) else none) else none:=rfl
@[simp]theorem aeO{sz bytes:Nat}{zero:List AV}{n c:Int}:aP wl J (.zm sz bytes zero) [.val (.int .i64 n),.val (.int .i64 c)] st bx =
  if 0<=n/\n<=c/\c*bytes<=dx/\zero.length=sz/\AV.af zero=true then some (.val (.raw sz (List.replicate n.toNat zero)),st,bx) else none:=rfl
@[simp]theorem GJ{sz bytes:Nat}{zero:List AV}{n c:Int}:aP wl J (.qV sz bytes zero true) [.val (.int .i64 n),.val (.int .i64 c)] st bx =
  if 0<=n/\n<=c/\c*bytes<=dx/\zero.length=sz then some (.val (.mu st.length 0),st++[.rows 0 sz (List.replicate n.toNat zero)],bx) else none:=rfl
@[simp]theorem ag{n:Nat}{p v:AV}:aP wl J (.store n) [.val p,.val v] st bx=if v.cells.length=n/\AV.aO v.cells=true then (fV wl J st p v.cells).map λs=>(.none,s,bx) else none:=by
 simp only[aP,Bool.and_eq_true,decide_eq_true_eq];split;cases fV wl J st p v.cells<;>rfl
 rfl
@[simp]theorem acd{id b6 i j:Nat}{cells:List AV}:fV wl J st (.ptr id b6 i j) cells=match st[id]? with
  |some (.rows v sz rows)=>if v=b6/\bq wl J id cells=true then rows[i]?.bind λr=>if j+cells.length<=r.length then some (st.set id (.rows v sz (rows.set i (ah r j cells)))) else none else none
  |_=>none:=by
 simp only[fV];cases st[id]? with
 |none=>rfl|some ob=>cases ob with
  |map es=>rfl|rows v sz rows=>
   simp only[Bool.and_eq_true,decide_eq_true_eq];split;cases rows[i]?<;>rfl
   rfl
attribute [simp] bq
@[simp]theorem agS{sz id b6:Nat}{hi:Int}:aP wl J (.pW sz) [.val (.mu id b6),.val (.int .i64 hi)] st bx=match st[id]? with
  |some (.rows v s rows)=>if v=b6/\s=sz/\0<=hi/\hi<=rows.length/\wl<=id then some (.val (.mu id (v+1)),st.set id (.rows (v+1) s (rows.take hi.toNat)),bx) else none
  |_=>none:=by
 simp only[aP,Bool.and_eq_true,decide_eq_true_eq,and_assoc];cases st[id]? with
 |none=>rfl|some ob=>cases ob<;>rfl
@[simp]theorem aeP{sz bytes id b6:Nat}{x:AV}:aP wl J (.kh sz bytes) [.val (.mu id b6),.val x] st bx=(cV st x).bind λnew=>if bV sz new=true then match st[id]? with
  |some (.rows v jw old)=>if v=b6/\jw=sz/\(old.length+new.length)*bytes<=dx/\wl<=id/\(J<=id\/new.all AV.af=true) then some (.val (.mu id (v+1)),st.set id (.rows (v+1) sz (old++new)),bx) else none
  |_=>none else none:=by
 simp only[aP,xY,Bool.and_eq_true,decide_eq_true_eq,Bool.or_eq_true,and_assoc];cases cV st x with
 |none=>rfl|some new=>rfl
@[simp]theorem alu:aP wl J .Qd [.val .U] st bx=some (.val (.int .i64 0),st,bx):=rfl
@[simp]theorem aeQ{sz bytes:Nat}{s:AV}{zero:List AV}{n:Int}:aP wl J (.sC sz bytes zero) [.val s,.val (.int .i64 n)] st bx =
  if 0<=n/\n*bytes<=dx/\zero.length=sz/\AV.af zero=true then xY wl J sz bytes s (List.replicate n.toNat zero) st bx else none:=rfl
@[simp]theorem ace{sz bytes:Nat}{x:AV}:aP wl J (.kh sz bytes) [.val .U,.val x] st bx=(cV st x).bind λnew=>if bV sz new=true then (if new.isEmpty=true then some (.val .U,st,bx) else if new.length*bytes<=dx then some (.val (.mu st.length 0),st++[.rows 0 sz new],bx) else none) else none:=by
 simp only[aP];cases cV st x with
 |none=>rfl|some new=>rfl
@[simp]theorem acf{sz bytes:Nat}{x:AV}:aP wl J (.kh sz bytes) [.val .lU,.val x] st bx=(cV st x).bind λnew=>if bV sz new=true then (if new.length*bytes<=dx then some (.val (.mu st.length 0),st++[.rows 0 sz new],bx) else none) else none:=by
 simp only[aP];cases cV st x with
 |none=>rfl|some new=>rfl
@[simp]theorem ajt{j i n:Nat}{agg:Bool}:aP wl J (.aL j agg n false) [.fp j i] st bx=sj st bx ((bx[j]?.bind λaG=>cut aG i n).bind λcs=>ck agg (AV.cJ cs)):=by
 simp only[aP,if_true];cases bx[j]? with
 |none=>rfl|some aG=>
  simp only[Option.bind_some];cases cut aG i n with
  |none=>rfl|some cs=>simp only[Option.bind_some,Bool.false_eq_true,if_false];cases ck agg (AV.cJ cs)<;>rfl
@[simp]theorem agT{j i n:Nat}{agg:Bool}:aP wl J (.aL j agg n true) [.fp j i] st bx=(bx[j]?.bind λaG=>(cut aG i n).bind λcs=>(ck agg cs).map λv=>(.val v,st,bx.set j (ah aG i (cs.map AV.kQ)))):=by
 simp only[aP,if_true];cases bx[j]? with
 |none=>rfl|some aG=>
  simp only[Option.bind_some];cases cut aG i n with
  |none=>rfl|some cs=>simp only[Option.bind_some];cases ck agg cs<;>rfl
@[simp]theorem agU{j i n:Nat}{v:AV}:aP wl J (.aj j n) [.fp j i,.val v] st bx=if v.cells.length=n/\AV.aO v.cells=true then bx[j]?.bind λaG=>(if i+n<=aG.length then some (.none,st,bx.set j (ah aG i v.cells)) else none) else none:=by
 simp only[aP,Bool.and_eq_true,decide_eq_true_eq,true_and];split;cases bx[j]?<;>rfl
 rfl
@[simp]theorem agV{j:Nat}{zero:List AV}:aP wl J (.aN j zero) [] st bx=if j<bx.length then some (.fp j 0,st,bx.set j zero) else none:=rfl
@[simp]theorem OA{n:Nat}{v:AV}:aP wl J (.box n) [.val v] st bx=if v.cells.length=n/\AV.aO v.cells=true then some (.val (.ptr st.length 0 0 0),st++[.rows 0 n [v.cells]],bx) else none:=by
 simp only[aP,Bool.and_eq_true,decide_eq_true_eq]
@[simp]theorem alv{j n:Nat}{v:AV}:aP wl J (.iA j n) [.val v] st bx=if j<bx.length/\v.cells.length=n/\AV.aO v.cells=true then some (.fp j 0,st,bx.set j v.cells) else none:=by
 simp only[aP,Bool.and_eq_true,decide_eq_true_eq,and_assoc]
@[simp]theorem acg{f n:Nat}{l:List eO}:aP wl J (.makeFunc f n) l st bx=sj st bx ((je l).map λvs=>.fn f (AV.cJ (vs.take n)) (AV.cJ (vs.drop n))):=by
 simp only[aP];cases je l<;>rfl
@[simp]theorem aeR{vZ:Bool}{sz:Nat}{x:AV}{b:Int}:aP wl J (.slice vZ false true false sz) [.val x,.val (.int .i64 b)] st bx=(oD st (if vZ then .str else .sl) x).bind λ_=>sj st bx (jJ vZ sz x 0 b none):=by
 simp only[aP];cases oD st (if vZ then LK.str else LK.sl) x with
 |none=>rfl|some n=>simp only[sF,Bool.false_eq_true,if_false,if_true,Option.bind_some];cases jJ vZ sz x 0 b none<;>rfl
@[simp]theorem aeS{vZ:Bool}{sz:Nat}{x:AV}{a:Int}:aP wl J (.slice vZ true false false sz) [.val x,.val (.int .i64 a)] st bx=(oD st (if vZ then .str else .sl) x).bind λn=>sj st bx (jJ vZ sz x a n none):=by
 simp only[aP];cases oD st (if vZ then LK.str else LK.sl) x with
 |none=>rfl|some n=>simp only[sF,Bool.false_eq_true,if_false,if_true,Option.bind_some];cases jJ vZ sz x a n none<;>rfl
@[simp]theorem aeT{vZ:Bool}{sz:Nat}{x:AV}{a b:Int}:aP wl J (.slice vZ true true false sz) [.val x,.val (.int .i64 a),.val (.int .i64 b)] st bx=(oD st (if vZ then .str else .sl) x).bind λ_=>sj st bx (jJ vZ sz x a b none):=by
 simp only[aP];cases oD st (if vZ then LK.str else LK.sl) x with
 |none=>rfl|some n=>simp only[sF,if_true,Option.bind_some];cases jJ vZ sz x a b none<;>rfl
@[simp]theorem ach{sz:Nat}{s:List UInt8}{a b:Int}:jJ true sz (.str s) a b none=if 0<=a/\a<=b/\b<=s.length then some (.str ((s.take b.toNat).drop a.toNat)) else none:=by
 simp[jJ,and_assoc]
attribute [simp] AV.kQ
@[simp]theorem agW{op:BinOp}{kk:IntKind}{a b:Int}:iT op (.int kk a) (.int kk b)=lD op kk a b:=by simp[iT]
@[simp]theorem dM{a b:List UInt8}:iT .add (.str a) (.str b)=if a.length+b.length<=4611686018427387904 then some (.str (a++b)) else none:=rfl
@[simp]theorem alw{a b:List UInt8}:iT .eql (.str a) (.str b)=some (.bool (decide (a=b))):=by simp only[iT];by_cases h:a=b<;>simp[h]
@[simp]theorem alx{a b:List UInt8}:iT .neq (.str a) (.str b)=some (.bool (!decide (a=b))):=by simp only[iT];by_cases h:a=b<;>simp[h]
@[simp]theorem aju{b:Bool}:unV .not (.bool b)=some (.bool (!b)):=rfl
@[simp]theorem ajv{kk:IntKind}{a:Int}:unV .neg (.int kk a)=some (.int kk (kk.wrap (0-a))):=rfl
@[simp]theorem agX{a b:Bool}:Ga (.sc .bool) (.bool a) (.bool b)=some (decide (a=b)):=by cases a<;>cases b<;>rfl
@[simp]theorem ajw{kk:IntKind}{a b:Int}:Ga (.sc .int) (.int kk a) (.int kk b)=some (decide (a=b)):=by simp[Ga,Fp];by_cases h:a=b<;>simp[h]
@[simp]theorem ajx{a b:List UInt8}:Ga (.sc .str) (.str a) (.str b)=some (decide (a=b)):=by simp[Ga,Fp];by_cases h:a=b<;>simp[h]
@[simp]theorem agY{ks:List SK}{a b:List AV}:Ga (.flat ks) (.agg a) (.agg b)=Fq ks a b:=rfl
attribute [simp] Fq
@[simp]theorem agZ{a b:Bool}:Fp .bool (.bool a) (.bool b)=some (decide (a=b)):=by cases a<;>cases b<;>rfl
@[simp]theorem ajy{kk:IntKind}{a b:Int}:Fp .int (.int kk a) (.int kk b)=some (decide (a=b)):=by simp[Fp];by_cases h:a=b<;>simp[h]
@[simp]theorem ajz{a b:List UInt8}:Fp .str (.str a) (.str b)=some (decide (a=b)):=by simp[Fp];by_cases h:a=b<;>simp[h]
section
variable {kk:IntKind}{a b:Int}
@[simp]theorem aly:lD .add kk a b=some (.int kk (kk.wrap (a+b))):=rfl
@[simp]theorem alz:lD .sub kk a b=some (.int kk (kk.wrap (a-b))):=rfl
@[simp]theorem alA:lD .mul kk a b=some (.int kk (kk.wrap (a*b))):=rfl
@[simp]theorem alB:lD .quo kk a b=if b=0 then none else some (.int kk (kk.wrap (a.tdiv b))):=rfl
@[simp]theorem alC:lD .rem kk a b=if b=0 then none else some (.int kk (a.tmod b)):=rfl
@[simp]theorem alD:lD .and kk a b=some (.int kk (kk.wrap ((BitVec.ofInt kk.bits a &&& BitVec.ofInt kk.bits b).toNat))):=rfl
@[simp]theorem alE:lD .eql kk a b=some (.bool (decide (a=b))):=by simp only[lD];by_cases h:a=b<;>simp[h]
@[simp]theorem alF:lD .neq kk a b=some (.bool (!decide (a=b))):=by simp only[lD];by_cases h:a=b<;>simp[h]
@[simp]theorem alG:lD .lss kk a b=some (.bool (decide (a<b))):=rfl
@[simp]theorem alH:lD .leq kk a b=some (.bool (decide (a<=b))):=rfl
@[simp]theorem alI:lD .gtr kk a b=some (.bool (decide (b<a))):=rfl
@[simp]theorem alJ:lD .geq kk a b=some (.bool (decide (b<=a))):=rfl
end
@[simp]theorem aeU{sz:Nat}{rows:List (List AV)}{i kk n:Nat}:jD st (.qm sz rows i kk) n=rows[i]?.bind λr=>cut r kk n:=by
 simp only[jD];cases rows[i]?<;>rfl
@[simp]theorem aeV{id b6 i kk n:Nat}:jD st (.ptr id b6 i kk) n=match st[id]? with
  |some (.rows v _ rows)=>if v=b6 then rows[i]?.bind λr=>cut r kk n else none
  |_=>none:=by
 simp only[jD];cases st[id]? with
 |none=>rfl|some ob=>cases ob with
  |rows v s r=>
   simp only;split;cases r[i]?<;>rfl
   rfl
  |map es=>rfl
@[simp]theorem aci(b:Bool):AV.cells (.bool b)=[.bool b]:=rfl
@[simp]theorem aaD(b:Bool):AV.cL (.bool b)=true:=rfl
@[simp]theorem aeW(kk:IntKind)(n:Int):AV.cells (.int kk n)=[.int kk n]:=rfl
@[simp]theorem acj(kk:IntKind)(n:Int):AV.cL (.int kk n)=true:=rfl
@[simp]theorem aeX(l:List UInt8):AV.cells (.str l)=[.str l]:=rfl
@[simp]theorem ack(l:List UInt8):AV.cL (.str l)=true:=rfl
@[simp]theorem Yb:AV.cells (.cY)=[.cY]:=rfl
@[simp]theorem WG:AV.cL (.cY)=true:=rfl
@[simp]theorem aaE:AV.cells (.U)=[.U]:=rfl
@[simp]theorem Yc:AV.cL (.U)=true:=rfl
@[simp]theorem Yd:AV.cells (.fU)=[.fU]:=rfl
@[simp]theorem WH:AV.cL (.fU)=true:=rfl
@[simp]theorem aaF:AV.cells (.jb)=[.jb]:=rfl
@[simp]theorem Ye:AV.cL (.jb)=true:=rfl
@[simp]theorem aaG:AV.cells (.kC)=[.kC]:=rfl
@[simp]theorem Yf:AV.cL (.kC)=true:=rfl
@[simp]theorem aeY(s:Nat)(r:List (List AV)):AV.cells (.dc s r)=[.dc s r]:=rfl
@[simp]theorem acm(s:Nat)(r:List (List AV)):AV.cL (.dc s r)=true:=rfl
@[simp]theorem aeZ(s:Nat)(r:List (List AV)):AV.cells (.lA s r)=[.lA s r]:=rfl
@[simp]theorem acn(s:Nat)(r:List (List AV)):AV.cL (.lA s r)=true:=rfl
@[simp]theorem ae0:AV.cells (.lU)=[.lU]:=rfl
@[simp]theorem aco:AV.cL (.lU)=true:=rfl
@[simp]theorem ag0(a b:Nat):AV.cells (.mu a b)=[.mu a b]:=rfl
@[simp]theorem ae1(a b:Nat):AV.cL (.mu a b)=true:=rfl
@[simp]theorem ae2(a b c d:Nat):AV.cells (.ptr a b c d)=[.ptr a b c d]:=rfl
@[simp]theorem acp(a b c d:Nat):AV.cL (.ptr a b c d)=true:=rfl
@[simp]theorem ae3(a:Nat)(r:List (List AV))(c d:Nat):AV.cells (.qm a r c d)=[.qm a r c d]:=rfl
@[simp]theorem acq(a:Nat)(r:List (List AV))(c d:Nat):AV.cL (.qm a r c d)=true:=rfl
@[simp]theorem ae4(a:Nat):AV.cells (.map a)=[.map a]:=rfl
@[simp]theorem acr(a:Nat):AV.cL (.map a)=true:=rfl
@[simp]theorem ag1(f:Nat)(a b:List AV):AV.cells (.fn f a b)=[.fn f a b]:=rfl
@[simp]theorem ae5(f:Nat)(a b:List AV):AV.cL (.fn f a b)=true:=rfl
@[simp]theorem acs:AV.cells (.gone)=[.gone]:=rfl
@[simp]theorem aaH:AV.cL (.gone)=true:=rfl
@[simp]theorem ae6(cs:List AV):AV.cells (.agg cs)=cs:=rfl
@[simp]theorem Yg:AV.aO []=true:=rfl
@[simp]theorem WI(a:AV)(l:List AV):AV.aO (a::l)=(a.cL&&AV.aO l):=rfl
attribute [simp] fW iO ah
theorem dn{n:Int}(h1 : -9223372036854775808<=n)(h2:n<=9223372036854775807):IntKind.i64.wrap n=n:=IntWalk.i64_in n ⟨h1,h2⟩
theorem wk(k:Nat)(h:k<9000000000000000000):IntKind.i64.wrap ((k:Int)+1)=((k+1:Nat):Int):=by rw[dn]<;>omega
end Ax
namespace Ax
open Go
variable {S:Nat->Option aD}{wl J:Nat}{rs:List kD}{Q:Ex->St->Prop}{k:List Ip}{st:ai}{bx:aX}
def M6(rs:List kD)(m:Mode)(st:ai)(r:AV×ai)(x:Ex)(s:St):Prop:=∃v,Fy rs x s=some v/\m.mM st v s.st=some r
theorem an{f:Nat}{sf:aD}(hf:S f=some sf){args:List AV}(ha:sG sf args=false)(hl:args.length=sf.aE){r:AV×ai}
  (h:W S (sf.mode.yH st.length wl) (sf.mode.qY st.length J) sf.results (M6 sf.results sf.mode st r) [.code sf.body] .normal (qZ sf args st)) :
  (aT S).call wl J f args st=some r:=QL hf ha hl h
@[simp]theorem KL{m:Mode}{r:AV×ai}{v:AV}{s:St}:M6 rs m st r (.ret v) s↔m.mM st v s.st=some r:=by
 simp[M6,Fy]
@[simp]theorem KM{m:Mode}{r:AV×ai}{s:St}:M6 rs m st r .normal s↔∃v,x3 s rs=some v/\m.mM st v s.st=some r:=Iff.rfl
def KN(rs:List kD)(v:AV)(x:Ex)(s:St):Prop:=Fy rs x s=some v
@[simp]theorem ae7{v u:AV}{s:St}:KN rs v (.ret u) s↔u=v:=by simp[KN,Fy]
@[simp]theorem ae8{v:AV}{s:St}:KN rs v .normal s↔x3 s rs=some v:=Iff.rfl
theorem bn{f:Nat}{sf:aD}(hf:S f=some sf)(hm:sf.mode=.pure){args:List AV}(hp:AV.af args=true)(hl:args.length=sf.aE){v:AV}(hv:v.au=true)
  (h:W S 0 0 sf.results (KN sf.results v) [.code sf.body] .normal (qZ sf args [])) :
  (aT S).call wl J f args st=some (v,st):=QM hf hm hp hl hv h
theorem ag2{α:Type}{c b:bE}(h:c=b)(f:α->St)(I:α->Prop)(μ:α->Nat)
  (round:∀a,I a->(∀a',I a'->μ a'<μ a->W S wl J rs Q (.code (.loop c)::k) .normal (f a'))->W S wl J rs Q (.code b::.vH c::k) .normal (f a)) :
  ∀a,I a->W S wl J rs Q (.code (.loop c)::k) .normal (f a):=by
 have key:∀n a,μ a=n->I a->W S wl J rs Q (.code (.loop c)::k) .normal (f a):=by
  intro n;induction n using Nat.strongRecOn with
  |_ n ih=>
   intro a hn ha;rw[Iq h];exact round a ha λa' h' bw=>ih (μ a') (by omega) a' rfl h'
 exact λa ha=>key _ a rfl ha
def bg:AV->List (List AV)
 |.dc _ r|.lA _ r=>r|_=>[]
def aR:AV->Bool
 |.U|.lU|.dc _ _|.lA _ _=>true|_=>false
def dg(sz:Nat):AV->Bool
 |.U|.lU=>true|.dc s r|.lA s r=>s==sz&&bV sz r|_=>false
@[simp]theorem Ed(v:AV):bg v.aa=bg v:=by cases v<;>simp[bg,AV.aa]
@[simp]theorem ug(v:AV):aR v.aa=aR v:=by cases v<;>simp[aR,AV.aa]
@[simp]theorem A7(sz:Nat)(v:AV):dg sz v.aa=dg sz v:=by cases v<;>simp[dg,AV.aa]
@[simp]theorem ae9:bg .U=[]:=rfl
@[simp]theorem afa:bg .lU=[]:=rfl
@[simp]theorem QN{sz:Nat}{r:List (List AV)}:bg (.dc sz r)=r:=rfl
@[simp]theorem QO{sz:Nat}{r:List (List AV)}:bg (.lA sz r)=r:=rfl
@[simp]theorem ag3:aR .U=true:=rfl
@[simp]theorem ag4:aR .lU=true:=rfl
@[simp]theorem ag5{sz:Nat}{r:List (List AV)}:aR (.dc sz r)=true:=rfl
@[simp]theorem ag6{sz:Nat}{r:List (List AV)}:aR (.lA sz r)=true:=rfl
@[simp]theorem ag7{sz:Nat}:dg sz .U=true:=rfl
@[simp]theorem ag8{sz:Nat}:dg sz .lU=true:=rfl
@[simp]theorem fZ{sz s:Nat}{r:List (List AV)}:dg sz (.dc s r)=(s==sz&&bV sz r):=rfl
@[simp]theorem ag9{sz s:Nat}{r:List (List AV)}:dg sz (.lA s r)=(s==sz&&bV sz r):=rfl
theorem o7{sz:Nat}{v:AV}(h:dg sz v=true):aR v=true:=by cases v<;>simp_all [dg,aR]
@[simp]theorem afb{v:AV}(h:aR v=true):dD st v=some (bg v):=by cases v<;>simp_all [aR,bg]
@[simp]theorem aaI{v:AV}(h:aR v=true):cV st v=some (bg v):=by cases v<;>simp_all [aR,bg]
@[simp]theorem ajA{sz:Nat}{v:AV}{i:Int}(h:dg sz v=true):CA sz st v i=if 0<=i/\i<(bg v).length then some (.qm sz (bg v) i.toNat 0) else none:=by
 by_cases hi:0<=i/\i<(bg v).length
 ·rw[if_pos hi];cases v<;>simp[dg]at h
  case U=>have:=hi.2;simp[bg]at this;omega
  case lU=>have:=hi.2;simp[bg]at this;omega
  case dc s r=>simp only[CA,bg];rw[if_pos ⟨h.1,hi⟩]
  case lA s r=>simp only[CA,bg];rw[if_pos ⟨h.1,hi⟩]
 ·rw[if_neg hi];cases v<;>simp[dg]at h
  case U=>rfl
  case lU=>rfl
  case dc s r=>simp only[CA];rw[if_neg λc=>hi c.2]
  case lA s r=>simp only[CA];rw[if_neg λc=>hi c.2]
mutual
theorem Ee:∀v:AV,v.aa.aa=v.aa
 |.lA _ _=>rfl|.raw _ _=>rfl|.agg cs=>by simp only[AV.aa];rw[wG cs]|.fF cs=>by simp only[AV.aa];rw[wG cs]|.undef|.gone|.bool _|.int _ _|.str _|.cY|.U|.fU|.jb|.kC|.dc _ _|.lU|.mu _ _|.ptr _ _ _ _|.qm _ _ _ _|.map _|.fn _ _ _=>rfl
theorem wG:∀cs:List AV,AV.cJ (AV.cJ cs)=AV.cJ cs
 |[]=>rfl|c::cs=>by simp only[AV.cJ];rw[Ee c,wG cs]
end
@[simp]theorem QS(v:AV):v.aa.aa=v.aa:=Ee v
@[simp]theorem cm{v:AV}(h:aR v=true):v.au=true:=by cases v<;>simp_all [aR]
@[simp]theorem aha{v:AV}(h:aR v=true):v.cells=[v]:=by cases v<;>simp_all [aR,AV.cells]
@[simp]theorem bK{v:AV}(h:aR v=true):v.cL=true:=by cases v<;>simp_all [aR,AV.cL]
def cC(sz:Nat)(r:List (List AV)):AV:=if r.isEmpty then .U else .lA sz r
@[simp]theorem Ef{sz:Nat}{r:List (List AV)}:bg (cC sz r)=r:=by
 cases r<;>rfl
@[simp]theorem dz{sz:Nat}{r:List (List AV)}:aR (cC sz r)=true:=by
 cases r<;>rfl
@[simp]theorem OB{sz:Nat}{r:List (List AV)}:dg sz (cC sz r)=bV sz r:=by
 cases r<;>simp[cC,dg,bV]
theorem o8{sz:Nat}:cC sz []=.U:=rfl
theorem gm{sz bytes:Nat}{r new:List (List AV)}(hf:bV sz new=true)(hr:(r.length+new.length)*bytes<=dx):x7 sz bytes (cC sz r) new=some (cC sz (r++new)):=by
 unfold x7;rw[if_pos hf];cases r with
 |nil=>
  cases new with
  |nil=>rfl|cons a l=>simp only[cC,List.isEmpty_nil,if_true,List.isEmpty_cons,Bool.false_eq_true,if_false,List.nil_append];rw[if_pos (by simpa using hr)]
 |cons b r=>simp only[cC,List.isEmpty_cons,Bool.false_eq_true,if_false,List.cons_append];rw[if_pos ⟨trivial,hr⟩]
def uh(v:AV)(lo hi:Nat):AV:=match v with
 |.dc s r|.lA s r=>.dc s ((r.take hi).drop lo)|x=>x
@[simp]theorem afc{sz:Nat}{v:AV}{lo hi:Int}(h:dg sz v=true):jJ false sz v lo hi none=if 0<=lo/\lo<=hi/\hi<=(bg v).length then some (uh v lo.toNat hi.toNat) else none:=by
 by_cases hc:0<=lo/\lo<=hi/\hi<=(bg v).length
 ·rw[if_pos hc];cases v<;>simp[dg]at h
  case U=>
   simp[bg]at hc;have:lo=0/\hi=0:=by omega
   obtain⟨rfl,rfl⟩:=this
   rfl
  case lU=>
   simp[bg]at hc;have:lo=0/\hi=0:=by omega
   obtain⟨rfl,rfl⟩:=this
   rfl
  case dc s r=>simp only[bg]at hc;simp[jJ,uh,h.1,hc]
  case lA s r=>simp only[bg]at hc;simp[jJ,uh,h.1,hc]
 ·rw[if_neg hc];cases v<;>simp[dg]at h
  case U=>
   simp only[jJ];refine if_neg λh=>hc ?_;simp at h;obtain⟨rfl,rfl⟩:=h;simp[bg]
  case lU=>
   simp only[jJ];refine if_neg λh=>hc ?_;simp at h;obtain⟨rfl,rfl⟩:=h;simp[bg]
  case dc s r=>
   simp only[jJ];refine if_neg λh=>hc ?_;simp at h;simp only[bg];exact⟨h.1.1.2,h.1.2,h.2⟩
  case lA s r=>
   simp only[jJ];refine if_neg λh=>hc ?_;simp at h;simp only[bg];exact⟨h.1.1.2,h.1.2,h.2⟩
@[simp]theorem ahb{v:AV}{lo hi:Nat}(h:aR v=true):aR (uh v lo hi)=true:=by
 cases v<;>simp_all [aR,uh]
@[simp]theorem QT{v:AV}{lo hi:Nat}(h:aR v=true):bg (uh v lo hi)=((bg v).take hi).drop lo:=by
 cases v<;>simp_all [aR,uh,bg]
theorem Tv{sz lo hi:Nat}{r:List (List AV)}(h:bV sz r=true):bV sz ((r.take hi).drop lo)=true:=by
 simp only[bV,List.all_eq_true]at *;exact λx hx=>h x (List.mem_of_mem_take (List.mem_of_mem_drop hx))
@[simp]theorem Tw{sz:Nat}{v:AV}{lo hi:Nat}(h:dg sz v=true):dg sz (uh v lo hi)=true:=by
 cases v<;>simp_all [dg,uh,Tv]
def bp(xs:List Int):List (List AV):=xs.map λn=>[.int .i64 n]
def dI(v:AV):List Int:=(bg v).map λr=>match r with | [.int .i64 n]=>n|_=>0
def u7(v:AV):Bool:=dg 1 v&&(bg v).all λr=>match r with | [.int .i64 _]=>true|_=>false
theorem C2(xs:List Int):((bp xs).map λr=>match r with | [AV.int .i64 n]=>n|_=>(0:Int))=xs:=by
 induction xs with
 |nil=>rfl|cons x xs ih=>simp only[bp,List.map_cons]at *;rw[ih]
@[simp]theorem ahc(xs:List Int):(bp xs).length=xs.length:=by simp[bp]
@[simp]theorem ahd(xs:List Int)(i:Nat)(h:i<(bp xs).length):(bp xs)[i]=[.int .i64 (xs[i]'(by simpa using h))]:=by simp[bp]
@[simp]theorem afd(xs:List Int):bV 1 (bp xs)=true:=by simp[bV,bp]
@[simp]theorem afe(xs:List Int)(k:Nat):List.take k (bp xs)=bp (xs.take k):=by simp[bp]
@[simp]theorem acu(xs:List Bool)(k:Nat):List.take k (xs.map λb=>[AV.bool b])=(xs.take k).map λb=>[AV.bool b]:=by simp
@[simp]theorem aff(xs:List Int)(k:Nat):List.drop k (bp xs)=bp (xs.drop k):=by simp[bp]
@[simp]theorem aaJ(xs ys:List Int):bp xs++bp ys=bp (xs++ys):=by simp[bp]
@[simp]theorem Yh(xs:List Int)(n:Int):bp xs++[[.int .i64 n]]=bp (xs++[n]):=by simp[bp]
theorem C3{v:AV}(h:u7 v=true):bg v=bp (dI v):=by
 simp only[u7,Bool.and_eq_true,List.all_eq_true]at h;unfold bp dI;rw[List.map_map];conv=>lhs;rw[<-List.map_id (bg v)]
 refine List.map_congr_left λr hr=>?_;have:=h.2 r hr;split at this
 rfl
 cases this
@[simp]theorem ahe(v:AV):u7 v.aa=u7 v:=by simp[u7]
@[simp]theorem ajB(v:AV):dI v.aa=dI v:=by simp[dI]
@[simp]theorem Ir{v:AV}(h:u7 v=true):dg 1 v=true:=by simp only[u7,Bool.and_eq_true]at h;exact h.1
@[simp]theorem tL{v:AV}(h:u7 v=true):aR v=true:=o7 (Ir h)
@[simp]theorem alK(xs:List Int):u7 (cC 1 (bp xs))=true:=by simp[u7,bp,bV]
@[simp]theorem aot(xs:List Int):dI (cC 1 (bp xs))=xs:=by simp only[dI,Ef];exact C2 xs
@[simp]theorem ajC:u7 .U=true:=rfl
@[simp]theorem alL:dI .U=[]:=rfl
@[simp]theorem ajD(xs:List Int):u7 (.dc 1 (bp xs))=true:=by simp[u7,bp,bV]
@[simp]theorem alM(xs:List Int):dI (.dc 1 (bp xs))=xs:=by simp only[dI,QN];exact C2 xs
@[simp]theorem ajE(xs:List Int):u7 (.lA 1 (bp xs))=true:=by simp[u7,bp,bV]
@[simp]theorem alN(xs:List Int):dI (.lA 1 (bp xs))=xs:=by simp only[dI,QO];exact C2 xs
@[simp]theorem Yi{v:AV}{lo hi:Nat}(h:u7 v=true):u7 (uh v lo hi)=true:=by
 have h0:=tL h;simp only[u7,Bool.and_eq_true,List.all_eq_true]at *;refine⟨Tw h.1,λr hr=>?_⟩;rw[QT h0]at hr;exact h.2 r (List.mem_of_mem_take (List.mem_of_mem_drop hr))
@[simp]theorem acv{v:AV}{lo hi:Nat}(h:u7 v=true):dI (uh v lo hi)=((dI v).take hi).drop lo:=by
 simp[dI,tL h,List.map_take,List.map_drop]
@[simp]theorem ahf(n:Int):u7 (.lA 1 [[.int .i64 n]])=true:=rfl
@[simp]theorem ahg(n:Int):u7 (.dc 1 [[.int .i64 n]])=true:=rfl
@[simp]theorem ahh(a b:Int):u7 (.dc 1 [[.int .i64 a],[.int .i64 b]])=true:=rfl
@[simp]theorem ajF(a b:Int):dI (.dc 1 [[.int .i64 a],[.int .i64 b]])=[a,b]:=rfl
@[simp]theorem ahi(a b c:Int):u7 (.dc 1 [[.int .i64 a],[.int .i64 b],[.int .i64 c]])=true:=rfl
@[simp]theorem ajG(a b c:Int):dI (.dc 1 [[.int .i64 a],[.int .i64 b],[.int .i64 c]])=[a,b,c]:=rfl
@[simp]theorem ajH(n:Int):dI (.dc 1 [[.int .i64 n]])=[n]:=rfl
def jQ(xs:List Bool):List (List AV):=xs.map λb=>[.bool b]
@[simp]theorem afg(xs:List Bool):(jQ xs).length=xs.length:=by simp[jQ]
@[simp]theorem afh(xs:List Bool)(i:Nat)(h:i<(jQ xs).length):(jQ xs)[i]=[.bool (xs[i]'(by simpa using h))]:=by simp[jQ]
@[simp]theorem afi(xs:List Bool)(i:Nat)(b:Bool):(jQ xs).set i [.bool b]=jQ (xs.set i b):=by simp[jQ]
@[simp]theorem st0{α:Type}(st:List α)(a:α)(l:List α):(st++a::l)[st.length]?=some a:=by simp
@[simp]theorem rf{α:Type}(st:List α)(a b:α)(l:List α):(st++a::b::l)[st.length+1]?=some b:=by
 rw[List.getElem?_append_right (by omega)];simp
@[simp]theorem qg{α:Type}(st:List α)(a b c:α)(l:List α):(st++a::b::c::l)[st.length+2]?=some c:=by
 rw[List.getElem?_append_right (by omega)];simp
@[simp]theorem aqz{α:Type}(st:List α)(a x:α)(l:List α):(st++a::l).set st.length x=st++x::l:=by simp
@[simp]theorem aqA{α:Type}(st:List α)(a b x:α)(l:List α):(st++a::b::l).set (st.length+1) x=st++a::x::l:=by
 rw[List.set_append_right _ _ (by omega)];simp
@[simp]theorem aqB{α:Type}(st:List α)(a b c x:α)(l:List α):(st++a::b::c::l).set (st.length+2) x=st++a::b::x::l:=by
 rw[List.set_append_right _ _ (by omega)];simp
end Ax
namespace Ax
open Go
theorem bu{S:Nat->Option aD}{wl J:Nat}{rs:List kD}{Q:Ex->St->Prop}{k:List Ip}{α:Type}{c b:bE}{s:St}(h:c=b)(f:α->St)(I:α->Prop)(μ:α->Nat)(a0:α)(hs:s=f a0)(h0:I a0)
  (round:∀a,I a->(∀a',I a'->μ a'<μ a->W S wl J rs Q (.code (.loop c)::k) .normal (f a'))->W S wl J rs Q (.code b::.vH c::k) .normal (f a)) :
  W S wl J rs Q (.code (.loop c)::k) .normal s:=by
 subst hs;exact ag2 h f I μ round a0 h0
def Sh(v:AV):List AV:=(bg v).map λr=>r.headD .undef
def Eg(v:AV):Bool:=dg 1 v&&(bg v).all λr=>match r with | [x]=>u7 x|_=>false
def dII(v:AV):List (List Int):=(Sh v).map dI
theorem Tx{v:AV}(h:Eg v=true):bg v=(Sh v).map λx=>[x]:=by
 simp only[Eg,Bool.and_eq_true,List.all_eq_true]at h;unfold Sh;rw[List.map_map];conv=>lhs;rw[<-List.map_id (bg v)]
 refine List.map_congr_left λr hr=>?_;have:=h.2 r hr;split at this
 rfl
 cases this
theorem acw{v:AV}(h:Eg v=true):∀x∈Sh v,u7 x=true:=by
 intro x hx;have h1:=Tx h;simp only[Eg,Bool.and_eq_true,List.all_eq_true]at h;have:[x]∈bg v:=by rw[h1];exact List.mem_map.2 ⟨x,hx,rfl⟩
 exact h.2 _ this
@[simp]theorem ahk(v:AV):Sh v.aa=Sh v:=by simp[Sh]
@[simp]theorem afj(v:AV):Eg v.aa=Eg v:=by simp[Eg]
@[simp]theorem ahl(v:AV):dII v.aa=dII v:=by simp[dII]
@[simp]theorem Yj{v:AV}(h:Eg v=true):dg 1 v=true:=by simp only[Eg,Bool.and_eq_true]at h;exact h.1
@[simp]theorem ajI{v:AV}(h:Eg v=true):aR v=true:=o7 (Yj h)
@[simp]theorem ajJ(v:AV):(dII v).length=(Sh v).length:=by simp[dII]
@[simp]theorem ajK{v:AV}(h:Eg v=true)(i:Nat)(hi:i<(Sh v).length):u7 (Sh v)[i]=true:=acw h _ (List.getElem_mem _)
end Ax
namespace Ax
@[simp]theorem cast_eq(a b:Nat):((a:Int)=(b:Int))↔a=b:=Int.natCast_inj
end Ax
namespace Ax
open Go
theorem Tz{S:Nat->Option aD}{f:Nat}{sf:aD}(hf:S f=some sf)(hm:sf.mode=.pure){args:List AV}(hp:AV.af args=true){v:AV}{st0:ai}(h:(aT S).call 0 0 f args []=some (v,st0))(wl J:Nat)(st:ai) :
  (aT S).call wl J f args st=some (v,st):=by
 rw[AS,hf]at h ⊢;have ha:sG sf args=true:=by simp[sG,hm,hp]
 simp only[eA,ha,if_true]at h ⊢;cases hc:dh (aT S) 0 0 sf args [] with
 |none=>rw[hc]at h;cases h|some x=>rw[hc]at h;cases h;rfl
end Ax
namespace Ax
open Go
variable {P:Program}
theorem M7{t:TypeId}{k:IntKind}{as:List AV}(h1:P.underlying t=some (.int k))(h:Ty P t as):∃n,as=[.int k n]/\k.min<=n/\n<=k.max:=by
 cases h with
 |int hu n a b=>rw[h1]at hu;cases hu;exact⟨n,rfl,a,b⟩|bool hu=>rw[h1]at hu;cases hu|str hu=>rw[h1]at hu;cases hu|U hu=>rw[h1]at hu;cases hu|lU hu=>rw[h1]at hu;cases hu|dc hu=>rw[h1]at hu;cases hu|Ti hu=>rw[h1]at hu;cases hu
theorem acy{t:TypeId}{as:List AV}(h1:P.underlying t=some .string)(h:Ty P t as):∃l:List UInt8,as=[.str l]/\l.length<=maxLen:=by
 cases h with
 |str hu l hl=>exact⟨l,rfl,hl⟩|bool hu=>rw[h1]at hu;cases hu|int hu=>rw[h1]at hu;cases hu|U hu=>rw[h1]at hu;cases hu|lU hu=>rw[h1]at hu;cases hu|dc hu=>rw[h1]at hu;cases hu|Ti hu=>rw[h1]at hu;cases hu
theorem TA{t e:TypeId}{as:List AV}(h1:P.underlying t=some (.slice e))(h:Ty P t as):∃v,as=[v]/\dg (P.cellsOf e) v=true/\(∀r∈bg v,Ty P e r)/\(bg v).length<=maxLen:=by
 cases h with
 |U hu=>exact⟨_,rfl,rfl,λr hr=>by simp[bg]at hr,by simp[bg]⟩|lU hu=>exact⟨_,rfl,rfl,λr hr=>by simp[bg]at hr,by simp[bg]⟩|dc hu rows hn hl h2=>
  rw[h1]at hu;cases hu;refine⟨_,rfl,?_,h2,hn⟩;simp only[fZ,beq_self_eq_true,Bool.true_and,bV,List.all_eq_true,beq_iff_eq];exact hl
 |bool hu=>rw[h1]at hu;cases hu|int hu=>rw[h1]at hu;cases hu|str hu=>rw[h1]at hu;cases hu|Ti hu=>rw[h1]at hu;cases hu
theorem alO{t e:TypeId}{as:List AV}(h1:P.underlying t=some (.slice e))(h2:P.underlying e=some (.int .i64))(h3:P.cellsOf e=1)(h:Ty P t as):∃v,as=[v]/\u7 v=true/\(dI v).length<=maxLen/\∀n∈dI v,-9223372036854775808<=n/\n<=9223372036854775807:=by
 obtain⟨v,rfl,a,b,c⟩:=TA h1 h;rw[h3]at a;refine⟨v,rfl,?_,by simpa [dI] using c,λn hn=>?_⟩;simp only[u7,a,Bool.true_and,List.all_eq_true];intro r hr;obtain⟨n,rfl,_⟩:=M7 h2 (b r hr)
 rfl
 simp only[dI,List.mem_map]at hn;obtain⟨r,hr,rfl⟩:=hn;obtain⟨n,rfl,l,u⟩:=M7 h2 (b r hr);exact⟨l,u⟩
theorem Is{t:TypeId}{a:AV}(h1:∀fs,P.underlying t≠some (.struct fs))(h:WD P t a):Ty P t [a]:=by
 rcases h with⟨fs,as,h2,_⟩|⟨_,h2⟩;exact absurd h2 (h1 fs);exact h2
theorem M8{t u v:TypeId}{as:List AV}(h:XS P [t,u,v] as):∃a b c,as=[a,b,c]/\WD P t a/\WD P u b/\WD P v c:=by
 match as,h with
 |[a,b,c],h=>exact⟨a,b,c,rfl,h.1,h.2.1,h.2.2.1⟩
end Ax
namespace Ax
open Go
noncomputable def KO (env:pU) (t:Nat):eO:=List.rec (motive:=λ_=>eO) eO.none (λp _ ih=>match Nat.beq p.1 t with|true=>p.2|false=>ih) env
noncomputable def TB (env:pU) (t:Nat) (e:eO):pU:=List.rec (motive:=λ_=>pU) [(t,e)] (λp r ih=>match Nat.ble p.1 t with
  |false=>(t,e)::p::r|true=>match Nat.beq p.1 t with
   |true=>(t,e)::r|false=>p::ih) env
noncomputable def GK (env:pU) (t:Nat):pU:=List.rec (motive:=λ_=>pU) [] (λp _ ih=>match Nat.beq p.1 t with|true=>ih|false=>p::ih) env
theorem Eh{k t:Nat}(h:¬k=t):Nat.beq k t=false:=by
 cases hb:Nat.beq k t with
 |false=>rfl|true=>exact absurd (Nat.eq_of_beq_eq_true hb) h
theorem zP{k t:Nat}(h:k=t):Nat.beq k t=true:=by subst h;exact Nat.beq_refl k
theorem KP:KO=cK:=by
 funext env t;induction env with
 |nil=>rfl|cons p r ih=>
  obtain⟨k,e⟩:=p;show (match Nat.beq k t with|true=>e|false=>KO r t)=cK ((k,e)::r) t;rw[ih];show _=(if k=t then e else cK r t);by_cases h:k=t;rw[zP h,if_pos h];rw[Eh h,if_neg h]
theorem TC:TB=vN:=by
 funext env t e;induction env with
 |nil=>rfl|cons p r ih=>
  obtain⟨k,x⟩:=p;show (match Nat.ble k t with
   |false=>(t,e)::(k,x)::r|true=>match Nat.beq k t with
    |true=>(t,e)::r|false=>(k,x)::TB r t e)=vN ((k,x)::r) t e
  rw[ih];show _=(if t<k then (t,e)::(k,x)::r else if t=k then (t,e)::r else (k,x)::vN r t e);by_cases h:t<k;have:Nat.ble k t=false:=by
   cases hb:Nat.ble k t with
   |false=>rfl|true=>have:=Nat.le_of_ble_eq_true hb;omega
  rw[this,if_pos h];have:Nat.ble k t=true:=Nat.ble_eq_true_of_le (by omega);rw[this,if_neg h];by_cases h2:t=k;rw[zP h2.symm,if_pos h2];rw[Eh (λe=>h2 e.symm),if_neg h2]
theorem KQ:GK=Co:=by
 funext env t;induction env with
 |nil=>rfl|cons p r ih=>
  obtain⟨k,x⟩:=p;show (match Nat.beq k t with|true=>GK r t|false=>(k,x)::GK r t)=(if k=t then Co r t else (k,x)::Co r t);rw[ih];by_cases h:k=t;rw[zP h,if_pos h];rw[Eh h,if_neg h]
noncomputable def KR (v:AV):AV:=match v with
 |.lA sz rows=>.dc sz rows|.raw _ _=>.gone|.agg cs=>(AV.agg cs).aa|.fF cs=>(AV.fF cs).aa|v=>v
theorem KS(v:AV):KR v=v.aa:=by cases v<;>simp[KR,AV.aa]
noncomputable def It (l:List AV):List AV:=List.rec (motive:=λ_=>List AV) [] (λv _ ih=>KR v::ih) l
theorem GM(l:List AV):It l=AV.cJ l:=by
 induction l with
 |nil=>rfl|cons v l ih=>
  show KR v::It l=_;rw[ih,KS];rfl
noncomputable def OC (v:AV):Bool:=match v with
 |.mu _ _|.ptr _ _ _ _|.map _=>false|.agg cs=>(AV.agg cs).au|.fF cs=>(AV.fF cs).au|.fn f a b=>(AV.fn f a b).au|_=>true
theorem TD(v:AV):OC v=v.au:=by cases v<;>simp[OC,AV.au]
noncomputable def Iu (l:List AV):Bool:=List.rec (motive:=λ_=>Bool) true (λv _ ih=>match OC v with|true=>ih|false=>false) l
theorem QU(l:List AV):Iu l=AV.af l:=by
 induction l with
 |nil=>rfl|cons v l ih=>
  show (match OC v with|true=>Iu l|false=>false)=_;rw[ih,TD];simp only[AV.af];cases v.au<;>simp
noncomputable def TE (e:eO):eO:=match e with|.val v=>.val (KR v)|.none=>.none|.fp j k=>.fp j k
theorem TF(e:eO):TE e=e.aa:=by cases e<;>simp[TE,eO.aa,KS]
noncomputable def TG (env:pU) (x:Src):eO:=match x with
 |.tmp t mv=>match mv with|true=>KO env t|false=>TE (KO env t)
 |.const a=>.val a
theorem OD:TG=JN:=by
 funext env x;unfold TG JN;rw[KP];cases x with
 |tmp t mv=>
  cases mv;exact TF _
  rfl
 |const a=>rfl
noncomputable def wH (env:pU) (x:Src):pU:=match x with
 |.tmp t mv=>match mv with|true=>GK env t|false=>env
 |.const _=>env
theorem GN:wH=mE:=by
 funext env x;unfold wH mE;rw[KQ];cases x with
 |tmp t mv=>cases mv<;>rfl|const a=>rfl
noncomputable def sV (l:List Nat) (env:pU):pU:=List.rec (motive:=λ_=>pU->pU) (λenv=>env) (λt _ ih env=>ih (GK env t)) l env
theorem Ei:sV=iU:=by
 funext l;induction l with
 |nil=>rfl|cons t l ih=>
  funext env;show sV l (GK env t)=iU l (Co env t);rw[ih,KQ]
noncomputable def GO (env:pU) (dst:Option Nat) (e:eO):pU:=match dst with|some d=>TB env d e|none=>env
theorem TH:GO=xZ:=by
 funext env d e;unfold GO xZ;rw[TC]
 rfl
noncomputable def Ej (env:pU) (g:Option (Nat×Bool)):Option Bool:=match g with
 |none=>some true|some (t,b)=>match KO env t with
  |.val (.bool c)=>some (c==b)|.val .undef=>some false|_=>none
theorem KT:Ej=mL:=by
 funext env g;unfold Ej mL;rw[KP]
 rfl
noncomputable def TI (env:pU) (l:List Src):List eO:=List.rec (motive:=λ_=>List eO) [] (λx _ ih=>TG env x::ih) l
theorem TJ(env:pU)(l:List Src):TI env l=l.map (JN env):=by
 induction l with
 |nil=>rfl|cons x l ih=>
  show TG env x::TI env l=_;rw[ih,OD];rfl
noncomputable def Ek (env:pU) (l:List Src):pU:=List.rec (motive:=λ_=>pU->pU) (λenv=>env) (λx _ ih env=>ih (wH env x)) l env
theorem QV(l:List Src):∀env,Ek env l=l.foldl mE env:=by
 induction l with
 |nil=>exact λ_=>rfl|cons x l ih=>
  intro env;show Ek (wH env x) l=_;rw[ih,GN];rfl
noncomputable def Yk (O:j4) (wl J:Nat) (op:ir) (vals:List eO) (st:ai) (bx:aX):Option (eO×ai×aX):=match op with
 |.move=>match vals with
  |[e]=>some (e,st,bx)|_=>none
 |.load agg n take=>match take with
  |true=>aP wl J (.load agg n true) vals st bx|false=>match vals with
   |[.val p]=>match jD st p n with
    |some cs=>match ck agg (It cs) with|some v=>some (.val v,st,bx)|none=>none
    |none=>none
   |_=>none
 |.aL j agg n take=>match take with
  |true=>aP wl J (.aL j agg n true) vals st bx|false=>match vals with
   |[.fp j' k]=>match Nat.beq j j' with
    |true=>match bx[j]? with
     |some aG=>match cut aG k n with
      |some cs=>match ck agg (It cs) with|some v=>some (.val v,st,bx)|none=>none
      |none=>none
     |none=>none
    |false=>none
   |_=>none
 |.call f=>fN O wl J (mF (.call f) vals) st bx|.qW=>fN O wl J (mF .qW vals) st bx|op=>aP wl J op vals st bx
theorem Yl(O:j4)(wl J:Nat)(op:ir)(vals:List eO)(st:ai)(bx:aX):Yk O wl J op vals st bx=tC O wl J op vals st bx:=by
 cases op
 case load agg n take=>
  cases take with
  |true=>rfl|false=>
   simp only[Yk,tC,aP,GM]
   rfl
 case aL j agg n take=>
  cases take with
  |true=>rfl|false=>
   rcases vals with _|⟨e,_|⟨e2,l⟩⟩
   rfl
   cases e with
   |none=>rfl|val v=>rfl|fp j' k=>
    simp only[Yk,tC,aP,GM];by_cases h:j=j';rw[zP h,if_pos h];rfl;rw[Eh h,if_neg h]
   cases e<;>rfl
 all_goals rfl
noncomputable def C4 (O:j4) (wl J:Nat) (o:aY) (s:St):Option St:=
 match Ej s.env o.guard with
 |none=>none|some false=>some { s with env:=GO s.env o.dst (.val .undef) }|some true=>
  match Yk O wl J o.op (TI s.env o.args) s.st s.bx with
  |none=>none|some (e,st',fH)=>
   match o.op.b8 with
   |none=>some ⟨GO (Ek s.env o.args) o.dst e,fH,st'⟩|some j=>if pX j (GO (Ek s.env o.args) o.dst .none) then some ⟨GO (Ek s.env o.args) o.dst e,fH,st'⟩ else none
theorem M9(O:j4)(wl J:Nat)(o:aY)(s:St):C4 O wl J o s=gO O wl J o s:=by
 unfold C4 gO;rw[KT,TH,TJ,QV,Yl]
 rfl
noncomputable def uk (O:j4) (wl J:Nat) (l:List aY) (s:St):Option St:=List.rec (motive:=λ_=>St->Option St) (λs=>some s)
 (λo _ ih s=>match C4 O wl J o s with|some s'=>ih s'|none=>none) l s
theorem B6(O:j4)(wl J:Nat):∀(l:List aY)(s:St),uk O wl J l s=fB O wl J l s:=by
 intro l;induction l with
 |nil=>exact λ_=>rfl|cons o l ih=>
  intro s;show (match C4 O wl J o s with|some s'=>uk O wl J l s'|none=>none)=_;rw[M9];unfold fB;cases gO O wl J o s with
  |none=>rfl|some s'=>exact ih s'
noncomputable def A8 (O:j4) (wl J:Nat) (cN:List aY) (bG:List (Nat×Nat)) (s:St):Option St:=match bG with
 |[]=>match cN.all (bD s.env) with
  |true=>uk O wl J cN s|false=>none
 |p::l=>fY O wl J cN (p::l) s
theorem Iv(O:j4)(wl J:Nat)(cN:List aY)(bG:List (Nat×Nat))(s:St):A8 O wl J cN bG s=fY O wl J cN bG s:=by
 cases bG with
 |cons p l=>rfl|nil=>
  show (match cN.all (bD s.env) with|true=>uk O wl J cN s|false=>none)=_;cases h:cN.all (bD s.env) with
  |true=>rw[u6 h];exact B6 ..
  |false=>
   unfold fY;cases eH O wl J cN s with
   |none=>rfl|some y=>simp[h]
noncomputable def C5 (env:pU) (c:Src):Option Bool:=
 match TG env c with
 |.val (.bool b)=>some b|_=>none
theorem Na:C5=qX:=by
 funext env c;unfold C5 qX;rw[OD]
 rfl
noncomputable def Iw (O:j4) (wl J:Nat) (rs:List kD) (c:bE):St->Option (Ex×St):=bE.rec (motive:=λ_=>St->Option (Ex×St))
 (λs=>some (Ex.normal,s))
 (λcN draw di s=>
  match (match draw with|none=>uk O wl J cN s|some bG=>A8 O wl J cN bG s) with
  |some s'=>some (Ex.normal,{ s' with env:=sV di s'.env })|none=>none)
 (λ_ _ ia ib s=>match ia s with
  |some (Ex.normal,s')=>ib s'|r=>r)
 (λc ca _ cb _ ia ib s=>match C5 s.env c with
  |some true=>ia { s with env:=sV ca (wH s.env c) }|some false=>ib { s with env:=sV cb (wH s.env c) }|none=>none)
 (λid _ ic s=>match ic s with
  |some (Ex.exit id',s')=>if id'=id then some (Ex.normal,s') else some (Ex.exit id',s')
  |r=>r)
 (λc _ s=>O.loop wl J rs c s)
 (λid s=>some (Ex.exit id,s))
 (λs=>match x3 s rs with|some v=>some (Ex.ret v,⟨[],[],s.st⟩)|none=>none)
 (λt s=>iu O wl J rs (.Qe t) s)
 (λj k s=>iu O wl J rs (.Dl j k) s)
 (λt off s=>iu O wl J rs (.xX t off) s) c
theorem OE(O:j4)(wl J:Nat)(rs:List kD):∀(c:bE)(s:St),Iw O wl J rs c s=iu O wl J rs c s:=by
 intro c;induction c with
 |skip=>exact λ_=>rfl|region cN draw di=>
  intro s;show (match (match draw with|none=>uk O wl J cN s|some bG=>A8 O wl J cN bG s) with
  |some s'=>some (Ex.normal,{ s' with env:=sV di s'.env })|none=>none)=_
  rw[Ei];simp only[iu];cases draw with
  |none=>rw[B6];rfl|some p=>simp only[Iv];rfl
 |seq a b ia ib=>
  intro s;show (match Iw O wl J rs a s with
  |some (Ex.normal,s')=>Iw O wl J rs b s'|r=>r)=_
  rw[ia];simp only[iu];cases iu O wl J rs a s with
  |none=>rfl|some y=>
   obtain⟨x,s'⟩:=y;cases x with
   |normal=>exact ib s'|exit _=>rfl|ret _=>rfl
 |cond c ca a cb b ia ib=>
  intro s;show (match C5 s.env c with
  |some true=>Iw O wl J rs a { s with env:=sV ca (wH s.env c) }|some false=>Iw O wl J rs b { s with env:=sV cb (wH s.env c) }|none=>none)=_
  rw[Na,Ei,GN];simp only[iu];cases qX s.env c with
  |none=>rfl|some z=>cases z with
   |true=>exact ia _|false=>exact ib _
 |block id c ic=>
  intro s;show (match Iw O wl J rs c s with
  |some (Ex.exit id',s')=>if id'=id then some (Ex.normal,s') else some (Ex.exit id',s')
  |r=>r)=_
  rw[ic]
  rfl
 |loop c _=>exact λ_=>rfl|exit id=>exact λ_=>rfl|ret=>exact λ_=>rfl|Qe t=>exact λ_=>rfl|Dl j k=>exact λ_=>rfl|xX t off=>exact λ_=>rfl
noncomputable def vg (O:j4) (wl J:Nat) (sf:aD) (args:List AV) (st:ai):Option (AV×ai):=
 match Nat.beq args.length sf.aE with
 |true=>match Iw O (sf.mode.yH st.length wl) (sf.mode.qY st.length J) sf.results sf.body (qZ sf args st) with
  |some (x,s)=>match Fy sf.results x s with
   |some v=>sf.mode.mM st v s.st|none=>none
  |none=>none
 |false=>none
theorem yy(O:j4)(wl J:Nat)(sf:aD)(args:List AV)(st:ai):vg O wl J sf args st=dh O wl J sf args st:=by
 unfold vg dh;rw[OE];by_cases h:args.length=sf.aE;rw[zP h,if_pos h]
 rfl
 rw[Eh h,if_neg h]
noncomputable def xF (O:j4) (wl J:Nat) (sf:aD) (args:List AV) (st:ai):Option (AV×ai):=
 match (match sf.mode with|.pure=>Iu args|_=>false) with
 |true=>(match vg O 0 0 sf args [] with|some r=>some (r.1,st)|none=>none)
 |false=>vg O wl J sf args st
theorem Ix(O:j4)(wl J:Nat)(sf:aD)(args:List AV)(st:ai):xF O wl J sf args st=eA O wl J sf args st:=by
 unfold xF eA;rw[yy,yy];have:(match sf.mode with|.pure=>Iu args|_=>false)=sG sf args:=by
  unfold sG;rw[QU];cases sf.mode<;>simp
 rw[this];cases sG sf args with
 |true=>simp only[if_true];cases dh O 0 0 sf args []<;>rfl|false=>simp
noncomputable def QW (S:Nat->Option aD) (n:Nat):j4:=Nat.rec (motive:=λ_=>j4)
 ⟨λ_ _ _ _ _=>none,λ_ _ _ _ _=>none⟩
 (λ_ ih=>⟨λwl J f args st=>match S f with
   |some sf=>xF ih wl J sf args st|none=>none,
   λwl J rs c s=>match Iw ih wl J rs c s with
   |some (Ex.normal,s')=>ih.loop wl J rs c s'|r=>r⟩) n
theorem Ym(S:Nat->Option aD):∀n,QW S n=pY S n:=by
 intro n;induction n with
 |zero=>rfl|succ n ih=>
  show (⟨λwl J f args st=>match S f with
   |some sf=>xF (QW S n) wl J sf args st|none=>none,
   λwl J rs c s=>match Iw (QW S n) wl J rs c s with
   |some (Ex.normal,s')=>(QW S n).loop wl J rs c s'|r=>r⟩:j4)=pY S (n+1)
  rw[ih];simp only[Ix,OE]
  rfl
theorem acz{S:Nat->Option aD}{n wl J f:Nat}{args:List AV}{st:ai}{r:AV×ai}(h:(QW S n).call wl J f args st=some r):(aT S).call wl J f args st=some r:=by
 rw[Ym]at h;exact(qt S n).call _ _ _ _ _ _ h
def acA(x:Option (AV×ai)):Bool:=match x with|some (.bool b,[])=>b|_=>false
theorem Yn{x:Option (AV×ai)}(h:acA x=true):x=some (.bool true,[]):=by
 unfold acA at h;split at h;subst h;rfl;cases h
end Ax
namespace Ax
@[simp]abbrev Src.t(n:Nat):Src:=.tmp n false
@[simp]abbrev Src.T(n:Nat):Src:=.tmp n true
@[simp]abbrev aY.o(d:Nat)(op:ir)(args:List Src):aY:=⟨some d,op,args,none⟩
@[simp]abbrev aY.n(op:ir)(args:List Src):aY:=⟨none,op,args,none⟩
@[simp]abbrev aY.y(d:Nat)(op:ir)(args:List Src)(t:Nat):aY:=⟨some d,op,args,some (t,true)⟩
@[simp]abbrev aY.z(d:Nat)(op:ir)(args:List Src)(t:Nat):aY:=⟨some d,op,args,some (t,false)⟩
@[simp]abbrev Src.b(x:Bool):Src:=.const (.bool x)
@[simp]abbrev AV.i(n:Int):AV:=.int .i64 n
@[simp]abbrev Src.i(n:Int):Src:=.const (.int .i64 n)
@[simp]abbrev aY.m(d:Nat)(a:Src):aY:=⟨some d,.move,[a],none⟩
@[simp]abbrev aY.f(d k:Nat)(a:Src):aY:=⟨some d,.fieldAddr k,[a],none⟩
@[simp]abbrev aY.l(d i:Nat)(a:Src):aY:=⟨some d,.aL i false 1 false,[a],none⟩
@[simp]abbrev aY.d(d:Nat)(a:Src):aY:=⟨some d,.load false 1 false,[a],none⟩
@[simp]abbrev bE.r:=bE.region
@[simp]abbrev aY.c(d f:Nat)(args:List Src):aY:=⟨some d,.call f,args,none⟩
@[simp]abbrev bE.g(l:List aY)(c:List Nat):bE:=.region l none c
end Ax
