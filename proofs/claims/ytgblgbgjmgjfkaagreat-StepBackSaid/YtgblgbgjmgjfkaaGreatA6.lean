/- Part of a proof. -/
import Derived.Test.YtgblgbgjmgjfkaaGreatA5

open List renaming length->Q
open Option renaming some->Z,none->K
open Bool renaming true->Y,false->X
open Decidable renaming decide->V
open List renaming replicate->aag,isEmpty_cons->akA,all_eq_true->aam,mem_of_mem_take->afy,mem_of_mem_drop->afz,map_congr_left->afj,getElem?_append_right->aak,set_append_right->ajN
open Option renaming bind_some->ahZ
open Nat renaming beq->af5,ble->aj7
open Bool renaming and_eq_true->E6,false_eq_true->aai,true_and->afp
namespace Ax
open Go
inductive B1 where
 |dZ (l:List eN) (uf:List Nat)
 |code (c:aW)
 |lz (id:Nat)
 |zf (c:aW)
def s9(O:sN)(wl ai:Nat)(rs:List qg):List B1->Ex->St->Option (Ex×St)
 |[],x,s=>Z (x,s)|.lz id::k,x,s=>match x with
  |.normal=>s9 O wl ai rs k .normal s|.exit i=>if i=id then s9 O wl ai rs k .normal s else s9 O wl ai rs k (.exit i) s
  |.ret v=>s9 O wl ai rs k (.ret v) s
 |.dZ l U::k,x,s=>match x with
  |.normal=>match iE O wl ai l s with|some g=>s9 O wl ai rs k .normal { g with env:=lu U g.env } | none=>K
  |x=>s9 O wl ai rs k x s
 |.code c::k,x,s=>match x with
  |.normal=>match kG O wl ai rs c s with|some (j,g)=>s9 O wl ai rs k j g|none=>K
  |x=>s9 O wl ai rs k x s
 |.zf c::k,x,s=>match x with
  |.normal=>match kG O wl ai rs (.loop c) s with|some (j,g)=>s9 O wl ai rs k j g|none=>K
  |x=>s9 O wl ai rs k x s
def W(S:Nat->Option aQ)(wl ai:Nat)(rs:List qg)(Q:Ex->St->Prop)(k:List B1)(x:Ex)(s:St):Prop:=∃j g,s9 (bh S) wl ai rs k x s=Z (j,g)/\Q j g
variable {S:Nat->Option aQ}{wl ai:Nat}{rs:List qg}{Q:Ex->St->Prop}{k:List B1}{s:St}
theorem aq6{x}:W S wl ai rs Q [] x s↔Q x s:=by
 unfold W s9;constructor;rintro⟨j,g,h,l⟩;cases h;exact l;intro h;exact⟨x,s,rfl,h⟩
theorem aq7{id}:W S wl ai rs Q (.lz id::k) .normal s↔W S wl ai rs Q k .normal s:=Iff.rfl
theorem alk{id i}:W S wl ai rs Q (.lz id::k) (.exit i) s↔if i=id then W S wl ai rs Q k .normal s else W S wl ai rs Q k (.exit i) s:=by
 unfold W;simp only[s9];split<;>exact Iff.rfl
theorem alm{id v}:W S wl ai rs Q (.lz id::k) (.ret v) s↔W S wl ai rs Q k (.ret v) s:=Iff.rfl
theorem aln{l U i}:W S wl ai rs Q (.dZ l U::k) (.exit i) s↔W S wl ai rs Q k (.exit i) s:=Iff.rfl
theorem alo{l U v}:W S wl ai rs Q (.dZ l U::k) (.ret v) s↔W S wl ai rs Q k (.ret v) s:=Iff.rfl
theorem agG{c i}:W S wl ai rs Q (.code c::k) (.exit i) s↔W S wl ai rs Q k (.exit i) s:=Iff.rfl
theorem agH{c v}:W S wl ai rs Q (.code c::k) (.ret v) s↔W S wl ai rs Q k (.ret v) s:=Iff.rfl
theorem abC{c i}:W S wl ai rs Q (.zf c::k) (.exit i) s↔W S wl ai rs Q k (.exit i) s:=Iff.rfl
theorem abD{c v}:W S wl ai rs Q (.zf c::k) (.ret v) s↔W S wl ai rs Q k (.ret v) s:=Iff.rfl
theorem agI{c}:W S wl ai rs Q (.zf c::k) .normal s↔W S wl ai rs Q (.code (.loop c)::k) .normal s:=Iff.rfl
theorem alp{U}:W S wl ai rs Q (.dZ [] U::k) .normal s↔W S wl ai rs Q k .normal { s with env:=lu U s.env }:=Iff.rfl
theorem awi{o l U}:W S wl ai rs Q (.dZ (o::l) U::k) .normal s↔∃g,jS (bh S) wl ai o s=Z g/\W S wl ai rs Q (.dZ l U::k) .normal g:=by
 unfold W;simp only[s9,iE];cases jS (bh S) wl ai o s with
 |none=>simp|some g=>simp
theorem alq:W S wl ai rs Q (.code .skip::k) .normal s↔W S wl ai rs Q k .normal s:=Iff.rfl
theorem alr{id}:W S wl ai rs Q (.code (.exit id)::k) .normal s↔W S wl ai rs Q k (.exit id) s:=Iff.rfl
theorem aq8:W S wl ai rs Q (.code .ret::k) .normal s↔∃v,Du s rs=Z v/\W S wl ai rs Q k (.ret v) ⟨[],[],s.st⟩:=by
 unfold W;simp only[s9,kG];cases Du s rs with
 |none=>simp|some v=>simp
theorem aq9{a b}:W S wl ai rs Q (.code (.seq a b)::k) .normal s↔W S wl ai rs Q (.code a::.code b::k) .normal s:=by
 unfold W;simp only[s9,kG];cases h:kG (bh S) wl ai rs a s with
 |none=>simp|some y=>
  obtain⟨x,g⟩:=y;cases x<;>simp
theorem abE{l U}:W S wl ai rs Q (.code (.region l K U)::k) .normal s↔W S wl ai rs Q (.dZ l U::k) .normal s:=by
 unfold W;simp only[s9,kG];cases h:iE (bh S) wl ai l s with
 |none=>simp|some g=>simp
theorem HY{O}:∀{l:List eN}{s:St},(cY O wl ai l s).map (·.1)=iE O wl ai l s
 |[],s=>rfl|o::l,s=>by
  simp only[cY,iE];cases h:jS O wl ai o s with
  |none=>rfl|some g=>
   simp only;rw[<-HY (l:=l) (s:=g)];cases cY O wl ai l g with
   |none=>rfl|some y=>rfl
def ay:List eN->Bool
 |[]=>Y|o::l=>(match o.op.aX with|some _=>X|none=>Y)&&ay l
theorem Kn{env}:∀{l:List eN},ay l=Y->l.all (bP env)=Y
 |[],_=>rfl|o::l,h=>by
  simp only[ay,E6]at h;simp only[List.all_cons,Kn h.2,Bool.and_true];unfold bP;cases H:o.op.aX with
  |none=>rfl|some j=>rw[H]at h;simp at h
theorem Ai{O l}(h:l.all (bP s.env)=Y):jd O wl ai l [] s=iE O wl ai l s:=by
 unfold jd;rw[<-HY];cases cY O wl ai l s with
 |none=>rfl|some y=>
  obtain⟨e,mQ⟩:=y;simp only[List.all_nil,h,Bool.and_self,bz,Option.map_some]
theorem aA{l U}(h:ay l=Y):W S wl ai rs Q (.code (.region l (Z []) U)::k) .normal s↔W S wl ai rs Q (.dZ l U::k) .normal s:=by
 unfold W;simp only[s9,kG,Ai (Kn h)];cases h:iE (bh S) wl ai l s with
 |none=>simp|some g=>simp
theorem bF{l U}:W S wl ai rs Q (.code (.region l (Z []) U)::k) .normal s↔l.all (bP s.env)=Y/\W S wl ai rs Q (.dZ l U::k) .normal s:=by
 by_cases h:l.all (bP s.env)=Y;unfold W;simp only[s9,kG,Ai h];cases H:iE (bh S) wl ai l s with
 |none=>simp|some g=>simp[h]
 unfold W;simp only[s9,kG,jd];cases H:cY (bh S) wl ai l s with
 |none=>simp[h]|some y=>obtain⟨e,mQ⟩:=y;simp[h]
theorem iu{l C U}:W S wl ai rs Q (.code (.region l (Z C) U)::k) .normal s↔
  ∃e mQ,cY (bh S) wl ai l s=Z (e,mQ)/\(C.all (fh (bh S) wl ai l mQ)&&l.all (bP s.env))=Y/\W S wl ai rs Q k .normal { e with env:=lu U e.env }:=by
 unfold W;simp only[s9,kG,jd];cases h:cY (bh S) wl ai l s with
 |none=>simp|some y=>
  obtain⟨e,mQ⟩:=y;by_cases g:(C.all (fh (bh S) wl ai l mQ)&&l.all (bP s.env))=Y;simp only[g,bz];constructor;rintro⟨x,j,H,n⟩;exact⟨e,mQ,rfl,g,x,j,H,n⟩;rintro⟨E,m,B,_,x,j,H,n⟩;cases B;exact⟨x,j,H,n⟩;simp only[g];constructor;rintro⟨x,j,H,_⟩;cases H;rintro⟨E,m,B,o,_⟩;cases B;exact bH o g
theorem als{c n p a b}:W S wl ai rs Q (.code (.cond c n a p b)::k) .normal s↔
  ∃t,wD s.env c=Z t/\W S wl ai rs Q (.code (if t then a else b)::k) .normal { s with env:=lu (if t then n else p) (qv s.env c) }:=by
 unfold W;simp only[s9,kG];cases wD s.env c with
 |none=>simp|some t=>cases t<;>simp
theorem agJ{id c}:W S wl ai rs Q (.code (.block id c)::k) .normal s↔W S wl ai rs Q (.code c::.lz id::k) .normal s:=by
 unfold W;simp only[s9,kG];cases h:kG (bh S) wl ai rs c s with
 |none=>simp|some y=>
  obtain⟨x,g⟩:=y;cases x with
  |normal=>simp|exit i=>by_cases H:i=id<;>simp[H]|ret v=>simp
theorem alu{c}:W S wl ai rs Q (.code (.loop c)::k) .normal s↔W S wl ai rs Q (.code c::.zf c::k) .normal s:=by
 unfold W;simp only[s9,kG];rw[XY];cases h:kG (bh S) wl ai rs c s with
 |none=>simp|some y=>
  obtain⟨x,g⟩:=y;cases x<;>simp
theorem Ep{t off}:W S wl ai rs Q (.code (.rN t off)::k) .normal s↔∃id D i C v g qS qh,eG s.env t=.val (.ptr id D i C)/\gP s.st (.ptr id D i (C+off)) 1=Z [v]/\rO wl v s.st=Z (g,qS)/\
  gT wl ai qS (.ptr id D i (C+off)) [g]=Z qh/\W S wl ai rs Q k .normal ⟨s.env,s.bx,qh⟩:=by
 constructor;intro h;unfold W at h;simp only[s9]at h;cases H:kG (bh S) wl ai rs (.rN t off) s with
 |none=>rw[H]at h;simp at h|some y=>
  obtain⟨m,l⟩:=y;rw[H]at h;obtain⟨rfl,id,D,i,C,v,g,qS,qh,G,z,j,L,rfl⟩:=JA H;exact⟨id,D,i,C,v,g,qS,qh,G,z,j,L,h⟩
 rintro⟨id,D,i,C,v,g,qS,qh,G,z,j,L,h⟩;unfold W;simp only[s9,kG,G,z,j,L];exact h
theorem W.imp{q x}(h:W S wl ai rs Q k x s)(l:∀x s,Q x s->q x s):W S wl ai rs q k x s:=by
 obtain⟨m,j,H,g⟩:=h;exact⟨m,j,H,l _ _ g⟩
theorem Ko{sf args st}(m:args.length=sf.tP){r}(h:W S (sf.mode.BC st.length wl) (sf.mode.uk st.length ai) sf.results (λx s=>∃v,LR sf.results x s=Z v/\sf.mode.mJ st v s.st=Z r) [.code sf.body] .normal (vz sf args st)):
  eY (bh S) wl ai sf args st=Z r:=by
 simp only[eY,m,bz];obtain⟨o,n,H,v,g,l⟩:=h;simp only[s9]at H;cases j:kG (bh S) (sf.mode.BC st.length wl) (sf.mode.uk st.length ai) sf.results sf.body (vz sf args st) with
 |none=>rw[j]at H;cases H|some y=>
  obtain⟨x,s⟩:=y;rw[j]at H;simp only at H;cases H;simp only[g,l]
theorem YB{f g}(j:S f=Z g){args st}(H:A7 g args=X)(l:args.length=g.tP){r}(h:W S (g.mode.BC st.length wl) (g.mode.uk st.length ai) g.results (λx s=>∃v,LR g.results x s=Z v/\g.mode.mJ st v s.st=Z r) [.code g.body] .normal (vz g args st)):
  (bh S).call wl ai f args st=Z r:=by
 rw[Gx,j];simp only[gu,H,aai,bC];exact Ko l h
theorem YC{f sf}(m:S f=Z sf)(H:sf.mode=.pure){args st}(o:AV.aD args=Y)(n:args.length=sf.tP){v}(p:v.aH=Y)(h:W S 0 0 sf.results (λx s=>LR sf.results x s=Z v) [.code sf.body] .normal (vz sf args [])):
  (bh S).call wl ai f args st=Z (v,st):=by
 rw[Gx,m];have l:A7 sf args=Y:=by simp[A7,H,o]
 simp only[gu,l,bz];have:=Ko (S:=S) (wl:=0) (ai:=0) (sf:=sf) (args:=args) (st:=[]) n (r:=(v,[])) (by
  rw[H];obtain⟨t,q,g,j⟩:=h;exact⟨t,q,g,v,j,by simp[Mode.mJ,p]⟩)
 rw[this]
 rfl
def WO(S:Nat->Option aQ)(wl ai:Nat)(rs:List qg)(Q:Ex->St->Prop)(l:List eN)(U:List Nat)(k:List B1):Option St->Prop
 |some s=>W S wl ai rs Q (.dZ l U::k) .normal s|none=>False
def WC(S:Nat->Option aQ)(wl ai:Nat)(rs:List qg)(Q:Ex->St->Prop)(n p:List Nat)(a b:aW)(k:List B1)(s:St):Option Bool->Prop
 |some Y=>W S wl ai rs Q (.code a::k) .normal { s with env:=lu n s.env }|some X=>W S wl ai rs Q (.code b::k) .normal { s with env:=lu p s.env }|none=>False
def WV(S:Nat->Option aQ)(wl ai:Nat)(rs:List qg)(Q:Ex->St->Prop)(k:List B1)(st:aO):Option AV->Prop
 |some v=>W S wl ai rs Q k (.ret v) ⟨[],[],st⟩|none=>False
theorem ara{o l U}:W S wl ai rs Q (.dZ (o::l) U::k) .normal s↔WO S wl ai rs Q l U k (jS (bh S) wl ai o s):=by
 rw[awi];cases jS (bh S) wl ai o s with
 |none=>simp[WO]|some g=>simp[WO]
theorem agK{c n p a b}:W S wl ai rs Q (.code (.cond c n a p b)::k) .normal s↔WC S wl ai rs Q n p a b k { s with env:=qv s.env c } (wD s.env c):=by
 rw[als];cases wD s.env c with
 |none=>simp[WC]|some t=>cases t<;>simp[WC]
theorem alv:W S wl ai rs Q (.code .ret::k) .normal s↔WV S wl ai rs Q k s.st (Du s rs):=by
 rw[aq8];cases Du s rs with
 |none=>simp[WV]|some v=>simp[WV]
theorem agL{l U}:WO S wl ai rs Q l U k (Z s)↔W S wl ai rs Q (.dZ l U::k) .normal s:=Iff.rfl
theorem agM{l U}:WO S wl ai rs Q l U k K↔False:=Iff.rfl
theorem alw{l U c}[Decidable c]:WO S wl ai rs Q l U k (if c then Z s else K)↔c/\W S wl ai rs Q (.dZ l U::k) .normal s:=by
 by_cases h:c<;>simp[h,WO]
theorem agN{n p a b}:WC S wl ai rs Q n p a b k s (Z Y)↔W S wl ai rs Q (.code a::k) .normal { s with env:=lu n s.env }:=Iff.rfl
theorem abF{n p a b}:WC S wl ai rs Q n p a b k s (Z X)↔W S wl ai rs Q (.code b::k) .normal { s with env:=lu p s.env }:=Iff.rfl
theorem agO{st v}:WV S wl ai rs Q k st (Z v)↔W S wl ai rs Q k (.ret v) ⟨[],[],st⟩:=Iff.rfl
end Ax
namespace Ax
open Go
attribute [simp ↓] aq6 aq7 alk alm aln alo agG agH abC abD alp ara alq alr alv aq9 abE agK agJ
attribute [simp] agL agM alw agN abF agO
attribute [simp] jS qJ yB P9 qv Dt eu.aX lu kz.aj AV.aj AV.cP EJ Du Ea Jx
 AV.aH AV.aD eG BA Ip vz Mode.BC Mode.uk Mode.mJ LR Mn wD bO cut lQ iS qw fP kz.ue
variable {S:Nat->Option aQ}{wl ai:Nat}{rs:List qg}{Q:Ex->St->Prop}{k:List B1}{st:aO}{bx:jM}
def vJ(st:aO)(bx:jM):Option AV->Option (kz×aO×jM)
 |some v=>Z (.val v,st,bx)|none=>K
@[simp]theorem aoV{v}:vJ st bx (Z v)=Z (.val v,st,bx):=rfl
@[simp]theorem aoW:vJ st bx K=K:=rfl
@[simp]theorem arb{c}[Decidable c]{v}:vJ st bx (if c then Z v else K)=if c then Z (.val v,st,bx) else K:=by by_cases h:c<;>simp[h]
theorem Aj{c b s}(h:c=b):W S wl ai rs Q (.code (.loop c)::k) .normal s↔W S wl ai rs Q (.code b::.zf c::k) .normal s:=by
 rw[alu];grind
@[simp]theorem alx:fO st .aF=Z []:=rfl
@[simp]theorem aly:fO st .pP=Z []:=rfl
@[simp]theorem alz{g r}:fO st (.eE g r)=Z r:=rfl
@[simp]theorem alB{g r}:fO st (.iY g r)=Z r:=rfl
@[simp]theorem aoX{id D}:fO st (.mu id D)=match st[id]? with|some (.rows v _ rows)=>if v=D then Z rows else K|_=>K:=rfl
@[simp]theorem agP:dO st .aF=Z []:=rfl
@[simp]theorem agQ:dO st .pP=Z []:=rfl
@[simp]theorem agR{g r}:dO st (.eE g r)=Z r:=rfl
@[simp]theorem agS{g r}:dO st (.iY g r)=Z r:=rfl
@[simp]theorem agT{l}:dO st (.str l)=Z (qY l):=rfl
@[simp]theorem arc{l}:uh st .str (.str l)=Z l.length:=rfl
@[simp]theorem agU{v}:uh st .sl v=(fO st v).map List.length:=by
 grind [uh]
@[simp]theorem auj{id}:uh st .mp (.map id)=match st[id]? with|some (.map E)=>Z E.length|_=>K:=rfl
def L9(g:Nat)(st:aO)(x:AV)(i:Int):Option AV:=match x with
 |.eE s rows|.iY s rows=>if s=g/\0<=i/\i<rows.length then Z (.uL g rows i.toNat 0) else K
 |.mu id D=>match st[id]? with
  |some (.rows v s rows)=>if v=D/\s=g/\0<=i/\i<rows.length then Z (.ptr id D i.toNat 0) else K
  |_=>K
 |_=>K
@[simp]theorem ard{g s r i}:L9 g st (.eE s r) i=if s=g/\0<=i/\i<r.length then Z (.uL g r i.toNat 0) else K:=rfl
@[simp]theorem are{g s r i}:L9 g st (.iY s r) i=if s=g/\0<=i/\i<r.length then Z (.uL g r i.toNat 0) else K:=rfl
@[simp]theorem auk{g id D i}:L9 g st (.mu id D) i=match st[id]? with|some (.rows v s rows)=>if v=D/\s=g/\0<=i/\i<rows.length then Z (.ptr id D i.toNat 0) else K|_=>K:=rfl
def wS(sz bytes:Nat)(s:AV)(new:List (List AV)):Option AV:=
 if cy sz new=Y then match s with
  |.aF|.pP=>if new.isEmpty then Z s else if new.length*bytes<=dj then Z (.iY sz new) else K
  |.iY n kF=>if n=sz/\(kF.length+new.length)*bytes<=dj then Z (.iY sz (kF++new)) else K
  |_=>K else K
@[simp]theorem awk{e}:bD wl ai .move [e] st bx=Z (e,st,bx):=rfl
@[simp]theorem awl{b x y}:bD wl ai .pick [.val (.bool b),x,y] st bx=Z (if b then x else y,st,bx):=rfl
@[simp]theorem aAj{op x y}:bD wl ai (.bin op) [.val x,.val y] st bx=vJ st bx (Iq op x y):=by
 simp[bD];cases Iq op x y<;>rfl
@[simp]theorem aAk{kk neg x y}:bD wl ai (.eqv kk neg) [.val x,.val y] st bx=vJ st bx ((NC kk x y).map λb=>.bool (if neg then !b else b)):=by
 simp[bD];cases NC kk x y<;>rfl
@[simp]theorem aCu{op x}:bD wl ai (.un op) [.val x] st bx=vJ st bx (unV op x):=by
 simp[bD];cases unV op x<;>rfl
@[simp]theorem awm{kk l n}:bD wl ai (.conv kk) [.val (.int l n)] st bx=Z (.val (.int kk (kk.wrap n)),st,bx):=rfl
@[simp]theorem aul{x}:bD wl ai .aaC [.val x] st bx=vJ st bx (((fO st x).bind IT).map .str):=by
 simp only[bD];cases fO st x with
 |none=>rfl|some r=>simp only[ahZ];cases IT r<;>rfl
@[simp]theorem ajR{l x}:bD wl ai (.len l) [.val x] st bx=vJ st bx ((uh st l x).map λn=>.int .i64 n):=by
 simp only[bD];cases uh st l x<;>rfl
@[simp]theorem arf{M kk a b}:bD wl ai (.Gu M) [.val (.int kk a),.val (.int kk b)] st bx=Z (.val (.int kk (if M then (if b > a then b else a) else (if b<a then b else a))),st,bx):=by
 simp[bD]
@[simp]theorem awn{j i}:bD wl ai .nilCheck [.fp j i] st bx=Z (.fp j i,st,bx):=rfl
@[simp]theorem awo{a b c d}:bD wl ai .nilCheck [.val (.ptr a b c d)] st bx=Z (.val (.ptr a b c d),st,bx):=rfl
@[simp]theorem awp{a r c d}:bD wl ai .nilCheck [.val (.uL a r c d)] st bx=Z (.val (.uL a r c d),st,bx):=rfl
@[simp]theorem aoY{i vs}:bD wl ai (.extract i) [.val (.fC vs)] st bx=vJ st bx vs[i]?:=by
 simp[bD];cases vs[i]?<;>rfl
@[simp]theorem aum{off n agg C}:bD wl ai (.field off n agg) [.val (.agg C)] st bx=vJ st bx ((cut C off n).bind (bO agg)):=by
 simp only[bD];cases cut C off n with
 |none=>rfl|some r=>cases bO agg r<;>rfl
@[simp]theorem aun{zero parts l}:bD wl ai (.build zero parts) l st bx=vJ st bx (((lQ l).bind (kV zero parts)).map .agg):=by
 simp only[bD];cases lQ l with
 |none=>rfl|some vs=>simp;cases kV zero parts vs<;>rfl
@[simp]theorem aAl{g n zero parts l}:bD wl ai (.lit g n zero parts) l st bx =
  vJ st bx (((lQ l).bind λvs=>jc g (aag n zero) parts (AV.cP vs)).bind λrows=>if rows.all AV.aD&&rows.all AV.bG then Z (if n=0 then .pP else .eE g rows) else K):=by
 simp only[bD];cases lQ l with
 |none=>rfl|some vs=>
  simp only[ahZ];cases jc g _ parts _ with
  |none=>rfl|some rows=>simp_all
@[simp]theorem agV{off j i}:bD wl ai (.fieldAddr off) [.fp j i] st bx=Z (.fp j (i+off),st,bx):=rfl
@[simp]theorem agW{off a b c d}:bD wl ai (.fieldAddr off) [.val (.ptr a b c d)] st bx=Z (.val (.ptr a b c (d+off)),st,bx):=rfl
@[simp]theorem agX{off a c d r}:bD wl ai (.fieldAddr off) [.val (.uL a r c d)] st bx=Z (.val (.uL a r c (d+off)),st,bx):=rfl
@[simp]theorem ajS{g x i}:bD wl ai (.indexAddr g) [.val x,.val (.int .i64 i)] st bx=vJ st bx (L9 g st x i):=by
 cases x<;>try rfl
 case eE s r=>simp_all [bD,and_assoc]
 case iY s r=>simp_all [bD,and_assoc]
 case mu id D=>
  simp[bD,L9,E6,and_assoc];cases st[id]? with
  |none=>rfl|some O=>cases O with
   |rows v s r=>simp_all|map E=>rfl
@[simp]theorem auo{l i}:bD wl ai .index [.val (.str l),.val (.int .i64 i)] st bx=if 0<=i then vJ st bx (l[i.toNat]?.map λb=>.int .u8 b.toNat) else K:=by
 simp[bD];cases l[i.toNat]?<;>rfl
@[simp]theorem aE{agg n p}:bD wl ai (.load agg n X) [.val p] st bx=vJ st bx ((gP st p n).bind λC=>bO agg (AV.cP C)):=by
 simp only[bD];cases gP st p n with
 |none=>rfl|some C=>simp only[ahZ,aai,bC];cases bO agg _<;>rfl
@[simp]theorem aup{zero}:bD wl ai (.alloc zero) [] st bx=Z (.val (.ptr st.length 0 0 0),st++[.rows 0 zero.length [zero]],bx):=rfl
@[simp]theorem arh{g bytes s x}:bD wl ai (.append g bytes) [.val s,.val x] st bx=vJ st bx ((dO [] x).bind (wS g bytes s)):=by
 simp only[bD];cases dO [] x with
 |none=>rfl|some new=>
  simp only[ahZ,wS];by_cases H:cy g new=Y
  ·cases s<;>simp only[E6,aC]<;>(try rfl)<;>repeat' split
   all_goals rfl
  simp_all
@[simp]theorem ari{g bytes zero n c}:bD wl ai (.zN g bytes zero X) [.val (.int .i64 n),.val (.int .i64 c)] st bx =
  if 0<=n/\n<=c/\c*bytes<=dj/\zero.length=g then (if AV.aD zero then Z (.val (.iY g (aag n.toNat zero)),st,bx) else K) else K:=rfl
@[simp]theorem aoZ{g bytes zero n c}:bD wl ai (.EI g bytes zero) [.val (.int .i64 n),.val (.int .i64 c)] st bx =
  if 0<=n/\n<=c/\c*bytes<=dj/\zero.length=g/\AV.aD zero=Y then Z (.val (.raw g (aag n.toNat zero)),st,bx) else K:=rfl
@[simp]theorem MQ{g bytes zero n c}:bD wl ai (.zN g bytes zero Y) [.val (.int .i64 n),.val (.int .i64 c)] st bx =
  if 0<=n/\n<=c/\c*bytes<=dj/\zero.length=g then Z (.val (.mu st.length 0),st++[.rows 0 g (aag n.toNat zero)],bx) else K:=rfl
@[simp]theorem az{n p v}:bD wl ai (.store n) [.val p,.val v] st bx=if v.cells.length=n/\AV.bG v.cells=Y then (gT wl ai st p v.cells).map λs=>(.none,s,bx) else K:=by
 simp[bD,E6]
 grind
@[simp]theorem alC{id D i j cells}:gT wl ai st (.ptr id D i j) cells=match st[id]? with
  |some (.rows v g rows)=>if v=D/\bw wl ai id cells=Y then rows[i]?.bind λr=>if j+cells.length<=r.length then Z (st.set id (.rows v g (rows.set i (aB r j cells)))) else K else K
  |_=>K:=by
 simp only[gT]
 grind
attribute [simp] bw
@[simp]theorem zg{g id D h}:bD wl ai (.wC g) [.val (.mu id D),.val (.int .i64 h)] st bx=match st[id]? with
  |some (.rows v s rows)=>if v=D/\s=g/\0<=h/\h<=rows.length/\wl<=id then Z (.val (.mu id (v+1)),st.set id (.rows (v+1) s (rows.take h.toNat)),bx) else K
  |_=>K:=by
 simp[bD,E6,and_assoc]
 grind
@[simp]theorem zh{g bytes id D x}:bD wl ai (.j8 g bytes) [.val (.mu id D),.val x] st bx=(dO st x).bind λnew=>if cy g new=Y then match st[id]? with
  |some (.rows v n kF)=>if v=D/\n=g/\(kF.length+new.length)*bytes<=dj/\wl<=id/\(ai<=id\/new.all AV.aD=Y) then Z (.val (.mu id (v+1)),st.set id (.rows (v+1) g (kF++new)),bx) else K
  |_=>K else K:=by
 simp only[bD,uN,E6,aC,Bool.or_eq_true,and_assoc]
 grind
@[simp]theorem awq:bD wl ai .afK [.val .aF] st bx=Z (.val (.int .i64 0),st,bx):=rfl
@[simp]theorem CY{g bytes s zero n}:bD wl ai (.xK g bytes zero) [.val s,.val (.int .i64 n)] st bx =
  if 0<=n/\n*bytes<=dj/\zero.length=g/\AV.aD zero=Y then uN wl ai g bytes s (aag n.toNat zero) st bx else K:=rfl
@[simp]theorem tc{g bytes x}:bD wl ai (.j8 g bytes) [.val .aF,.val x] st bx=(dO st x).bind λnew=>if cy g new=Y then (if new.isEmpty=Y then Z (.val .aF,st,bx) else if new.length*bytes<=dj then Z (.val (.mu st.length 0),st++[.rows 0 g new],bx) else K) else K:=by
 simp only[bD];cases dO st x with
 |none=>rfl|some new=>rfl
@[simp]theorem alD{g bytes x}:bD wl ai (.j8 g bytes) [.val .pP,.val x] st bx=(dO st x).bind λnew=>if cy g new=Y then (if new.length*bytes<=dj then Z (.val (.mu st.length 0),st++[.rows 0 g new],bx) else K) else K:=by
 simp only[bD];cases dO st x with
 |none=>rfl|some new=>rfl
@[simp]theorem auq{j i n agg}:bD wl ai (.yV j agg n X) [.fp j i] st bx=vJ st bx ((bx[j]?.bind λg=>cut g i n).bind λC=>bO agg (AV.cP C)):=by
 simp only[bD,bz];cases bx[j]? with
 |none=>rfl|some g=>
  simp only[ahZ];cases cut g i n with
  |none=>rfl|some C=>simp only[ahZ,aai,bC];cases bO agg _<;>rfl
@[simp]theorem arj{j i n agg}:bD wl ai (.yV j agg n Y) [.fp j i] st bx=(bx[j]?.bind λg=>(cut g i n).bind λC=>(bO agg C).map λv=>(.val v,st,bx.set j (aB g i (C.map AV.gK)))):=by
 simp only[bD,bz]
 grind
@[simp]theorem ark{j i n v}:bD wl ai (.yz j n) [.fp j i,.val v] st bx=if v.cells.length=n/\AV.bG v.cells=Y then bx[j]?.bind λg=>(if i+n<=g.length then Z (.none,st,bx.set j (aB g i v.cells)) else K) else K:=by
 simp[bD,E6]
 grind
@[simp]theorem arl{j zero}:bD wl ai (.yA j zero) [] st bx=if j<bx.length then Z (.fp j 0,st,bx.set j zero) else K:=rfl
@[simp]theorem aAm{n v}:bD wl ai (.box n) [.val v] st bx=if v.cells.length=n/\AV.bG v.cells=Y then Z (.val (.ptr st.length 0 0 0),st++[.rows 0 n [v.cells]],bx) else K:=by
 simp[bD,E6]
@[simp]theorem awr{j n v}:bD wl ai (.LP j n) [.val v] st bx=if j<bx.length/\v.cells.length=n/\AV.bG v.cells=Y then Z (.fp j 0,st,bx.set j v.cells) else K:=by
 simp[bD,E6,and_assoc]
@[simp]theorem alE{f n l}:bD wl ai (.makeFunc f n) l st bx=vJ st bx ((lQ l).map λvs=>.fn f (AV.cP (vs.take n)) (AV.cP (vs.drop n))):=by
 simp[bD];cases lQ l<;>rfl
@[simp]theorem ao0{D g x b}:bD wl ai (.slice D X Y X g) [.val x,.val (.int .i64 b)] st bx=(uh st (if D then .str else .sl) x).bind λ_=>vJ st bx (nG D g x 0 b K):=by
 simp only[bD];cases uh st _ x with
 |none=>rfl|some n=>simp;cases nG D g x 0 b K<;>rfl
@[simp]theorem ao1{D g x a}:bD wl ai (.slice D Y X X g) [.val x,.val (.int .i64 a)] st bx=(uh st (if D then .str else .sl) x).bind λn=>vJ st bx (nG D g x a n K):=by
 simp only[bD];cases uh st _ x with
 |none=>rfl|some n=>cases nG D g x a n K<;>rfl
@[simp]theorem ao2{D g x a b}:bD wl ai (.slice D Y Y X g) [.val x,.val (.int .i64 a),.val (.int .i64 b)] st bx=(uh st (if D then .str else .sl) x).bind λ_=>vJ st bx (nG D g x a b K):=by
 simp only[bD];cases uh st _ x with
 |none=>rfl|some n=>simp;cases nG D g x a b K<;>rfl
@[simp]theorem alF{g s a b}:nG Y g (.str s) a b K=if 0<=a/\a<=b/\b<=s.length then Z (.str ((s.take b.toNat).drop a.toNat)) else K:=by
 simp[nG,and_assoc]
attribute [simp] AV.gK
@[simp]theorem arn{op kk a b}:Iq op (.int kk a) (.int kk b)=oN op kk a b:=by simp[Iq]
@[simp]theorem aws{a b}:Iq .add (.str a) (.str b)=if a.length+b.length<=4611686018427387904 then Z (.str (a++b)) else K:=rfl
@[simp]theorem awt{a b}:Iq .eql (.str a) (.str b)=Z (.bool (V (a=b))):=by grind [Iq]
@[simp]theorem awu{a b}:Iq .neq (.str a) (.str b)=Z (.bool (!decide (a=b))):=by grind [Iq]
@[simp]theorem aur{b}:unV .not (.bool b)=Z (.bool (!b)):=rfl
@[simp]theorem aus{kk a}:unV .neg (.int kk a)=Z (.int kk (kk.wrap (0-a))):=rfl
@[simp]theorem aro{a b}:NC (.sc .bool) (.bool a) (.bool b)=Z (V (a=b)):=by cases a<;>cases b<;>rfl
@[simp]theorem aut{kk a b}:NC (.sc .int) (.int kk a) (.int kk b)=Z (V (a=b)):=by simp[NC,LQ];by_cases h:a=b<;>simp[h]
@[simp]theorem auu{a b}:NC (.sc .str) (.str a) (.str b)=Z (V (a=b)):=by simp[NC,LQ];by_cases h:a=b<;>simp[h]
@[simp]theorem arp{g a b}:NC (.flat g) (.agg a) (.agg b)=LF g a b:=rfl
attribute [simp] LF
@[simp]theorem arq{a b}:LQ .bool (.bool a) (.bool b)=Z (V (a=b)):=by cases a<;>cases b<;>rfl
@[simp]theorem auv{kk a b}:LQ .int (.int kk a) (.int kk b)=Z (V (a=b)):=by grind [LQ]
@[simp]theorem auw{a b}:LQ .str (.str a) (.str b)=Z (V (a=b)):=by simp[LQ];by_cases h:a=b<;>simp[h]
section
variable {kk:IntKind}{a b:Int}
@[simp]theorem awv:oN .add kk a b=Z (.int kk (kk.wrap (a+b))):=rfl
@[simp]theorem aww:oN .sub kk a b=Z (.int kk (kk.wrap (a-b))):=rfl
@[simp]theorem awx:oN .mul kk a b=Z (.int kk (kk.wrap (a*b))):=rfl
@[simp]theorem awy:oN .quo kk a b=if b=0 then K else Z (.int kk (kk.wrap (a.tdiv b))):=rfl
@[simp]theorem awz:oN .rem kk a b=if b=0 then K else Z (.int kk (a.tmod b)):=rfl
@[simp]theorem awA:oN .and kk a b=Z (.int kk (kk.wrap ((BitVec.ofInt kk.bits a &&& BitVec.ofInt kk.bits b).toNat))):=rfl
@[simp]theorem awB:oN .eql kk a b=Z (.bool (V (a=b))):=by grind [oN]
@[simp]theorem awC:oN .neq kk a b=Z (.bool (!decide (a=b))):=by grind [oN]
@[simp]theorem awD:oN .lss kk a b=Z (.bool (V (a<b))):=rfl
@[simp]theorem awE:oN .leq kk a b=Z (.bool (V (a<=b))):=rfl
@[simp]theorem awF:oN .gtr kk a b=Z (.bool (V (b<a))):=rfl
@[simp]theorem awG:oN .geq kk a b=Z (.bool (V (b<=a))):=rfl
end
@[simp]theorem ao3{g rows i kk n}:gP st (.uL g rows i kk) n=rows[i]?.bind λr=>cut r kk n:=by
 grind [gP]
@[simp]theorem ao4{id D i kk n}:gP st (.ptr id D i kk) n=match st[id]? with
  |some (.rows v _ rows)=>if v=D then rows[i]?.bind λr=>cut r kk n else K
  |_=>K:=by
 grind [gP]
@[simp]theorem alG(b):AV.cells (.bool b)=[.bool b]:=rfl
@[simp]theorem ajT(b):AV.cT (.bool b)=Y:=rfl
@[simp]theorem ao5(kk n):AV.cells (.int kk n)=[.int kk n]:=rfl
@[simp]theorem alH(kk n):AV.cT (.int kk n)=Y:=rfl
@[simp]theorem ao6(l):AV.cells (.str l)=[.str l]:=rfl
@[simp]theorem alI(l):AV.cT (.str l)=Y:=rfl
@[simp]theorem agY:AV.cells (.ff)=[.ff]:=rfl
@[simp]theorem aft:AV.cT (.ff)=Y:=rfl
@[simp]theorem ajU:AV.cells (.aF)=[.aF]:=rfl
@[simp]theorem agZ:AV.cT (.aF)=Y:=rfl
@[simp]theorem ag0:AV.cells (.gR)=[.gR]:=rfl
@[simp]theorem afu:AV.cT (.gR)=Y:=rfl
@[simp]theorem ajV:AV.cells (.jx)=[.jx]:=rfl
@[simp]theorem ag1:AV.cT (.jx)=Y:=rfl
@[simp]theorem ajW:AV.cells (.me)=[.me]:=rfl
@[simp]theorem ag2:AV.cT (.me)=Y:=rfl
@[simp]theorem ao7(s r):AV.cells (.eE s r)=[.eE s r]:=rfl
@[simp]theorem alJ(s r):AV.cT (.eE s r)=Y:=rfl
@[simp]theorem ao8(s r):AV.cells (.iY s r)=[.iY s r]:=rfl
@[simp]theorem alK(s r):AV.cT (.iY s r)=Y:=rfl
@[simp]theorem ao9:AV.cells (.pP)=[.pP]:=rfl
@[simp]theorem alL:AV.cT (.pP)=Y:=rfl
@[simp]theorem ars(a b):AV.cells (.mu a b)=[.mu a b]:=rfl
@[simp]theorem apa(a b):AV.cT (.mu a b)=Y:=rfl
@[simp]theorem apb(a b c d):AV.cells (.ptr a b c d)=[.ptr a b c d]:=rfl
@[simp]theorem alM(a b c d):AV.cT (.ptr a b c d)=Y:=rfl
@[simp]theorem apc(a r c d):AV.cells (.uL a r c d)=[.uL a r c d]:=rfl
@[simp]theorem alN(a r c d):AV.cT (.uL a r c d)=Y:=rfl
@[simp]theorem apd(a):AV.cells (.map a)=[.map a]:=rfl
@[simp]theorem alO(a):AV.cT (.map a)=Y:=rfl
@[simp]theorem art(f a b):AV.cells (.fn f a b)=[.fn f a b]:=rfl
@[simp]theorem ape(f a b):AV.cT (.fn f a b)=Y:=rfl
@[simp]theorem alP:AV.cells (.gone)=[.gone]:=rfl
@[simp]theorem ajX:AV.cT (.gone)=Y:=rfl
@[simp]theorem apf(C):AV.cells (.agg C)=C:=rfl
@[simp]theorem ag3:AV.bG []=Y:=rfl
@[simp]theorem afv(a l):AV.bG (a::l)=(a.cT&&AV.bG l):=rfl
attribute [simp] jc kV aB
theorem dg{n}(h: -9223372036854775808<=n)(H:n<=9223372036854775807):IntKind.i64.wrap n=n:=IntWalk.i64_in n ⟨h,H⟩
theorem wk(k:Nat)(h:k<9000000000000000000):IntKind.i64.wrap (k+1)=((k+1:Nat)):=by rw[dg]<;>omega
end Ax
namespace Ax
open Go
variable {S:Nat->Option aQ}{wl ai:Nat}{rs:List qg}{Q:Ex->St->Prop}{k:List B1}{st:aO}{bx:jM}
def IA(rs:List qg)(m:Mode)(st:aO)(r:AV×aO)(x:Ex)(s:St):Prop:=∃v,LR rs x s=Z v/\m.mJ st v s.st=Z r
theorem aG{f sf}(g:S f=Z sf){args}(H:A7 sf args=X)(j:args.length=sf.tP){r}(h:W S (sf.mode.BC st.length wl) (sf.mode.uk st.length ai) sf.results (IA sf.results sf.mode st r) [.code sf.body] .normal (vz sf args st)):
  (bh S).call wl ai f args st=Z r:=YB g H j h
@[simp]theorem Rb{m r v s}:IA rs m st r (.ret v) s↔m.mJ st v s.st=Z r:=by
 simp[IA,LR]
@[simp]theorem Rd{m r s}:IA rs m st r .normal s↔∃v,Du s rs=Z v/\m.mJ st v s.st=Z r:=Iff.rfl
def Re(rs:List qg)(v:AV)(x:Ex)(s:St):Prop:=LR rs x s=Z v
@[simp]theorem apg{v u s}:Re rs v (.ret u) s↔u=v:=by simp[Re,LR]
@[simp]theorem aph{v s}:Re rs v .normal s↔Du s rs=Z v:=Iff.rfl
theorem bu{f sf}(H:S f=Z sf)(j:sf.mode=.pure){args}(l:AV.aD args=Y)(g:args.length=sf.tP){v}(p:v.aH=Y)(h:W S 0 0 sf.results (Re sf.results v) [.code sf.body] .normal (vz sf args [])):
  (bh S).call wl ai f args st=Z (v,st):=YC H j l g p h
theorem aru{l:Type}{c b}(h:c=b)(f:l->St)(I:l->Prop)(j:l->Nat)(round:∀a,I a->(∀g,I g->j g<j a->W S wl ai rs Q (.code (.loop c)::k) .normal (f g))->W S wl ai rs Q (.code b::.zf c::k) .normal (f a)):
  ∀a,I a->W S wl ai rs Q (.code (.loop c)::k) .normal (f a):=by
 have key:∀n a,j a=n->I a->W S wl ai rs Q (.code (.loop c)::k) .normal (f a):=by
  intro n;induction n using Nat.strongRecOn with
  |_ n m=>
   intro a o H;rw[Aj h];exact round a H λg p R=>m (j g) (by omega) g rfl p
 exact λa H=>key _ a rfl H
def bf:AV->List (List AV)
 |.eE _ r|.iY _ r=>r|_=>[]
def bn:AV->Bool
 |.aF|.pP|.eE _ _|.iY _ _=>Y|_=>X
def cU(sz:Nat):AV->Bool
 |.aF|.pP=>Y|.eE s r|.iY s r=>s==sz&&cy sz r|_=>X
@[simp]theorem Kp(v):bf v.aj=bf v:=by cases v<;>simp[bf,AV.aj]
@[simp]theorem GK(v):bn v.aj=bn v:=by cases v<;>simp[bn,AV.aj]
@[simp]theorem MR(sz v):cU sz v.aj=cU sz v:=by cases v<;>simp[cU,AV.aj]
@[simp]theorem api:bf .aF=[]:=rfl
@[simp]theorem apj:bf .pP=[]:=rfl
@[simp]theorem YD{g r}:bf (.eE g r)=r:=rfl
@[simp]theorem YE{g r}:bf (.iY g r)=r:=rfl
@[simp]theorem arv:bn .aF=Y:=rfl
@[simp]theorem arw:bn .pP=Y:=rfl
@[simp]theorem arx{g r}:bn (.eE g r)=Y:=rfl
@[simp]theorem ary{g r}:bn (.iY g r)=Y:=rfl
@[simp]theorem arz{g}:cU g .aF=Y:=rfl
@[simp]theorem arA{g}:cU g .pP=Y:=rfl
@[simp]theorem jz{sz s r}:cU sz (.eE s r)=(s==sz&&cy sz r):=rfl
@[simp]theorem arB{g s r}:cU g (.iY s r)=(s==g&&cy g r):=rfl
theorem lH{g v}(h:cU g v=Y):bn v=Y:=by cases v<;>simp_all [cU,bn]
@[simp]theorem apk{v}(h:bn v=Y):fO st v=Z (bf v):=by cases v<;>simp_all [bn,bf]
@[simp]theorem ajY{v}(h:bn v=Y):dO st v=Z (bf v):=by cases v<;>simp_all [bn,bf]
@[simp]theorem auy{g v i}(h:cU g v=Y):L9 g st v i=if 0<=i/\i<(bf v).length then Z (.uL g (bf v) i.toNat 0) else K:=by
 by_cases H:0<=i/\i<(bf v).length
 ·rw[af H];cases v<;>simp[cU]at h
  case aF=>have:=H.2;simp[bf]at this;omega
  case pP=>have:=H.2;simp[bf]at this;omega
  case eE s r=>simp only[L9,bf];rw[af ⟨h.1,H⟩]
  case iY s r=>simp only[L9,bf];rw[af ⟨h.1,H⟩]
 ·rw[U H];cases v<;>simp[cU]at h
  case aF=>rfl
  case pP=>rfl
  case eE s r=>simp only[L9];rw[U λc=>H c.2]
  case iY s r=>simp only[L9];rw[U λc=>H c.2]
mutual
theorem Kq:∀v:AV,v.aj.aj=v.aj
 |.iY _ _=>rfl|.raw _ _=>rfl|.agg C=>by simp only[AV.aj];rw[B2 C]|.fC C=>by simp only[AV.aj];rw[B2 C]|.undef|.gone|.bool _|.int _ _|.str _|.ff|.aF|.gR|.jx|.me|.eE _ _|.pP|.mu _ _|.ptr _ _ _ _|.uL _ _ _ _|.map _|.fn _ _ _=>rfl
theorem B2:∀C:List AV,AV.cP (AV.cP C)=AV.cP C
 |[]=>rfl|c::C=>by simp only[AV.cP];rw[Kq c,B2 C]
end
@[simp]theorem zi(v:AV):v.aj.aj=v.aj:=Kq v
@[simp]theorem dV{v}(h:bn v=Y):v.aH=Y:=by cases v<;>simp_all [bn]
@[simp]theorem arC{v}(h:bn v=Y):v.cells=[v]:=by cases v<;>simp_all [bn,AV.cells]
@[simp]theorem j9{v}(h:bn v=Y):v.cT=Y:=by cases v<;>simp_all [bn,AV.cT]
def cw(sz:Nat)(r:List (List AV)):AV:=if r.isEmpty then .aF else .iY sz r
@[simp]theorem oZ{sz r}:bf (cw sz r)=r:=by
 cases r<;>rfl
@[simp]theorem ey{sz r}:bn (cw sz r)=Y:=by
 cases r<;>rfl
@[simp]theorem Ja{g r}:cU g (cw g r)=cy g r:=by
 cases r<;>simp[cw,cU,cy]
theorem xX{sz}:cw sz []=.aF:=rfl
theorem iw{sz bytes r new}(h:cy sz new=Y)(H:(r.length+new.length)*bytes<=dj):wS sz bytes (cw sz r) new=Z (cw sz (r++new)):=by
 unfold wS;rw[af h];cases r with
 |nil=>
  cases new with
  |nil=>rfl|cons a l=>simp only[cw,List.isEmpty_nil,bz,akA,aai,bC,List.nil_append];rw[af (by simpa using H)]
 |cons b r=>simp only[cw,akA,aai,bC,List.cons_append];rw[af ⟨trivial,H⟩]
def td(v:AV)(lo hi:Nat):AV:=match v with
 |.eE s r|.iY s r=>.eE s ((r.take hi).drop lo)|x=>x
@[simp]theorem apl{j v l g}(h:cU j v=Y):nG X j v l g K=if 0<=l/\l<=g/\g<=(bf v).length then Z (td v l.toNat g.toNat) else K:=by
 by_cases H:0<=l/\l<=g/\g<=(bf v).length
 ·rw[af H];cases v<;>simp[cU]at h
  case aF=>
   simp[bf]at H;have:l=0/\g=0:=by omega
   obtain⟨rfl,rfl⟩:=this
   rfl
  case pP=>
   simp[bf]at H;have:l=0/\g=0:=by omega
   obtain⟨rfl,rfl⟩:=this
   rfl
  case eE s r=>simp only[bf]at H;simp[nG,td,h.1,H]
  case iY s r=>simp only[bf]at H;simp[nG,td,h.1,H]
 ·rw[U H];cases v<;>simp[cU]at h
  case aF=>
   simp only[nG];refine U λh=>H ?_;simp at h;obtain⟨rfl,rfl⟩:=h;simp[bf]
  case pP=>
   simp only[nG];refine U λh=>H ?_;simp at h;obtain⟨rfl,rfl⟩:=h;simp[bf]
  case eE s r=>
   simp only[nG];refine U λh=>H ?_;simp at h;simp only[bf];exact⟨h.1.1.2,h.1.2,h.2⟩
  case iY s r=>
   simp only[nG];refine U λh=>H ?_;simp at h;simp only[bf];exact⟨h.1.1.2,h.1.2,h.2⟩
@[simp]theorem abG{v l H}(h:bn v=Y):bn (td v l H)=Y:=by
 cases v<;>simp_all [bn,td]
@[simp]theorem YF{v l H}(h:bn v=Y):bf (td v l H)=((bf v).take H).drop l:=by
 cases v<;>simp_all [bn,td,bf]
theorem abH{g L H r}(h:cy g r=Y):cy g ((r.take H).drop L)=Y:=by
 simp only[cy,aam]at *;exact λx l=>h x (afy (afz l))
@[simp]theorem abI{g v l H}(h:cU g v=Y):cU g (td v l H)=Y:=by
 cases v<;>simp_all [cU,td,abH]
def aT(x:List Int):List (List AV):=x.map λn=>[.int .i64 n]
def dI(v:AV):List Int:=(bf v).map λr=>match r with | [.int .i64 n]=>n|_=>0
def mX(v:AV):Bool:=cU 1 v&&(bf v).all λr=>match r with | [.int .i64 _]=>Y|_=>X
theorem Ff(g):((aT g).map λr=>match r with | [AV.int .i64 n]=>n|_=>0)=g:=by
 induction g with
 |nil=>rfl|cons x g I=>simp only[aT,List.map_cons]at *;rw[I]
@[simp]theorem arD(x):(aT x).length=x.length:=by simp[aT]
@[simp]theorem arE(x)(i:Nat)(h):(aT x)[i]=[.int .i64 (x[i]'(by simpa using h))]:=by simp[aT]
@[simp]theorem apm(x):cy 1 (aT x)=Y:=by simp[cy,aT]
@[simp]theorem apn(x k):List.take k (aT x)=aT (x.take k):=by simp[aT]
@[simp]theorem alQ(x:List Bool)(k):List.take k (x.map λb=>[AV.bool b])=(x.take k).map λb=>[AV.bool b]:=by simp
@[simp]theorem apo(x k):List.drop k (aT x)=aT (x.drop k):=by simp[aT]
@[simp]theorem ajZ(x y):aT x++aT y=aT (x++y):=by simp[aT]
@[simp]theorem ag4(x n):aT x++[[.int .i64 n]]=aT (x++[n]):=by simp[aT]
theorem cC{v}(h:mX v=Y):bf v=aT (dI v):=by
 simp only[mX,E6,aam]at h;unfold aT dI;rw[List.map_map];conv=>lhs;rw[<-List.map_id (bf v)]
 refine afj λr H=>?_;have:=h.2 r H;split at this
 rfl
 cases this
@[simp]theorem arF(v):mX v.aj=mX v:=by simp[mX]
@[simp]theorem auz(v):dI v.aj=dI v:=by simp[dI]
@[simp]theorem Er{v}(h:mX v=Y):cU 1 v=Y:=by simp only[mX,E6]at h;exact h.1
@[simp]theorem dY{v}(h:mX v=Y):bn v=Y:=lH (Er h)
@[simp]theorem awH(x):mX (cw 1 (aT x))=Y:=by simp[mX,aT,cy]
@[simp]theorem aAn(x):dI (cw 1 (aT x))=x:=by simp only[dI,oZ];exact Ff x
@[simp]theorem auA:mX .aF=Y:=rfl
@[simp]theorem awI:dI .aF=[]:=rfl
@[simp]theorem auB(x):mX (.eE 1 (aT x))=Y:=by simp[mX,aT,cy]
@[simp]theorem awJ(x):dI (.eE 1 (aT x))=x:=by simp only[dI,YD];exact Ff x
@[simp]theorem auC(x):mX (.iY 1 (aT x))=Y:=by simp[mX,aT,cy]
@[simp]theorem awK(x):dI (.iY 1 (aT x))=x:=by simp only[dI,YE];exact Ff x
@[simp]theorem Oe{v lo hi}(h:mX v=Y):mX (td v lo hi)=Y:=by
 have B:=dY h;simp only[mX,E6,aam]at *;refine⟨abI h.1,λr H=>?_⟩;rw[YF B]at H;exact h.2 r (afy (afz H))
@[simp]theorem alR{v lo hi}(h:mX v=Y):dI (td v lo hi)=((dI v).take hi).drop lo:=by
 simp[dI,dY h,List.map_take,List.map_drop]
@[simp]theorem arG(n):mX (.iY 1 [[.int .i64 n]])=Y:=rfl
@[simp]theorem arH(n):mX (.eE 1 [[.int .i64 n]])=Y:=rfl
@[simp]theorem arI(a b):mX (.eE 1 [[.int .i64 a],[.int .i64 b]])=Y:=rfl
@[simp]theorem auD(a b):dI (.eE 1 [[.int .i64 a],[.int .i64 b]])=[a,b]:=rfl
@[simp]theorem arJ(a b c):mX (.eE 1 [[.int .i64 a],[.int .i64 b],[.int .i64 c]])=Y:=rfl
@[simp]theorem auE(a b c):dI (.eE 1 [[.int .i64 a],[.int .i64 b],[.int .i64 c]])=[a,b,c]:=rfl
@[simp]theorem auF(n):dI (.eE 1 [[.int .i64 n]])=[n]:=rfl
def lK(x:List Bool):List (List AV):=x.map λb=>[.bool b]
@[simp]theorem apq(x):(lK x).length=x.length:=by simp[lK]
@[simp]theorem apr(x)(i:Nat)(h):(lK x)[i]=[.bool (x[i]'(by simpa using h))]:=by simp[lK]
@[simp]theorem aps(x i b):(lK x).set i [.bool b]=lK (x.set i b):=by simp[lK]
variable{g:Type}
@[simp]theorem st0(st)(a:g)(l):(st++a::l)[st.length]?=Z a:=by simp
@[simp]theorem qS(st)(a b:g)(l):(st++a::b::l)[st.length+1]?=Z b:=by
 rw[aak (by omega)];simp
@[simp]theorem qh(st)(a b c:g)(l):(st++a::b::c::l)[st.length+2]?=Z c:=by
 rw[aak (by omega)];simp
@[simp]theorem aCv(st)(a x:g)(l):(st++a::l).set st.length x=st++x::l:=by simp
@[simp]theorem aCw(st)(a b x:g)(l):(st++a::b::l).set (st.length+1) x=st++a::x::l:=by
 rw[ajN _ _ (by omega)];simp
@[simp]theorem aCx(st)(a b c x:g)(l):(st++a::b::c::l).set (st.length+2) x=st++a::b::x::l:=by
 rw[ajN _ _ (by omega)];simp
end Ax
namespace Ax
open Go
theorem bM{S wl ai rs Q k}{l:Type}{c b s}(h:c=b)(f:l->St)(I:l->Prop)(m:l->Nat)(j)(H:s=f j)(B:I j)(round:∀a,I a->(∀g,I g->m g<m a->W S wl ai rs Q (.code (.loop c)::k) .normal (f g))->W S wl ai rs Q (.code b::.zf c::k) .normal (f a)):
  W S wl ai rs Q (.code (.loop c)::k) .normal s:=by
 subst H;exact aru h f I m round j B
def els(v:AV):List AV:=(bf v).map λr=>r.headD .undef
def Kr(v:AV):Bool:=cU 1 v&&(bf v).all λr=>match r with | [x]=>mX x|_=>X
def dII(v:AV):List (List Int):=(els v).map dI
theorem abJ{v}(h:Kr v=Y):bf v=(els v).map λx=>[x]:=by
 simp only[Kr,E6,aam]at h;unfold els;rw[List.map_map];conv=>lhs;rw[<-List.map_id (bf v)]
 refine afj λr H=>?_;have:=h.2 r H;split at this
 rfl
 cases this
theorem alS{v}(h:Kr v=Y):∀x∈els v,mX x=Y:=by
 intro x l;have H:=abJ h;simp only[Kr,E6,aam]at h;have:[x]∈bf v:=by rw[H];exact List.mem_map.2 ⟨x,l,rfl⟩
 exact h.2 _ this
@[simp]theorem arL(v):els v.aj=els v:=by simp[els]
@[simp]theorem apt(v):Kr v.aj=Kr v:=by simp[Kr]
@[simp]theorem arM(v):dII v.aj=dII v:=by simp[dII]
@[simp]theorem ag5{v}(h:Kr v=Y):cU 1 v=Y:=by simp only[Kr,E6]at h;exact h.1
@[simp]theorem auG{v}(h:Kr v=Y):bn v=Y:=lH (ag5 h)
@[simp]theorem auH(v):Q (dII v)=Q (els v):=by simp[dII]
@[simp]theorem auI{v}(h:Kr v=Y)(i:Nat)(H):mX (els v)[i]=Y:=alS h _ (List.getElem_mem _)
end Ax
namespace Ax
@[simp]theorem cast_eq(a b:Nat):((a:Int)=b)↔a=b:=Int.natCast_inj
open Go
theorem abK{S f sf}(j:S f=Z sf)(l:sf.mode=.pure){args}(m:AV.aD args=Y){v st0}(h:(bh S).call 0 0 f args []=Z (v,st0))(wl ai st):
  (bh S).call wl ai f args st=Z (v,st):=by
 rw[Gx,j]at h ⊢;have g:A7 sf args=Y:=by simp[A7,l,m]
 simp only[gu,g,bz]at h ⊢;cases H:eY (bh S) 0 0 sf args [] with
 |none=>rw[H]at h;cases h|some x=>rw[H]at h;cases h;rfl
variable {P:Program}
theorem T9{t k as}(H:P.underlying t=Z (.int k))(h:Ty P t as):∃n,as=[.int k n]/\k.min<=n/\n<=k.max:=by
 cases h with
 |int g n a b=>rw[H]at g;cases g;exact⟨n,rfl,a,b⟩|bool g=>rw[H]at g;cases g|str g=>rw[H]at g;cases g|aF g=>rw[H]at g;cases g|pP g=>rw[H]at g;cases g|eE g=>rw[H]at g;cases g|abw g=>rw[H]at g;cases g
theorem alT{t as}(H:P.underlying t=Z .string)(h:Ty P t as):∃l,as=[.str l]/\Q l<=maxLen:=by
 cases h with
 |str g l j=>exact⟨l,rfl,j⟩|bool g=>rw[H]at g;cases g|int g=>rw[H]at g;cases g|aF g=>rw[H]at g;cases g|pP g=>rw[H]at g;cases g|eE g=>rw[H]at g;cases g|abw g=>rw[H]at g;cases g
theorem abL{t e as}(H:P.underlying t=Z (.slice e))(h:Ty P t as):∃v,as=[v]/\cU (P.cellsOf e) v=Y/\(∀r∈bf v,Ty P e r)/\Q (bf v)<=maxLen:=by
 cases h with
 |aF g=>exact⟨_,rfl,rfl,λr j=>by simp[bf]at j,by simp[bf]⟩|pP g=>exact⟨_,rfl,rfl,λr j=>by simp[bf]at j,by simp[bf]⟩|eE g rows n m l=>
  rw[H]at g;cases g;refine⟨_,rfl,?_,l,n⟩;simp only[jz,beq_self_eq_true,afp,cy,aam,cJ];exact m
 |bool g=>rw[H]at g;cases g|int g=>rw[H]at g;cases g|str g=>rw[H]at g;cases g|abw g=>rw[H]at g;cases g
theorem awL{t e as}(m:P.underlying t=Z (.slice e))(g:P.underlying e=Z (.int .i64))(o:P.cellsOf e=1)(h:Ty P t as):∃v,as=[v]/\mX v=Y/\Q (dI v)<=maxLen/\∀n∈dI v,-9223372036854775808<=n/\n<=9223372036854775807:=by
 obtain⟨v,rfl,a,b,c⟩:=abL m h;rw[o]at a;refine⟨v,rfl,?_,by simpa [dI] using c,λn j=>?_⟩;simp only[mX,a,afp,aam];intro r H;obtain⟨n,rfl,_⟩:=T9 g (b r H)
 rfl
 simp only[dI,List.mem_map]at j;obtain⟨r,H,rfl⟩:=j;obtain⟨n,rfl,l,u⟩:=T9 g (b r H);exact⟨l,u⟩
theorem Og{t a}(g:∀fs,P.underlying t≠Z (.struct fs))(h:TyV P t a):Ty P t [a]:=by
 rcases h with⟨fs,as,H,_⟩|⟨_,H⟩;exact bH H (g fs);exact H
theorem Ua{t u v as}(h:agE P [t,u,v] as):∃a b c,as=[a,b,c]/\TyV P t a/\TyV P u b/\TyV P v c:=by
 match as,h with
 |[a,b,c],h=>exact⟨a,b,c,rfl,h.1,h.2.1,h.2.2.1⟩
noncomputable def Rf (env:xJ) (t:Nat):kz:=List.rec (motive:=λ_=>kz) kz.none (λp _ I=>match af5 p.1 t with|true=>p.2|false=>I) env
noncomputable def abM (env:xJ) (t:Nat) (e:kz):xJ:=List.rec (motive:=λ_=>xJ) [(t,e)] (λp r I=>match aj7 p.1 t with
  |false=>(t,e)::p::r|true=>match af5 p.1 t with
   |true=>(t,e)::r|false=>p::I) env
noncomputable def MS (env:xJ) (t:Nat):xJ:=List.rec (motive:=λ_=>xJ) [] (λp _ I=>match af5 p.1 t with|true=>I|false=>p::I) env
theorem Ks{k t:Nat}(h:¬k=t):af5 k t=X:=by
 cases l:af5 k t with
 |false=>rfl|true=>exact bH (Nat.eq_of_beq_eq_true l) h
theorem Fg{k t:Nat}(h:k=t):af5 k t=Y:=by subst h;exact Nat.beq_refl k
theorem Rh:Rf=eG:=by
 funext env t;induction env with
 |nil=>rfl|cons p r I=>
  obtain⟨k,e⟩:=p;show (match af5 k t with|true=>e|false=>Rf r t)=eG ((k,e)::r) t;rw[I];show _=(if k=t then e else eG r t);by_cases h:k=t;rw[Fg h,af h];rw[Ks h,U h]
theorem abN:abM=BA:=by
 funext env t e;induction env with
 |nil=>rfl|cons p r I=>
  obtain⟨k,x⟩:=p;show (match aj7 k t with
   |false=>(t,e)::(k,x)::r|true=>match af5 k t with
    |true=>(t,e)::r|false=>(k,x)::abM r t e)=BA ((k,x)::r) t e
  rw[I];show _=(if t<k then (t,e)::(k,x)::r else if t=k then (t,e)::r else (k,x)::BA r t e);by_cases h:t<k;have:aj7 k t=X:=by
   cases l:aj7 k t with
   |false=>rfl|true=>have:=Nat.le_of_ble_eq_true l;omega
  rw[this,af h];have:aj7 k t=Y:=Nat.ble_eq_true_of_le (by omega);rw[this,U h];by_cases H:t=k;rw[Fg H.symm,af H];rw[Ks (λe=>H e.symm),U H]
theorem Ri:MS=Ip:=by
 funext env t;induction env with
 |nil=>rfl|cons p r I=>
  obtain⟨k,x⟩:=p;show (match af5 k t with|true=>MS r t|false=>(k,x)::MS r t)=(if k=t then Ip r t else (k,x)::Ip r t);rw[I];by_cases h:k=t;rw[Fg h,af h];rw[Ks h,U h]
noncomputable def Rj (v:AV):AV:=match v with
 |.iY g rows=>.eE g rows|.raw _ _=>.gone|.agg C=>(AV.agg C).aj|.fC C=>(AV.fC C).aj|v=>v
theorem Rk(v):Rj v=v.aj:=by cases v<;>simp[Rj,AV.aj]
noncomputable def Oh (l:List AV):List AV:=List.rec (motive:=λ_=>List AV) [] (λv _ I=>Rj v::I) l
theorem MU(l):Oh l=AV.cP l:=by
 induction l with
 |nil=>rfl|cons v l I=>
  show Rj v::Oh l=_;rw[I,Rk];rfl
noncomputable def V9 (v:AV):Bool:=match v with
 |.mu _ _|.ptr _ _ _ _|.map _=>X|.agg C=>(AV.agg C).aH|.fC C=>(AV.fC C).aH|.fn f a b=>(AV.fn f a b).aH|_=>Y
theorem abO(v):V9 v=v.aH:=by cases v<;>simp[V9,AV.aH]
noncomputable def Oi (l:List AV):Bool:=List.rec (motive:=λ_=>Bool) Y (λv _ I=>match V9 v with|true=>I|false=>X) l
theorem YG(l):Oi l=AV.aD l:=by
 induction l with
 |nil=>rfl|cons v l I=>
  show (match V9 v with|true=>Oi l|false=>X)=_;rw[I,abO];simp only[AV.aD];cases v.aH<;>simp
noncomputable def abP (e:kz):kz:=match e with|.val v=>.val (Rj v)|.none=>.none|.fp j k=>.fp j k
theorem abQ(e):abP e=e.aj:=by cases e<;>simp[abP,kz.aj,Rk]
noncomputable def abR (env:xJ) (x:Src):kz:=match x with
 |.tmp t m=>match m with|true=>Rf env t|false=>abP (Rf env t)
 |.const a=>.val a
theorem Wa:abR=P9:=by
 funext env x;unfold abR P9;rw[Rh];cases x with
 |tmp t m=>
  cases m;exact abQ _
  rfl
 |const a=>rfl
noncomputable def B3 (env:xJ) (x:Src):xJ:=match x with
 |.tmp t m=>match m with|true=>MS env t|false=>env
 |.const _=>env
theorem MW:B3=qv:=by
 funext env x;unfold B3 qv;rw[Ri];cases x with
 |tmp t m=>cases m<;>rfl|const a=>rfl
noncomputable def xY (l:List Nat) (env:xJ):xJ:=List.rec (motive:=λ_=>xJ->xJ) (λenv=>env) (λt _ I env=>I (MS env t)) l env
theorem Kt:xY=lu:=by
 funext l;induction l with
 |nil=>rfl|cons t l I=>
  funext env;show xY l (MS env t)=lu l (Ip env t);rw[I,Ri]
noncomputable def MX (env:xJ) (dst:Option Nat) (e:kz):xJ:=match dst with|some d=>abM env d e|none=>env
theorem abS:MX=Dt:=by
 funext env d e;unfold MX Dt;rw[abN]
 rfl
noncomputable def Ku (env:xJ) (g:Option (Nat×Bool)):Option Bool:=match g with
 |none=>Z Y|some (t,b)=>match Rf env t with
  |.val (.bool c)=>Z (c==b)|.val .undef=>Z X|_=>K
theorem Rl:Ku=qJ:=by
 funext env g;unfold Ku qJ;rw[Rh]
 rfl
noncomputable def abT (env:xJ) (l:List Src):List kz:=List.rec (motive:=λ_=>List kz) [] (λx _ I=>abR env x::I) l
theorem abU(env l):abT env l=l.map (P9 env):=by
 induction l with
 |nil=>rfl|cons x l I=>
  show abR env x::abT env l=_;rw[I,Wa];rfl
noncomputable def Kv (env:xJ) (l:List Src):xJ:=List.rec (motive:=λ_=>xJ->xJ) (λenv=>env) (λx _ I env=>I (B3 env x)) l env
theorem YH(l):∀env,Kv env l=l.foldl qv env:=by
 induction l with
 |nil=>exact λ_=>rfl|cons x l I=>
  intro env;show Kv (B3 env x) l=_;rw[I,MW];rfl
noncomputable def ag6 (O:sN) (wl ai:Nat) (op:eu) (vals:List kz) (st:aO) (bx:jM):Option (kz×aO×jM):=match op with
 |.move=>match vals with
  |[e]=>Z (e,st,bx)|_=>K
 |.load agg n t=>match t with
  |true=>bD wl ai (.load agg n Y) vals st bx|false=>match vals with
   |[.val p]=>match gP st p n with
    |some C=>match bO agg (Oh C) with|some v=>Z (.val v,st,bx)|none=>K
    |none=>K
   |_=>K
 |.yV j agg n t=>match t with
  |true=>bD wl ai (.yV j agg n Y) vals st bx|false=>match vals with
   |[.fp J k]=>match af5 j J with
    |true=>match bx[j]? with
     |some g=>match cut g k n with
      |some C=>match bO agg (Oh C) with|some v=>Z (.val v,st,bx)|none=>K
      |none=>K
     |none=>K
    |false=>K
   |_=>K
 |.call f=>iS O wl ai (qw (.call f) vals) st bx|.xL=>iS O wl ai (qw .xL vals) st bx|op=>bD wl ai op vals st bx
theorem ag7(O wl ai op vals st bx):ag6 O wl ai op vals st bx=yB O wl ai op vals st bx:=by
 cases op
 case load agg n t=>
  cases t with
  |true=>rfl|false=>
   simp only[ag6,yB,bD,MU]
   rfl
 case yV j agg n t=>
  cases t with
  |true=>rfl|false=>
   rcases vals with _|⟨e,_|⟨r,l⟩⟩
   rfl
   cases e with
   |none=>rfl|val v=>rfl|fp J k=>
    simp only[ag6,yB,bD,MU];by_cases h:j=J;rw[Fg h,af h];rfl;rw[Ks h,U h]
   cases e<;>rfl
 all_goals rfl
noncomputable def Jb (O:sN) (wl ai:Nat) (o:eN) (s:St):Option St:=
 match Ku s.env o.guard with
 |none=>K|some X=>Z { s with env:=MX s.env o.dst (.val .undef) }|some Y=>
  match ag6 O wl ai o.op (abT s.env o.args) s.st s.bx with
  |none=>K|some (e,g,I)=>
   match o.op.aX with
   |none=>Z ⟨MX (Kv s.env o.args) o.dst e,I,g⟩|some j=>if fP j (MX (Kv s.env o.args) o.dst .none) then Z ⟨MX (Kv s.env o.args) o.dst e,I,g⟩ else K
theorem Ub(O wl ai o s):Jb O wl ai o s=jS O wl ai o s:=by
 unfold Jb jS;rw[Rl,abS,abU,YH,ag7]
 rfl
noncomputable def zj (O:sN) (wl ai:Nat) (l:List eN) (s:St):Option St:=List.rec (motive:=λ_=>St->Option St) (λs=>Z s)
 (λo _ I s=>match Jb O wl ai o s with|some g=>I g|none=>K) l s
theorem HZ(O wl ai):∀l s,zj O wl ai l s=iE O wl ai l s:=by
 intro l;induction l with
 |nil=>exact λ_=>rfl|cons o l I=>
  intro s;show (match Jb O wl ai o s with|some g=>zj O wl ai l g|none=>K)=_;rw[Ub];unfold iE;cases jS O wl ai o s with
  |none=>rfl|some g=>exact I g
noncomputable def GM (O:sN) (wl ai:Nat) (dZ:List eN) (C:List (Nat×Nat)) (s:St):Option St:=match C with
 |[]=>match dZ.all (bP s.env) with
  |true=>zj O wl ai dZ s|false=>K
 |p::l=>jd O wl ai dZ (p::l) s
theorem Oj(O wl ai dZ C s):GM O wl ai dZ C s=jd O wl ai dZ C s:=by
 cases C with
 |cons p l=>rfl|nil=>
  show (match dZ.all (bP s.env) with|true=>zj O wl ai dZ s|false=>K)=_;cases h:dZ.all (bP s.env) with
  |true=>rw[Ai h];exact HZ ..
  |false=>
   unfold jd;cases cY O wl ai dZ s with
   |none=>rfl|some y=>simp[h]
noncomputable def Jc (env:xJ) (c:Src):Option Bool:=
 match abR env c with
 |.val (.bool b)=>Z b|_=>K
theorem Uc:Jc=wD:=by
 funext env c;unfold Jc wD;rw[Wa]
 rfl
noncomputable def Ol (O:sN) (wl ai:Nat) (rs:List qg) (c:aW):St->Option (Ex×St):=aW.rec (motive:=λ_=>St->Option (Ex×St))
 (λs=>Z (Ex.normal,s))
 (λdZ D U s=>
  match (match D with|none=>zj O wl ai dZ s|some C=>GM O wl ai dZ C s) with
  |some g=>Z (Ex.normal,{ g with env:=xY U g.env })|none=>K)
 (λ_ _ h l s=>match h s with
  |some (Ex.normal,g)=>l g|r=>r)
 (λc n _ p _ h l s=>match Jc s.env c with
  |some Y=>h { s with env:=xY n (B3 s.env c) }|some X=>l { s with env:=xY p (B3 s.env c) }|none=>K)
 (λid _ m s=>match m s with
  |some (Ex.exit I,g)=>if I=id then Z (Ex.normal,g) else Z (Ex.exit I,g)
  |r=>r)
 (λc _ s=>O.loop wl ai rs c s)
 (λid s=>Z (Ex.exit id,s))
 (λs=>match Du s rs with|some v=>Z (Ex.ret v,⟨[],[],s.st⟩)|none=>K)
 (λt s=>kG O wl ai rs (.frz t) s)
 (λj k s=>kG O wl ai rs (.Jv j k) s)
 (λt off s=>kG O wl ai rs (.rN t off) s) c
theorem Wb(O wl ai rs):∀c s,Ol O wl ai rs c s=kG O wl ai rs c s:=by
 intro c;induction c with
 |skip=>exact λ_=>rfl|region dZ D U=>
  intro s;show (match (match D with|none=>zj O wl ai dZ s|some C=>GM O wl ai dZ C s) with
  |some g=>Z (Ex.normal,{ g with env:=xY U g.env })|none=>K)=_
  rw[Kt];simp only[kG];cases D with
  |none=>rw[HZ];rfl|some p=>simp only[Oj];rfl
 |seq a b h l=>
  intro s;show (match Ol O wl ai rs a s with
  |some (Ex.normal,g)=>Ol O wl ai rs b g|r=>r)=_
  rw[h];simp only[kG];cases kG O wl ai rs a s with
  |none=>rfl|some y=>
   obtain⟨x,g⟩:=y;cases x with
   |normal=>exact l g|exit _=>rfl|ret _=>rfl
 |cond c n a m b h l=>
  intro s;show (match Jc s.env c with
  |some Y=>Ol O wl ai rs a { s with env:=xY n (B3 s.env c) }|some X=>Ol O wl ai rs b { s with env:=xY m (B3 s.env c) }|none=>K)=_
  rw[Uc,Kt,MW];simp only[kG];cases wD s.env c with
  |none=>rfl|some z=>cases z with
   |true=>exact h _|false=>exact l _
 |block id c o=>
  intro s;show (match Ol O wl ai rs c s with
  |some (Ex.exit I,g)=>if I=id then Z (Ex.normal,g) else Z (Ex.exit I,g)
  |r=>r)=_
  rw[o]
  rfl
 |loop c _=>exact λ_=>rfl|exit id=>exact λ_=>rfl|ret=>exact λ_=>rfl|frz t=>exact λ_=>rfl|Jv j k=>exact λ_=>rfl|rN t off=>exact λ_=>rfl
noncomputable def Ak (O:sN) (wl ai:Nat) (g:aQ) (args:List AV) (st:aO):Option (AV×aO):=
 match af5 (Q args) g.tP with
 |true=>match Ol O (g.mode.BC (Q st) wl) (g.mode.uk (Q st) ai) g.results g.body (vz g args st) with
  |some (x,s)=>match LR g.results x s with
   |some v=>g.mode.mJ st v s.st|none=>K
  |none=>K
 |false=>K
theorem D0(O wl ai g args st):Ak O wl ai g args st=eY O wl ai g args st:=by
 unfold Ak eY;rw[Wb];by_cases h:Q args=g.tP;rw[Fg h,af h]
 rfl
 rw[Ks h,U h]
noncomputable def CZ (O:sN) (wl ai:Nat) (g:aQ) (args:List AV) (st:aO):Option (AV×aO):=
 match (match g.mode with|.pure=>Oi args|_=>X) with
 |true=>(match Ak O 0 0 g args [] with|some r=>Z (r.1,st)|none=>K)
 |false=>Ak O wl ai g args st
theorem Om(O wl ai g args st):CZ O wl ai g args st=gu O wl ai g args st:=by
 unfold CZ gu;rw[D0,D0];have:(match g.mode with|.pure=>Oi args|_=>X)=A7 g args:=by
  unfold A7;rw[YG];cases g.mode<;>simp
 rw[this];cases A7 g args with
 |true=>simp only[bz];cases eY O 0 0 g args []<;>rfl|false=>simp
noncomputable def YI (S:Nat->Option aQ) (n:Nat):sN:=Nat.rec (motive:=λ_=>sN)
 ⟨λ_ _ _ _ _=>K,λ_ _ _ _ _=>K⟩
 (λ_ I=>⟨λwl ai f args st=>match S f with
   |some h=>CZ I wl ai h args st|none=>K,
   λwl ai rs c s=>match Ol I wl ai rs c s with
   |some (Ex.normal,g)=>I.loop wl ai rs c g|r=>r⟩) n
theorem ag8(S):∀n,YI S n=uP S n:=by
 intro n;induction n with
 |zero=>rfl|succ n I=>
  show (⟨λwl ai f args st=>match S f with
   |some h=>CZ (YI S n) wl ai h args st|none=>K,
   λwl ai rs c s=>match Ol (YI S n) wl ai rs c s with
   |some (Ex.normal,g)=>(YI S n).loop wl ai rs c g|r=>r⟩:sN)=uP S (n+1)
  rw[I];simp only[Om,Wb]
  rfl
theorem alU{S n wl ai f args st r}(h:(YI S n).call wl ai f args st=Z r):(bh S).call wl ai f args st=Z r:=by
 rw[ag8]at h;exact(vC S n).call _ _ _ _ _ _ h
def alV(x:Option (AV×aO)):Bool:=match x with|some (.bool b,[])=>b|_=>X
theorem ag9{x}(h:alV x=Y):x=Z (.bool Y,[]):=by
 unfold alV at h;split at h;subst h;rfl;cases h
end Ax
