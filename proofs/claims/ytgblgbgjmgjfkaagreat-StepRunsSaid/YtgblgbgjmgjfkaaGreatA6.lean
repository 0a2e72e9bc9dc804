/- The library of this proof, part 6: an abstract interpreter of the loaded code, and its soundness. -/
import Derived.Test.YtgblgbgjmgjfkaaGreatA5
import Derived.IntWalk

namespace Ax
open Go
inductive Todo where
 |ops (l:List SOper) (clr:List Nat)
 |code (c:SCode)
 |blk (id:Nat)
 |again (c:SCode)
def feed(O:Orc)(wl lim:Nat)(rs:List SRes):List Todo->Ex->St->Option (Ex×St)
 |[],x,s=>some (x,s)
 |.blk id::k,x,s=>match x with
  |.normal=>feed O wl lim rs k .normal s
  |.exit i=>if i=id then feed O wl lim rs k .normal s else feed O wl lim rs k (.exit i) s
  |.ret v=>feed O wl lim rs k (.ret v) s
 |.ops l clr::k,x,s=>match x with
  |.normal=>match evalOps O wl lim l s with|some s'=>feed O wl lim rs k .normal { s' with env:=clearE clr s'.env } | none=>none
  |x=>feed O wl lim rs k x s
 |.code c::k,x,s=>match x with
  |.normal=>match sem O wl lim rs c s with|some (x',s')=>feed O wl lim rs k x' s'|none=>none
  |x=>feed O wl lim rs k x s
 |.again c::k,x,s=>match x with
  |.normal=>match sem O wl lim rs (.loop c) s with|some (x',s')=>feed O wl lim rs k x' s'|none=>none
  |x=>feed O wl lim rs k x s
def W(S:Nat->Option SFunc)(wl lim:Nat)(rs:List SRes)(Q:Ex->St->Prop)(k:List Todo)(x:Ex)(s:St):Prop:=∃x' s',feed (orcL S) wl lim rs k x s=some (x',s')/\Q x' s'
variable {S:Nat->Option SFunc}{wl lim:Nat}{rs:List SRes}{Q:Ex->St->Prop}{k:List Todo}{s:St}
theorem W_nil{x:Ex}:W S wl lim rs Q [] x s↔Q x s:=by
 unfold W feed
 constructor
 ·rintro⟨x',s',h,hq⟩;cases h;exact hq
 ·intro h;exact⟨x,s,rfl,h⟩
theorem W_blk{id:Nat}:W S wl lim rs Q (.blk id::k) .normal s↔W S wl lim rs Q k .normal s:=Iff.rfl
theorem W_blkX{id i:Nat}:W S wl lim rs Q (.blk id::k) (.exit i) s↔if i=id then W S wl lim rs Q k .normal s else W S wl lim rs Q k (.exit i) s:=by
 unfold W
 simp only[feed]
 split<;>exact Iff.rfl
theorem W_blkR{id:Nat}{v:AV}:W S wl lim rs Q (.blk id::k) (.ret v) s↔W S wl lim rs Q k (.ret v) s:=Iff.rfl
theorem W_opsX{l:List SOper}{clr:List Nat}{i:Nat}:W S wl lim rs Q (.ops l clr::k) (.exit i) s↔W S wl lim rs Q k (.exit i) s:=Iff.rfl
theorem W_opsR{l:List SOper}{clr:List Nat}{v:AV}:W S wl lim rs Q (.ops l clr::k) (.ret v) s↔W S wl lim rs Q k (.ret v) s:=Iff.rfl
theorem W_codeX{c:SCode}{i:Nat}:W S wl lim rs Q (.code c::k) (.exit i) s↔W S wl lim rs Q k (.exit i) s:=Iff.rfl
theorem W_codeR{c:SCode}{v:AV}:W S wl lim rs Q (.code c::k) (.ret v) s↔W S wl lim rs Q k (.ret v) s:=Iff.rfl
theorem W_againX{c:SCode}{i:Nat}:W S wl lim rs Q (.again c::k) (.exit i) s↔W S wl lim rs Q k (.exit i) s:=Iff.rfl
theorem W_againR{c:SCode}{v:AV}:W S wl lim rs Q (.again c::k) (.ret v) s↔W S wl lim rs Q k (.ret v) s:=Iff.rfl
theorem W_again{c:SCode}:W S wl lim rs Q (.again c::k) .normal s↔W S wl lim rs Q (.code (.loop c)::k) .normal s:=Iff.rfl
theorem W_opsN{clr:List Nat}:W S wl lim rs Q (.ops [] clr::k) .normal s↔W S wl lim rs Q k .normal { s with env:=clearE clr s.env }:=Iff.rfl
theorem W_op{o:SOper}{l:List SOper}{clr:List Nat}:W S wl lim rs Q (.ops (o::l) clr::k) .normal s↔∃s',evalOp (orcL S) wl lim o s=some s'/\W S wl lim rs Q (.ops l clr::k) .normal s':=by
 unfold W
 simp only[feed,evalOps]
 cases evalOp (orcL S) wl lim o s with
 |none=>simp
 |some s'=>simp
theorem W_skip:W S wl lim rs Q (.code .skip::k) .normal s↔W S wl lim rs Q k .normal s:=Iff.rfl
theorem W_exit{id:Nat}:W S wl lim rs Q (.code (.exit id)::k) .normal s↔W S wl lim rs Q k (.exit id) s:=Iff.rfl
theorem W_ret:W S wl lim rs Q (.code .ret::k) .normal s↔∃v,resV s rs=some v/\W S wl lim rs Q k (.ret v) ⟨[],[],s.st⟩:=by
 unfold W
 simp only[feed,sem]
 cases resV s rs with
 |none=>simp
 |some v=>simp
theorem W_seq{a b:SCode}:W S wl lim rs Q (.code (.seq a b)::k) .normal s↔W S wl lim rs Q (.code a::.code b::k) .normal s:=by
 unfold W
 simp only[feed,sem]
 cases h:sem (orcL S) wl lim rs a s with
 |none=>simp
 |some y=>
  obtain⟨x,s'⟩:=y
  cases x<;>simp
theorem W_region{l:List SOper}{clr:List Nat}:W S wl lim rs Q (.code (.region l none clr)::k) .normal s↔W S wl lim rs Q (.ops l clr::k) .normal s:=by
 unfold W
 simp only[feed,sem]
 cases h:evalOps (orcL S) wl lim l s with
 |none=>simp
 |some s'=>simp
theorem evalRec_ops{O:Orc}:∀{l:List SOper}{s:St},(evalRec O wl lim l s).map (·.1)=evalOps O wl lim l s
 |[],s=>rfl
 |o::l,s=>by
  simp only[evalRec,evalOps]
  cases h:evalOp O wl lim o s with
  |none=>rfl
  |some s'=>
   simp only
   rw[<-evalRec_ops (l:=l) (s:=s')]
   cases evalRec O wl lim l s' with
   |none=>rfl
   |some y=>rfl
def noBoxes:List SOper->Bool
 |[]=>true
 |o::l=>(match o.op.newBox with|some _=>false|none=>true)&&noBoxes l
theorem noBoxes_ok{env:Env}:∀{l:List SOper},noBoxes l=true->l.all (boxOk env)=true
 |[],_=>rfl
 |o::l,h=>by
  simp only[noBoxes,Bool.and_eq_true]at h
  simp only[List.all_cons,noBoxes_ok h.2,Bool.and_true]
  unfold boxOk
  cases hb:o.op.newBox with
  |none=>rfl
  |some j=>rw[hb]at h;simp at h
theorem evalDraw_nil{O:Orc}{l:List SOper}(h:l.all (boxOk s.env)=true):evalDraw O wl lim l [] s=evalOps O wl lim l s:=by
 unfold evalDraw
 rw[<-evalRec_ops]
 cases evalRec O wl lim l s with
 |none=>rfl
 |some y=>
  obtain⟨e,sts⟩:=y
  simp only[List.all_nil,h,Bool.and_self,if_true,Option.map_some]
theorem W_draw0{l:List SOper}{clr:List Nat}(h:noBoxes l=true):W S wl lim rs Q (.code (.region l (some []) clr)::k) .normal s↔W S wl lim rs Q (.ops l clr::k) .normal s:=by
 unfold W
 simp only[feed,sem,evalDraw_nil (noBoxes_ok h)]
 cases h:evalOps (orcL S) wl lim l s with
 |none=>simp
 |some s'=>simp
theorem W_drawB{l:List SOper}{clr:List Nat}:W S wl lim rs Q (.code (.region l (some []) clr)::k) .normal s↔l.all (boxOk s.env)=true/\W S wl lim rs Q (.ops l clr::k) .normal s:=by
 by_cases h:l.all (boxOk s.env)=true
 ·unfold W
  simp only[feed,sem,evalDraw_nil h]
  cases h2:evalOps (orcL S) wl lim l s with
  |none=>simp
  |some s'=>simp[h]
 ·unfold W
  simp only[feed,sem,evalDraw]
  cases h2:evalRec (orcL S) wl lim l s with
  |none=>simp[h]
  |some y=>obtain⟨e,sts⟩:=y;simp[h]
theorem W_drawP{l:List SOper}{pairs:List (Nat×Nat)}{clr:List Nat}:W S wl lim rs Q (.code (.region l (some pairs) clr)::k) .normal s↔
  ∃e sts,evalRec (orcL S) wl lim l s=some (e,sts)/\(pairs.all (pairOk (orcL S) wl lim l sts)&&l.all (boxOk s.env))=true/\W S wl lim rs Q k .normal { e with env:=clearE clr e.env }:=by
 unfold W
 simp only[feed,sem,evalDraw]
 cases h:evalRec (orcL S) wl lim l s with
 |none=>simp
 |some y=>
  obtain⟨e,sts⟩:=y
  by_cases hc:(pairs.all (pairOk (orcL S) wl lim l sts)&&l.all (boxOk s.env))=true
  ·simp only[hc,if_true]
   constructor
   ·rintro⟨x',s',h1,h2⟩;exact⟨e,sts,rfl,hc,x',s',h1,h2⟩
   ·rintro⟨e',sts',h0,_,x',s',h1,h2⟩;cases h0;exact⟨x',s',h1,h2⟩
  ·simp only[hc]
   constructor
   ·rintro⟨x',s',h1,_⟩;cases h1
   ·rintro⟨e',sts',h0,hf,_⟩;cases h0;exact absurd hf hc
theorem W_cond{c:Src}{ca cb:List Nat}{a b:SCode}:W S wl lim rs Q (.code (.cond c ca a cb b)::k) .normal s↔
  ∃t,rdBool s.env c=some t/\W S wl lim rs Q (.code (if t then a else b)::k) .normal { s with env:=clearE (if t then ca else cb) (killE s.env c) }:=by
 unfold W
 simp only[feed,sem]
 cases rdBool s.env c with
 |none=>simp
 |some t=>cases t<;>simp
theorem W_block{id:Nat}{c:SCode}:W S wl lim rs Q (.code (.block id c)::k) .normal s↔W S wl lim rs Q (.code c::.blk id::k) .normal s:=by
 unfold W
 simp only[feed,sem]
 cases h:sem (orcL S) wl lim rs c s with
 |none=>simp
 |some y=>
  obtain⟨x,s'⟩:=y
  cases x with
  |normal=>simp
  |exit i=>by_cases hi:i=id<;>simp[hi]
  |ret v=>simp
theorem W_loop{c:SCode}:W S wl lim rs Q (.code (.loop c)::k) .normal s↔W S wl lim rs Q (.code c::.again c::k) .normal s:=by
 unfold W
 simp only[feed,sem]
 rw[orcL_loop]
 cases h:sem (orcL S) wl lim rs c s with
 |none=>simp
 |some y=>
  obtain⟨x,s'⟩:=y
  cases x<;>simp
theorem W_frzH{t off:Nat}:W S wl lim rs Q (.code (.frzH t off)::k) .normal s↔∃id ver i k' v v' st1 st2,getE s.env t=.val (.ptr id ver i k')/\readP s.st (.ptr id ver i (k'+off)) 1=some [v]/\freezeH wl v s.st=some (v',st1)/\
  writeP wl lim st1 (.ptr id ver i (k'+off)) [v']=some st2/\W S wl lim rs Q k .normal ⟨s.env,s.bx,st2⟩:=by
 constructor
 ·intro h
  unfold W at h
  simp only[feed]at h
  cases hc:sem (orcL S) wl lim rs (.frzH t off) s with
  |none=>rw[hc]at h;simp at h
  |some y=>
   obtain⟨x1,s1⟩:=y
   rw[hc]at h
   obtain⟨rfl,id,ver,i,k',v,v',st1,st2,g1,g2,g3,g4,rfl⟩:=sem_frzH hc
   exact⟨id,ver,i,k',v,v',st1,st2,g1,g2,g3,g4,h⟩
 ·rintro⟨id,ver,i,k',v,v',st1,st2,g1,g2,g3,g4,h⟩
  unfold W
  simp only[feed,sem,g1,g2,g3,g4]
  exact h
theorem W.imp{Q':Ex->St->Prop}{x:Ex}(h:W S wl lim rs Q k x s)(hq:∀x s,Q x s->Q' x s):W S wl lim rs Q' k x s:=by
 obtain⟨x',s',h1,h2⟩:=h
 exact⟨x',s',h1,hq _ _ h2⟩
theorem call0_of_W{sf:SFunc}{args:List AV}{st:Store}(hl:args.length=sf.nparams){r:AV×Store}
  (h:W S (sf.mode.wlOf st.length wl) (sf.mode.limOf st.length lim) sf.results (fun x s=>∃v,endV sf.results x s=some v/\sf.mode.fin st v s.st=some r) [.code sf.body] .normal (begS sf args st)) :
  callBody0 (orcL S) wl lim sf args st=some r:=by
 simp only[callBody0,hl,if_true]
 obtain⟨x',s',h1,v,h2,h3⟩:=h
 simp only[feed]at h1
 cases hs:sem (orcL S) (sf.mode.wlOf st.length wl) (sf.mode.limOf st.length lim) sf.results sf.body (begS sf args st) with
 |none=>rw[hs]at h1;cases h1
 |some y=>
  obtain⟨x,s⟩:=y
  rw[hs]at h1
  simp only at h1
  cases h1
  simp only[h2,h3]
theorem call_of_W{f:Nat}{sf:SFunc}(hf:S f=some sf){args:List AV}{st:Store}(ha:alone sf args=false)(hl:args.length=sf.nparams){r:AV×Store}
  (h:W S (sf.mode.wlOf st.length wl) (sf.mode.limOf st.length lim) sf.results (fun x s=>∃v,endV sf.results x s=some v/\sf.mode.fin st v s.st=some r) [.code sf.body] .normal (begS sf args st)) :
  (orcL S).call wl lim f args st=some r:=by
 rw[orcL_call,hf]
 simp only[callBody,ha,Bool.false_eq_true,if_false]
 exact call0_of_W hl h
theorem call_of_P{f:Nat}{sf:SFunc}(hf:S f=some sf)(hm:sf.mode=.pure){args:List AV}{st:Store}(hp:AV.allPure args=true)(hl:args.length=sf.nparams){v:AV}(hv:v.isPure=true)
  (h:W S 0 0 sf.results (fun x s=>endV sf.results x s=some v) [.code sf.body] .normal (begS sf args [])) :
  (orcL S).call wl lim f args st=some (v,st):=by
 rw[orcL_call,hf]
 have ha:alone sf args=true:=by simp[alone,hm,hp]
 simp only[callBody,ha,if_true]
 have:=call0_of_W (S:=S) (wl:=0) (lim:=0) (sf:=sf) (args:=args) (st:=[]) hl (r:=(v,[])) (by
  rw[hm]
  obtain⟨x',s',h1,h2⟩:=h
  exact⟨x',s',h1,v,h2,by simp[Mode.fin,hv]⟩)
 rw[this]
 rfl
def WO(S:Nat->Option SFunc)(wl lim:Nat)(rs:List SRes)(Q:Ex->St->Prop)(l:List SOper)(clr:List Nat)(k:List Todo):Option St->Prop
 |some s=>W S wl lim rs Q (.ops l clr::k) .normal s
 |none=>False
def WC(S:Nat->Option SFunc)(wl lim:Nat)(rs:List SRes)(Q:Ex->St->Prop)(ca cb:List Nat)(a b:SCode)(k:List Todo)(s:St):Option Bool->Prop
 |some true=>W S wl lim rs Q (.code a::k) .normal { s with env:=clearE ca s.env }
 |some false=>W S wl lim rs Q (.code b::k) .normal { s with env:=clearE cb s.env }
 |none=>False
def WV(S:Nat->Option SFunc)(wl lim:Nat)(rs:List SRes)(Q:Ex->St->Prop)(k:List Todo)(st:Store):Option AV->Prop
 |some v=>W S wl lim rs Q k (.ret v) ⟨[],[],st⟩
 |none=>False
theorem W_op'{o:SOper}{l:List SOper}{clr:List Nat}:W S wl lim rs Q (.ops (o::l) clr::k) .normal s↔WO S wl lim rs Q l clr k (evalOp (orcL S) wl lim o s):=by
 rw[W_op]
 cases evalOp (orcL S) wl lim o s with
 |none=>simp[WO]
 |some s'=>simp[WO]
theorem W_cond'{c:Src}{ca cb:List Nat}{a b:SCode}:W S wl lim rs Q (.code (.cond c ca a cb b)::k) .normal s↔WC S wl lim rs Q ca cb a b k { s with env:=killE s.env c } (rdBool s.env c):=by
 rw[W_cond]
 cases rdBool s.env c with
 |none=>simp[WC]
 |some t=>cases t<;>simp[WC]
theorem W_ret':W S wl lim rs Q (.code .ret::k) .normal s↔WV S wl lim rs Q k s.st (resV s rs):=by
 rw[W_ret]
 cases resV s rs with
 |none=>simp[WV]
 |some v=>simp[WV]
theorem WO_some{l:List SOper}{clr:List Nat}:WO S wl lim rs Q l clr k (some s)↔W S wl lim rs Q (.ops l clr::k) .normal s:=Iff.rfl
theorem WO_none{l:List SOper}{clr:List Nat}:WO S wl lim rs Q l clr k none↔False:=Iff.rfl
theorem WO_ite{l:List SOper}{clr:List Nat}{c:Prop} [Decidable c]:WO S wl lim rs Q l clr k (if c then some s else none)↔c/\W S wl lim rs Q (.ops l clr::k) .normal s:=by
 by_cases h:c<;>simp[h,WO]
theorem WC_true{ca cb:List Nat}{a b:SCode}:WC S wl lim rs Q ca cb a b k s (some true)↔W S wl lim rs Q (.code a::k) .normal { s with env:=clearE ca s.env }:=Iff.rfl
theorem WC_false{ca cb:List Nat}{a b:SCode}:WC S wl lim rs Q ca cb a b k s (some false)↔W S wl lim rs Q (.code b::k) .normal { s with env:=clearE cb s.env }:=Iff.rfl
theorem WV_some{st:Store}{v:AV}:WV S wl lim rs Q k st (some v)↔W S wl lim rs Q k (.ret v) ⟨[],[],st⟩:=Iff.rfl
end Ax
namespace Ax
open Go
attribute [simp ↓] W_nil W_blk W_blkX W_blkR W_opsX W_opsR W_codeX W_codeR W_againX W_againR W_opsN W_op' W_skip W_exit W_ret' W_seq W_region W_cond' W_block
attribute [simp] WO_some WO_none WO_ite WC_true WC_false WV_some
attribute [simp] evalOp wantedE act rdE killE putE SOp.newBox clearE Ent.view AV.view AV.viewL boundOf resV resAll resOne
 AV.isPure AV.allPure getE setE delE begS Mode.wlOf Mode.limOf Mode.fin endV argsE rdBool oneOrAgg cut valsOf actCall calleeOf noFp Ent.notFp
variable {S:Nat->Option SFunc}{wl lim:Nat}{rs:List SRes}{Q:Ex->St->Prop}{k:List Todo}{st:Store}{bx:Boxes}
def optE(st:Store)(bx:Boxes):Option AV->Option (Ent×Store×Boxes)
 |some v=>some (.val v,st,bx)
 |none=>none
@[simp]theorem optE_some{v:AV}:optE st bx (some v)=some (.val v,st,bx):=rfl
@[simp]theorem optE_none:optE st bx none=none:=rfl
@[simp]theorem optE_ite{c:Prop} [Decidable c]{v:AV}:optE st bx (if c then some v else none)=if c then some (.val v,st,bx) else none:=by by_cases h:c<;>simp[h]
theorem W_round{c b:SCode}{s:St}(h:c=b):W S wl lim rs Q (.code (.loop c)::k) .normal s↔W S wl lim rs Q (.code b::.again c::k) .normal s:=by
 rw[W_loop];subst h;exact Iff.rfl
@[simp]theorem rowsOf_nil:rowsOf st .nilSl=some []:=rfl
@[simp]theorem rowsOf_emp:rowsOf st .emp=some []:=rfl
@[simp]theorem rowsOf_lst{sz:Nat}{r:List (List AV)}:rowsOf st (.lst sz r)=some r:=rfl
@[simp]theorem rowsOf_own{sz:Nat}{r:List (List AV)}:rowsOf st (.own sz r)=some r:=rfl
@[simp]theorem rowsOf_mu{id ver:Nat}:rowsOf st (.mu id ver)=match st[id]? with|some (.rows v _ rows)=>if v=ver then some rows else none|_=>none:=rfl
@[simp]theorem bringsOf_nil:bringsOf st .nilSl=some []:=rfl
@[simp]theorem bringsOf_emp:bringsOf st .emp=some []:=rfl
@[simp]theorem bringsOf_lst{sz:Nat}{r:List (List AV)}:bringsOf st (.lst sz r)=some r:=rfl
@[simp]theorem bringsOf_own{sz:Nat}{r:List (List AV)}:bringsOf st (.own sz r)=some r:=rfl
@[simp]theorem bringsOf_str{l:List UInt8}:bringsOf st (.str l)=some (bytesRows l):=rfl
@[simp]theorem lenV_str{l:List UInt8}:lenV st .str (.str l)=some l.length:=rfl
@[simp]theorem lenV_sl{v:AV}:lenV st .sl v=(rowsOf st v).map List.length:=by
 cases v<;>simp only[lenV]<;>cases rowsOf st _<;>rfl
@[simp]theorem lenV_mp{id:Nat}:lenV st .mp (.map id)=match st[id]? with|some (.map es)=>some es.length|_=>none:=rfl
def idxV(sz:Nat)(st:Store)(x:AV)(i:Int):Option AV:=match x with
 |.lst s rows|.own s rows=>if s=sz/\0<=i/\i<rows.length then some (.pel sz rows i.toNat 0) else none
 |.mu id ver=>match st[id]? with
  |some (.rows v s rows)=>if v=ver/\s=sz/\0<=i/\i<rows.length then some (.ptr id ver i.toNat 0) else none
  |_=>none
 |_=>none
@[simp]theorem idxV_lst{sz s:Nat}{r:List (List AV)}{i:Int}:idxV sz st (.lst s r) i=if s=sz/\0<=i/\i<r.length then some (.pel sz r i.toNat 0) else none:=rfl
@[simp]theorem idxV_own{sz s:Nat}{r:List (List AV)}{i:Int}:idxV sz st (.own s r) i=if s=sz/\0<=i/\i<r.length then some (.pel sz r i.toNat 0) else none:=rfl
@[simp]theorem idxV_mu{sz id ver:Nat}{i:Int}:idxV sz st (.mu id ver) i=match st[id]? with|some (.rows v s rows)=>if v=ver/\s=sz/\0<=i/\i<rows.length then some (.ptr id ver i.toNat 0) else none|_=>none:=rfl
def appV(sz bytes:Nat)(s:AV)(new:List (List AV)):Option AV:=
 if fits sz new=true then match s with
  |.nilSl|.emp=>if new.isEmpty then some s else if new.length*bytes<=room then some (.own sz new) else none
  |.own sz' old=>if sz'=sz/\(old.length+new.length)*bytes<=room then some (.own sz (old++new)) else none
  |_=>none else none
@[simp]theorem a_move{e:Ent}:act0 wl lim .move [e] st bx=some (e,st,bx):=rfl
@[simp]theorem a_pick{b:Bool}{x y:Ent}:act0 wl lim .pick [.val (.bool b),x,y] st bx=some (if b then x else y,st,bx):=rfl
@[simp]theorem a_bin{op:BinOp}{x y:AV}:act0 wl lim (.bin op) [.val x,.val y] st bx=optE st bx (binV op x y):=by
 simp only[act0];cases binV op x y<;>rfl
@[simp]theorem a_eqv{kk:EqK}{neg:Bool}{x y:AV}:act0 wl lim (.eqv kk neg) [.val x,.val y] st bx=optE st bx ((eqK kk x y).map fun b=>.bool (if neg then !b else b)):=by
 simp only[act0];cases eqK kk x y<;>rfl
@[simp]theorem a_un{op:UnOp}{x:AV}:act0 wl lim (.un op) [.val x] st bx=optE st bx (unV op x):=by
 simp only[act0];cases unV op x<;>rfl
@[simp]theorem a_conv{kk l:IntKind}{n:Int}:act0 wl lim (.conv kk) [.val (.int l n)] st bx=some (.val (.int kk (kk.wrap n)),st,bx):=rfl
@[simp]theorem a_toStr{x:AV}:act0 wl lim .toStr [.val x] st bx=optE st bx (((rowsOf st x).bind bytesOf).map .str):=by
 simp only[act0];cases rowsOf st x with
 |none=>rfl
 |some r=>simp only[Option.bind_some];cases bytesOf r<;>rfl
@[simp]theorem a_len{lk:LK}{x:AV}:act0 wl lim (.len lk) [.val x] st bx=optE st bx ((lenV st lk x).map fun n=>.int .i64 n):=by
 simp only[act0];cases lenV st lk x<;>rfl
@[simp]theorem a_minmax{mx:Bool}{kk:IntKind}{a b:Int}:act0 wl lim (.minmax mx) [.val (.int kk a),.val (.int kk b)] st bx=some (.val (.int kk (if mx then (if b > a then b else a) else (if b<a then b else a))),st,bx):=by
 simp[act0]
@[simp]theorem a_nilF{j i:Nat}:act0 wl lim .nilCheck [.fp j i] st bx=some (.fp j i,st,bx):=rfl
@[simp]theorem a_nilP{a b c d:Nat}:act0 wl lim .nilCheck [.val (.ptr a b c d)] st bx=some (.val (.ptr a b c d),st,bx):=rfl
@[simp]theorem a_nilE{a:Nat}{r:List (List AV)}{c d:Nat}:act0 wl lim .nilCheck [.val (.pel a r c d)] st bx=some (.val (.pel a r c d),st,bx):=rfl
@[simp]theorem a_extract{i:Nat}{vs:List AV}:act0 wl lim (.extract i) [.val (.tup vs)] st bx=optE st bx vs[i]?:=by
 simp only[act0];cases vs[i]?<;>rfl
@[simp]theorem a_field{off n:Nat}{agg:Bool}{cs:List AV}:act0 wl lim (.field off n agg) [.val (.agg cs)] st bx=optE st bx ((cut cs off n).bind (oneOrAgg agg)):=by
 simp only[act0];cases cut cs off n with
 |none=>rfl
 |some r=>simp only[Option.bind_some];cases oneOrAgg agg r<;>rfl
@[simp]theorem a_build{zero:List AV}{parts:List (Nat×Nat)}{l:List Ent}:act0 wl lim (.build zero parts) l st bx=optE st bx (((valsOf l).bind (fillCells zero parts)).map .agg):=by
 simp only[act0];cases valsOf l with
 |none=>rfl
 |some vs=>simp only[Option.bind_some];cases fillCells zero parts vs<;>rfl
@[simp]theorem a_lit{sz n:Nat}{zero:List AV}{parts:List Nat}{l:List Ent}:act0 wl lim (.lit sz n zero parts) l st bx =
  optE st bx (((valsOf l).bind fun vs=>fillRows sz (List.replicate n zero) parts (AV.viewL vs)).bind fun rows=>if rows.all AV.allPure&&rows.all AV.allCells then some (if n=0 then .emp else .lst sz rows) else none):=by
 simp only[act0];cases valsOf l with
 |none=>rfl
 |some vs=>
  simp only[Option.bind_some]
  cases fillRows sz (List.replicate n zero) parts (AV.viewL vs) with
  |none=>rfl
  |some rows=>simp only[Option.bind_some];split<;>rfl
@[simp]theorem a_fieldAddrF{off j i:Nat}:act0 wl lim (.fieldAddr off) [.fp j i] st bx=some (.fp j (i+off),st,bx):=rfl
@[simp]theorem a_fieldAddrP{off a b c d:Nat}:act0 wl lim (.fieldAddr off) [.val (.ptr a b c d)] st bx=some (.val (.ptr a b c (d+off)),st,bx):=rfl
@[simp]theorem a_fieldAddrE{off a c d:Nat}{r:List (List AV)}:act0 wl lim (.fieldAddr off) [.val (.pel a r c d)] st bx=some (.val (.pel a r c (d+off)),st,bx):=rfl
@[simp]theorem a_indexAddr{sz:Nat}{x:AV}{i:Int}:act0 wl lim (.indexAddr sz) [.val x,.val (.int .i64 i)] st bx=optE st bx (idxV sz st x i):=by
 cases x<;>try rfl
 case lst s r=>simp only[act0,idxV,Bool.and_eq_true,decide_eq_true_eq,and_assoc];split<;>rfl
 case own s r=>simp only[act0,idxV,Bool.and_eq_true,decide_eq_true_eq,and_assoc];split<;>rfl
 case mu id ver=>
  simp only[act0,idxV,Bool.and_eq_true,decide_eq_true_eq,and_assoc]
  cases st[id]? with
  |none=>rfl
  |some ob=>cases ob with
   |rows v s r=>simp only;split<;>rfl
   |map es=>rfl
@[simp]theorem a_index{l:List UInt8}{i:Int}:act0 wl lim .index [.val (.str l),.val (.int .i64 i)] st bx=if 0<=i then optE st bx (l[i.toNat]?.map fun b=>.int .u8 b.toNat) else none:=by
 simp only[act0];cases l[i.toNat]?<;>rfl
@[simp]theorem a_load{agg:Bool}{n:Nat}{p:AV}:act0 wl lim (.load agg n false) [.val p] st bx=optE st bx ((readP st p n).bind fun cs=>oneOrAgg agg (AV.viewL cs)):=by
 simp only[act0];cases readP st p n with
 |none=>rfl
 |some cs=>simp only[Option.bind_some,Bool.false_eq_true,if_false];cases oneOrAgg agg (AV.viewL cs)<;>rfl
@[simp]theorem a_alloc{zero:List AV}:act0 wl lim (.alloc zero) [] st bx=some (.val (.ptr st.length 0 0 0),st++[.rows 0 zero.length [zero]],bx):=rfl
@[simp]theorem a_append{sz bytes:Nat}{s x:AV}:act0 wl lim (.append sz bytes) [.val s,.val x] st bx=optE st bx ((bringsOf [] x).bind (appV sz bytes s)):=by
 simp only[act0];cases bringsOf [] x with
 |none=>rfl
 |some new=>
  simp only[Option.bind_some,appV]
  by_cases hf:fits sz new=true
  ·simp only[hf,if_true]
   cases s<;>simp only[Bool.and_eq_true,decide_eq_true_eq]<;>(try rfl)<;>repeat' split
   all_goals rfl
  ·simp only[hf];rfl
@[simp]theorem a_makeSl{sz bytes:Nat}{zero:List AV}{n c:Int}:act0 wl lim (.makeSl sz bytes zero false) [.val (.int .i64 n),.val (.int .i64 c)] st bx =
  if 0<=n/\n<=c/\c*bytes<=room/\zero.length=sz then (if AV.allPure zero then some (.val (.own sz (List.replicate n.toNat zero)),st,bx) else none) else none:=rfl
@[simp]theorem a_makeRaw{sz bytes:Nat}{zero:List AV}{n c:Int}:act0 wl lim (.makeRaw sz bytes zero) [.val (.int .i64 n),.val (.int .i64 c)] st bx =
  if 0<=n/\n<=c/\c*bytes<=room/\zero.length=sz/\AV.allPure zero=true then some (.val (.raw sz (List.replicate n.toNat zero)),st,bx) else none:=rfl
@[simp]theorem a_makeSlM{sz bytes:Nat}{zero:List AV}{n c:Int}:act0 wl lim (.makeSl sz bytes zero true) [.val (.int .i64 n),.val (.int .i64 c)] st bx =
  if 0<=n/\n<=c/\c*bytes<=room/\zero.length=sz then some (.val (.mu st.length 0),st++[.rows 0 sz (List.replicate n.toNat zero)],bx) else none:=rfl
@[simp]theorem a_store{n:Nat}{p v:AV}:act0 wl lim (.store n) [.val p,.val v] st bx=if v.cells.length=n/\AV.allCells v.cells=true then (writeP wl lim st p v.cells).map fun s=>(.none,s,bx) else none:=by
 simp only[act0,Bool.and_eq_true,decide_eq_true_eq]
 split
 ·cases writeP wl lim st p v.cells<;>rfl
 ·rfl
@[simp]theorem writeP_ptr{id ver i j:Nat}{cells:List AV}:writeP wl lim st (.ptr id ver i j) cells=match st[id]? with
  |some (.rows v sz rows)=>if v=ver/\mayWrite wl lim id cells=true then rows[i]?.bind fun r=>if j+cells.length<=r.length then some (st.set id (.rows v sz (rows.set i (paste r j cells)))) else none else none
  |_=>none:=by
 simp only[writeP]
 cases st[id]? with
 |none=>rfl
 |some ob=>cases ob with
  |map es=>rfl
  |rows v sz rows=>
   simp only[Bool.and_eq_true,decide_eq_true_eq]
   split
   ·cases rows[i]?<;>rfl
   ·rfl
attribute [simp] mayWrite
@[simp]theorem a_sliceM{sz id ver:Nat}{hi:Int}:act0 wl lim (.sliceM sz) [.val (.mu id ver),.val (.int .i64 hi)] st bx=match st[id]? with
  |some (.rows v s rows)=>if v=ver/\s=sz/\0<=hi/\hi<=rows.length/\wl<=id then some (.val (.mu id (v+1)),st.set id (.rows (v+1) s (rows.take hi.toNat)),bx) else none
  |_=>none:=by
 simp only[act0,Bool.and_eq_true,decide_eq_true_eq,and_assoc]
 cases st[id]? with
 |none=>rfl
 |some ob=>cases ob<;>rfl
@[simp]theorem a_appendM{sz bytes id ver:Nat}{x:AV}:act0 wl lim (.appendM sz bytes) [.val (.mu id ver),.val x] st bx=(bringsOf st x).bind fun new=>if fits sz new=true then match st[id]? with
  |some (.rows v sz' old)=>if v=ver/\sz'=sz/\(old.length+new.length)*bytes<=room/\wl<=id/\(lim<=id\/new.all AV.allPure=true) then some (.val (.mu id (v+1)),st.set id (.rows (v+1) sz (old++new)),bx) else none
  |_=>none else none:=by
 simp only[act0,appM,Bool.and_eq_true,decide_eq_true_eq,Bool.or_eq_true,and_assoc]
 cases bringsOf st x with
 |none=>rfl
 |some new=>rfl
@[simp]theorem a_capN:act0 wl lim .capN [.val .nilSl] st bx=some (.val (.int .i64 0),st,bx):=rfl
@[simp]theorem a_appendZ{sz bytes:Nat}{s:AV}{zero:List AV}{n:Int}:act0 wl lim (.appendZ sz bytes zero) [.val s,.val (.int .i64 n)] st bx =
  if 0<=n/\n*bytes<=room/\zero.length=sz/\AV.allPure zero=true then appM wl lim sz bytes s (List.replicate n.toNat zero) st bx else none:=rfl
@[simp]theorem a_appendM0{sz bytes:Nat}{x:AV}:act0 wl lim (.appendM sz bytes) [.val .nilSl,.val x] st bx=(bringsOf st x).bind fun new=>if fits sz new=true then (if new.isEmpty=true then some (.val .nilSl,st,bx) else if new.length*bytes<=room then some (.val (.mu st.length 0),st++[.rows 0 sz new],bx) else none) else none:=by
 simp only[act0]
 cases bringsOf st x with
 |none=>rfl
 |some new=>rfl
@[simp]theorem a_appendME{sz bytes:Nat}{x:AV}:act0 wl lim (.appendM sz bytes) [.val .emp,.val x] st bx=(bringsOf st x).bind fun new=>if fits sz new=true then (if new.length*bytes<=room then some (.val (.mu st.length 0),st++[.rows 0 sz new],bx) else none) else none:=by
 simp only[act0]
 cases bringsOf st x with
 |none=>rfl
 |some new=>rfl
@[simp]theorem a_loadF{j i n:Nat}{agg:Bool}:act0 wl lim (.loadF j agg n false) [.fp j i] st bx=optE st bx ((bx[j]?.bind fun row=>cut row i n).bind fun cs=>oneOrAgg agg (AV.viewL cs)):=by
 simp only[act0,if_true]
 cases bx[j]? with
 |none=>rfl
 |some row=>
  simp only[Option.bind_some]
  cases cut row i n with
  |none=>rfl
  |some cs=>simp only[Option.bind_some,Bool.false_eq_true,if_false];cases oneOrAgg agg (AV.viewL cs)<;>rfl
@[simp]theorem a_loadFT{j i n:Nat}{agg:Bool}:act0 wl lim (.loadF j agg n true) [.fp j i] st bx=(bx[j]?.bind fun row=>(cut row i n).bind fun cs=>(oneOrAgg agg cs).map fun v=>(.val v,st,bx.set j (paste row i (cs.map AV.took)))):=by
 simp only[act0,if_true]
 cases bx[j]? with
 |none=>rfl
 |some row=>
  simp only[Option.bind_some]
  cases cut row i n with
  |none=>rfl
  |some cs=>simp only[Option.bind_some];cases oneOrAgg agg cs<;>rfl
@[simp]theorem a_storeF{j i n:Nat}{v:AV}:act0 wl lim (.storeF j n) [.fp j i,.val v] st bx=if v.cells.length=n/\AV.allCells v.cells=true then bx[j]?.bind fun row=>(if i+n<=row.length then some (.none,st,bx.set j (paste row i v.cells)) else none) else none:=by
 simp only[act0,Bool.and_eq_true,decide_eq_true_eq,true_and]
 split
 ·cases bx[j]?<;>rfl
 ·rfl
@[simp]theorem a_allocF{j:Nat}{zero:List AV}:act0 wl lim (.allocF j zero) [] st bx=if j<bx.length then some (.fp j 0,st,bx.set j zero) else none:=rfl
@[simp]theorem a_box{n:Nat}{v:AV}:act0 wl lim (.box n) [.val v] st bx=if v.cells.length=n/\AV.allCells v.cells=true then some (.val (.ptr st.length 0 0 0),st++[.rows 0 n [v.cells]],bx) else none:=by
 simp only[act0,Bool.and_eq_true,decide_eq_true_eq]
@[simp]theorem a_boxF{j n:Nat}{v:AV}:act0 wl lim (.boxF j n) [.val v] st bx=if j<bx.length/\v.cells.length=n/\AV.allCells v.cells=true then some (.fp j 0,st,bx.set j v.cells) else none:=by
 simp only[act0,Bool.and_eq_true,decide_eq_true_eq,and_assoc]
@[simp]theorem a_makeFunc{f n:Nat}{l:List Ent}:act0 wl lim (.makeFunc f n) l st bx=optE st bx ((valsOf l).map fun vs=>.fn f (AV.viewL (vs.take n)) (AV.viewL (vs.drop n))):=by
 simp only[act0];cases valsOf l<;>rfl
@[simp]theorem a_sliceHi{isS:Bool}{sz:Nat}{x:AV}{b:Int}:act0 wl lim (.slice isS false true false sz) [.val x,.val (.int .i64 b)] st bx=(lenV st (if isS then .str else .sl) x).bind fun _=>optE st bx (sliceV isS sz x 0 b none):=by
 simp only[act0]
 cases lenV st (if isS then LK.str else LK.sl) x with
 |none=>rfl
 |some n=>simp only[boundOf,Bool.false_eq_true,if_false,if_true,Option.bind_some];cases sliceV isS sz x 0 b none<;>rfl
@[simp]theorem a_sliceLo{isS:Bool}{sz:Nat}{x:AV}{a:Int}:act0 wl lim (.slice isS true false false sz) [.val x,.val (.int .i64 a)] st bx=(lenV st (if isS then .str else .sl) x).bind fun n=>optE st bx (sliceV isS sz x a n none):=by
 simp only[act0]
 cases lenV st (if isS then LK.str else LK.sl) x with
 |none=>rfl
 |some n=>simp only[boundOf,Bool.false_eq_true,if_false,if_true,Option.bind_some];cases sliceV isS sz x a n none<;>rfl
@[simp]theorem a_sliceLH{isS:Bool}{sz:Nat}{x:AV}{a b:Int}:act0 wl lim (.slice isS true true false sz) [.val x,.val (.int .i64 a),.val (.int .i64 b)] st bx=(lenV st (if isS then .str else .sl) x).bind fun _=>optE st bx (sliceV isS sz x a b none):=by
 simp only[act0]
 cases lenV st (if isS then LK.str else LK.sl) x with
 |none=>rfl
 |some n=>simp only[boundOf,if_true,Option.bind_some];cases sliceV isS sz x a b none<;>rfl
@[simp]theorem sliceV_str{sz:Nat}{s:List UInt8}{a b:Int}:sliceV true sz (.str s) a b none=if 0<=a/\a<=b/\b<=s.length then some (.str ((s.take b.toNat).drop a.toNat)) else none:=by
 simp[sliceV,and_assoc]
attribute [simp] AV.took
@[simp]theorem binV_int{op:BinOp}{kk:IntKind}{a b:Int}:binV op (.int kk a) (.int kk b)=intBin op kk a b:=by simp[binV]
@[simp]theorem sb_add{a b:List UInt8}:binV .add (.str a) (.str b)=if a.length+b.length<=4611686018427387904 then some (.str (a++b)) else none:=rfl
@[simp]theorem sb_eql{a b:List UInt8}:binV .eql (.str a) (.str b)=some (.bool (decide (a=b))):=by simp only[binV];by_cases h:a=b<;>simp[h]
@[simp]theorem sb_neq{a b:List UInt8}:binV .neq (.str a) (.str b)=some (.bool (!decide (a=b))):=by simp only[binV];by_cases h:a=b<;>simp[h]
@[simp]theorem unV_not{b:Bool}:unV .not (.bool b)=some (.bool (!b)):=rfl
@[simp]theorem unV_neg{kk:IntKind}{a:Int}:unV .neg (.int kk a)=some (.int kk (kk.wrap (0-a))):=rfl
@[simp]theorem eqK_bool{a b:Bool}:eqK (.sc .bool) (.bool a) (.bool b)=some (decide (a=b)):=by cases a<;>cases b<;>rfl
@[simp]theorem eqK_int{kk:IntKind}{a b:Int}:eqK (.sc .int) (.int kk a) (.int kk b)=some (decide (a=b)):=by simp[eqK,eqS];by_cases h:a=b<;>simp[h]
@[simp]theorem eqK_str{a b:List UInt8}:eqK (.sc .str) (.str a) (.str b)=some (decide (a=b)):=by simp[eqK,eqS];by_cases h:a=b<;>simp[h]
@[simp]theorem eqK_flat{ks:List SK}{a b:List AV}:eqK (.flat ks) (.agg a) (.agg b)=eqF ks a b:=rfl
attribute [simp] eqF
@[simp]theorem eqS_bool{a b:Bool}:eqS .bool (.bool a) (.bool b)=some (decide (a=b)):=by cases a<;>cases b<;>rfl
@[simp]theorem eqS_int{kk:IntKind}{a b:Int}:eqS .int (.int kk a) (.int kk b)=some (decide (a=b)):=by simp[eqS];by_cases h:a=b<;>simp[h]
@[simp]theorem eqS_str{a b:List UInt8}:eqS .str (.str a) (.str b)=some (decide (a=b)):=by simp[eqS];by_cases h:a=b<;>simp[h]
section
variable {kk:IntKind}{a b:Int}
@[simp]theorem ib_add:intBin .add kk a b=some (.int kk (kk.wrap (a+b))):=rfl
@[simp]theorem ib_sub:intBin .sub kk a b=some (.int kk (kk.wrap (a-b))):=rfl
@[simp]theorem ib_mul:intBin .mul kk a b=some (.int kk (kk.wrap (a*b))):=rfl
@[simp]theorem ib_quo:intBin .quo kk a b=if b=0 then none else some (.int kk (kk.wrap (a.tdiv b))):=rfl
@[simp]theorem ib_rem:intBin .rem kk a b=if b=0 then none else some (.int kk (a.tmod b)):=rfl
@[simp]theorem ib_and:intBin .and kk a b=some (.int kk (kk.wrap ((BitVec.ofInt kk.bits a &&& BitVec.ofInt kk.bits b).toNat))):=rfl
@[simp]theorem ib_eql:intBin .eql kk a b=some (.bool (decide (a=b))):=by simp only[intBin];by_cases h:a=b<;>simp[h]
@[simp]theorem ib_neq:intBin .neq kk a b=some (.bool (!decide (a=b))):=by simp only[intBin];by_cases h:a=b<;>simp[h]
@[simp]theorem ib_lss:intBin .lss kk a b=some (.bool (decide (a<b))):=rfl
@[simp]theorem ib_leq:intBin .leq kk a b=some (.bool (decide (a<=b))):=rfl
@[simp]theorem ib_gtr:intBin .gtr kk a b=some (.bool (decide (b<a))):=rfl
@[simp]theorem ib_geq:intBin .geq kk a b=some (.bool (decide (b<=a))):=rfl
end
@[simp]theorem readP_pel{sz:Nat}{rows:List (List AV)}{i kk n:Nat}:readP st (.pel sz rows i kk) n=rows[i]?.bind fun r=>cut r kk n:=by
 simp only[readP];cases rows[i]?<;>rfl
@[simp]theorem readP_ptr{id ver i kk n:Nat}:readP st (.ptr id ver i kk) n=match st[id]? with
  |some (.rows v _ rows)=>if v=ver then rows[i]?.bind fun r=>cut r kk n else none
  |_=>none:=by
 simp only[readP];cases st[id]? with
 |none=>rfl
 |some ob=>cases ob with
  |rows v s r=>
   simp only;split
   ·cases r[i]?<;>rfl
   ·rfl
  |map es=>rfl
@[simp]theorem cells_bool(b:Bool):AV.cells (.bool b)=[.bool b]:=rfl
@[simp]theorem isCell_bool(b:Bool):AV.isCell (.bool b)=true:=rfl
@[simp]theorem cells_int(kk:IntKind)(n:Int):AV.cells (.int kk n)=[.int kk n]:=rfl
@[simp]theorem isCell_int(kk:IntKind)(n:Int):AV.isCell (.int kk n)=true:=rfl
@[simp]theorem cells_str(l:List UInt8):AV.cells (.str l)=[.str l]:=rfl
@[simp]theorem isCell_str(l:List UInt8):AV.isCell (.str l)=true:=rfl
@[simp]theorem cells_nilPtr:AV.cells (.nilPtr)=[.nilPtr]:=rfl
@[simp]theorem isCell_nilPtr:AV.isCell (.nilPtr)=true:=rfl
@[simp]theorem cells_nilSl:AV.cells (.nilSl)=[.nilSl]:=rfl
@[simp]theorem isCell_nilSl:AV.isCell (.nilSl)=true:=rfl
@[simp]theorem cells_nilMap:AV.cells (.nilMap)=[.nilMap]:=rfl
@[simp]theorem isCell_nilMap:AV.isCell (.nilMap)=true:=rfl
@[simp]theorem cells_nilFn:AV.cells (.nilFn)=[.nilFn]:=rfl
@[simp]theorem isCell_nilFn:AV.isCell (.nilFn)=true:=rfl
@[simp]theorem cells_nilIf:AV.cells (.nilIf)=[.nilIf]:=rfl
@[simp]theorem isCell_nilIf:AV.isCell (.nilIf)=true:=rfl
@[simp]theorem cells_lst(s:Nat)(r:List (List AV)):AV.cells (.lst s r)=[.lst s r]:=rfl
@[simp]theorem isCell_lst(s:Nat)(r:List (List AV)):AV.isCell (.lst s r)=true:=rfl
@[simp]theorem cells_own(s:Nat)(r:List (List AV)):AV.cells (.own s r)=[.own s r]:=rfl
@[simp]theorem isCell_own(s:Nat)(r:List (List AV)):AV.isCell (.own s r)=true:=rfl
@[simp]theorem cells_emp:AV.cells (.emp)=[.emp]:=rfl
@[simp]theorem isCell_emp:AV.isCell (.emp)=true:=rfl
@[simp]theorem cells_mu(a b:Nat):AV.cells (.mu a b)=[.mu a b]:=rfl
@[simp]theorem isCell_mu(a b:Nat):AV.isCell (.mu a b)=true:=rfl
@[simp]theorem cells_ptr(a b c d:Nat):AV.cells (.ptr a b c d)=[.ptr a b c d]:=rfl
@[simp]theorem isCell_ptr(a b c d:Nat):AV.isCell (.ptr a b c d)=true:=rfl
@[simp]theorem cells_pel(a:Nat)(r:List (List AV))(c d:Nat):AV.cells (.pel a r c d)=[.pel a r c d]:=rfl
@[simp]theorem isCell_pel(a:Nat)(r:List (List AV))(c d:Nat):AV.isCell (.pel a r c d)=true:=rfl
@[simp]theorem cells_map(a:Nat):AV.cells (.map a)=[.map a]:=rfl
@[simp]theorem isCell_map(a:Nat):AV.isCell (.map a)=true:=rfl
@[simp]theorem cells_fn(f:Nat)(a b:List AV):AV.cells (.fn f a b)=[.fn f a b]:=rfl
@[simp]theorem isCell_fn(f:Nat)(a b:List AV):AV.isCell (.fn f a b)=true:=rfl
@[simp]theorem cells_gone:AV.cells (.gone)=[.gone]:=rfl
@[simp]theorem isCell_gone:AV.isCell (.gone)=true:=rfl
@[simp]theorem cells_agg(cs:List AV):AV.cells (.agg cs)=cs:=rfl
@[simp]theorem allCells_nil:AV.allCells []=true:=rfl
@[simp]theorem allCells_cons(a:AV)(l:List AV):AV.allCells (a::l)=(a.isCell&&AV.allCells l):=rfl
attribute [simp] fillRows fillCells paste
theorem wrap64{n:Int}(h1 : -9223372036854775808<=n)(h2:n<=9223372036854775807):IntKind.i64.wrap n=n:=IntWalk.i64_in n ⟨h1,h2⟩
end Ax
namespace Ax
open Go
variable {S:Nat->Option SFunc}{wl lim:Nat}{rs:List SRes}{Q:Ex->St->Prop}{k:List Todo}{st:Store}{bx:Boxes}
def RetQ(rs:List SRes)(m:Mode)(st:Store)(r:AV×Store)(x:Ex)(s:St):Prop:=∃v,endV rs x s=some v/\m.fin st v s.st=some r
theorem call_run{f:Nat}{sf:SFunc}(hf:S f=some sf){args:List AV}(ha:alone sf args=false)(hl:args.length=sf.nparams){r:AV×Store}
  (h:W S (sf.mode.wlOf st.length wl) (sf.mode.limOf st.length lim) sf.results (RetQ sf.results sf.mode st r) [.code sf.body] .normal (begS sf args st)) :
  (orcL S).call wl lim f args st=some r:=call_of_W hf ha hl h
@[simp]theorem RetQ_ret{m:Mode}{r:AV×Store}{v:AV}{s:St}:RetQ rs m st r (.ret v) s↔m.fin st v s.st=some r:=by
 simp[RetQ,endV]
@[simp]theorem RetQ_end{m:Mode}{r:AV×Store}{s:St}:RetQ rs m st r .normal s↔∃v,resV s rs=some v/\m.fin st v s.st=some r:=Iff.rfl
def PureQ(rs:List SRes)(v:AV)(x:Ex)(s:St):Prop:=endV rs x s=some v
@[simp]theorem PureQ_ret{v u:AV}{s:St}:PureQ rs v (.ret u) s↔u=v:=by simp[PureQ,endV]
@[simp]theorem PureQ_end{v:AV}{s:St}:PureQ rs v .normal s↔resV s rs=some v:=Iff.rfl
theorem call_pure{f:Nat}{sf:SFunc}(hf:S f=some sf)(hm:sf.mode=.pure){args:List AV}(hp:AV.allPure args=true)(hl:args.length=sf.nparams){v:AV}(hv:v.isPure=true)
  (h:W S 0 0 sf.results (PureQ sf.results v) [.code sf.body] .normal (begS sf args [])) :
  (orcL S).call wl lim f args st=some (v,st):=call_of_P hf hm hp hl hv h
theorem W_ind{α:Type}{c b:SCode}(h:c=b)(f:α->St)(I:α->Prop)(μ:α->Nat)
  (round:∀a,I a->(∀a',I a'->μ a'<μ a->W S wl lim rs Q (.code (.loop c)::k) .normal (f a'))->W S wl lim rs Q (.code b::.again c::k) .normal (f a)) :
  ∀a,I a->W S wl lim rs Q (.code (.loop c)::k) .normal (f a):=by
 have key:∀n a,μ a=n->I a->W S wl lim rs Q (.code (.loop c)::k) .normal (f a):=by
  intro n
  induction n using Nat.strongRecOn with
  |_ n ih=>
   intro a hn ha
   rw[W_round h]
   exact round a ha fun a' h' hlt=>ih (μ a') (by omega) a' rfl h'
 exact fun a ha=>key _ a rfl ha
def rowsL:AV->List (List AV)
 |.lst _ r|.own _ r=>r
 |_=>[]
def isSl:AV->Bool
 |.nilSl|.emp|.lst _ _|.own _ _=>true
 |_=>false
def isSz(sz:Nat):AV->Bool
 |.nilSl|.emp=>true
 |.lst s r|.own s r=>s==sz&&fits sz r
 |_=>false
@[simp]theorem rowsL_view(v:AV):rowsL v.view=rowsL v:=by cases v<;>simp[rowsL,AV.view]
@[simp]theorem isSl_view(v:AV):isSl v.view=isSl v:=by cases v<;>simp[isSl,AV.view]
@[simp]theorem isSz_view(sz:Nat)(v:AV):isSz sz v.view=isSz sz v:=by cases v<;>simp[isSz,AV.view]
@[simp]theorem rowsL_nil:rowsL .nilSl=[]:=rfl
@[simp]theorem rowsL_emp:rowsL .emp=[]:=rfl
@[simp]theorem rowsL_lst{sz:Nat}{r:List (List AV)}:rowsL (.lst sz r)=r:=rfl
@[simp]theorem rowsL_own{sz:Nat}{r:List (List AV)}:rowsL (.own sz r)=r:=rfl
@[simp]theorem isSl_nil:isSl .nilSl=true:=rfl
@[simp]theorem isSl_emp:isSl .emp=true:=rfl
@[simp]theorem isSl_lst{sz:Nat}{r:List (List AV)}:isSl (.lst sz r)=true:=rfl
@[simp]theorem isSl_own{sz:Nat}{r:List (List AV)}:isSl (.own sz r)=true:=rfl
@[simp]theorem isSz_nil{sz:Nat}:isSz sz .nilSl=true:=rfl
@[simp]theorem isSz_emp{sz:Nat}:isSz sz .emp=true:=rfl
@[simp]theorem isSz_lst{sz s:Nat}{r:List (List AV)}:isSz sz (.lst s r)=(s==sz&&fits sz r):=rfl
@[simp]theorem isSz_own{sz s:Nat}{r:List (List AV)}:isSz sz (.own s r)=(s==sz&&fits sz r):=rfl
theorem isSl_sz{sz:Nat}{v:AV}(h:isSz sz v=true):isSl v=true:=by cases v<;>simp_all [isSz,isSl]
@[simp]theorem rowsOf_sl{v:AV}(h:isSl v=true):rowsOf st v=some (rowsL v):=by cases v<;>simp_all [isSl,rowsL]
@[simp]theorem bringsOf_sl{v:AV}(h:isSl v=true):bringsOf st v=some (rowsL v):=by cases v<;>simp_all [isSl,rowsL]
@[simp]theorem idxV_sl{sz:Nat}{v:AV}{i:Int}(h:isSz sz v=true):idxV sz st v i=if 0<=i/\i<(rowsL v).length then some (.pel sz (rowsL v) i.toNat 0) else none:=by
 by_cases hi:0<=i/\i<(rowsL v).length
 ·rw[if_pos hi]
  cases v<;>simp[isSz]at h
  case nilSl=>have:=hi.2;simp[rowsL]at this;omega
  case emp=>have:=hi.2;simp[rowsL]at this;omega
  case lst s r=>simp only[idxV,rowsL];rw[if_pos ⟨h.1,hi⟩]
  case own s r=>simp only[idxV,rowsL];rw[if_pos ⟨h.1,hi⟩]
 ·rw[if_neg hi]
  cases v<;>simp[isSz]at h
  case nilSl=>rfl
  case emp=>rfl
  case lst s r=>simp only[idxV];rw[if_neg fun c=>hi c.2]
  case own s r=>simp only[idxV];rw[if_neg fun c=>hi c.2]
mutual
theorem view_view0:∀v:AV,v.view.view=v.view
 |.own _ _=>rfl
 |.raw _ _=>rfl
 |.agg cs=>by simp only[AV.view];rw[viewL_viewL cs]
 |.tup cs=>by simp only[AV.view];rw[viewL_viewL cs]
 |.undef|.gone|.bool _|.int _ _|.str _|.nilPtr|.nilSl|.nilMap|.nilFn|.nilIf|.lst _ _|.emp|.mu _ _|.ptr _ _ _ _|.pel _ _ _ _|.map _|.fn _ _ _=>rfl
theorem viewL_viewL:∀cs:List AV,AV.viewL (AV.viewL cs)=AV.viewL cs
 |[]=>rfl
 |c::cs=>by simp only[AV.viewL];rw[view_view0 c,viewL_viewL cs]
end
@[simp]theorem view_view(v:AV):v.view.view=v.view:=view_view0 v
@[simp]theorem pure_sl{v:AV}(h:isSl v=true):v.isPure=true:=by cases v<;>simp_all [isSl]
@[simp]theorem cells_sl{v:AV}(h:isSl v=true):v.cells=[v]:=by cases v<;>simp_all [isSl,AV.cells]
@[simp]theorem isCell_sl{v:AV}(h:isSl v=true):v.isCell=true:=by cases v<;>simp_all [isSl,AV.isCell]
def mkL(sz:Nat)(r:List (List AV)):AV:=if r.isEmpty then .nilSl else .own sz r
@[simp]theorem rowsL_mk{sz:Nat}{r:List (List AV)}:rowsL (mkL sz r)=r:=by
 cases r<;>rfl
@[simp]theorem isSl_mk{sz:Nat}{r:List (List AV)}:isSl (mkL sz r)=true:=by
 cases r<;>rfl
@[simp]theorem isSz_mk{sz:Nat}{r:List (List AV)}:isSz sz (mkL sz r)=fits sz r:=by
 cases r<;>simp[mkL,isSz,fits]
theorem mkL_nil{sz:Nat}:mkL sz []=.nilSl:=rfl
theorem appV_mk{sz bytes:Nat}{r new:List (List AV)}(hf:fits sz new=true)(hr:(r.length+new.length)*bytes<=room):appV sz bytes (mkL sz r) new=some (mkL sz (r++new)):=by
 unfold appV
 rw[if_pos hf]
 cases r with
 |nil=>
  cases new with
  |nil=>rfl
  |cons a l=>simp only[mkL,List.isEmpty_nil,if_true,List.isEmpty_cons,Bool.false_eq_true,if_false,List.nil_append];rw[if_pos (by simpa using hr)]
 |cons b r=>simp only[mkL,List.isEmpty_cons,Bool.false_eq_true,if_false,List.cons_append];rw[if_pos ⟨trivial,hr⟩]
def subV(v:AV)(lo hi:Nat):AV:=match v with
 |.lst s r|.own s r=>.lst s ((r.take hi).drop lo)
 |x=>x
@[simp]theorem sliceV_sl{sz:Nat}{v:AV}{lo hi:Int}(h:isSz sz v=true):sliceV false sz v lo hi none=if 0<=lo/\lo<=hi/\hi<=(rowsL v).length then some (subV v lo.toNat hi.toNat) else none:=by
 by_cases hc:0<=lo/\lo<=hi/\hi<=(rowsL v).length
 ·rw[if_pos hc]
  cases v<;>simp[isSz]at h
  case nilSl=>
   simp[rowsL]at hc
   have:lo=0/\hi=0:=by omega
   obtain⟨rfl,rfl⟩:=this
   rfl
  case emp=>
   simp[rowsL]at hc
   have:lo=0/\hi=0:=by omega
   obtain⟨rfl,rfl⟩:=this
   rfl
  case lst s r=>simp only[rowsL]at hc;simp[sliceV,subV,h.1,hc]
  case own s r=>simp only[rowsL]at hc;simp[sliceV,subV,h.1,hc]
 ·rw[if_neg hc]
  cases v<;>simp[isSz]at h
  case nilSl=>
   simp only[sliceV]
   refine if_neg fun h=>hc ?_
   simp at h
   obtain⟨rfl,rfl⟩:=h
   simp[rowsL]
  case emp=>
   simp only[sliceV]
   refine if_neg fun h=>hc ?_
   simp at h
   obtain⟨rfl,rfl⟩:=h
   simp[rowsL]
  case lst s r=>
   simp only[sliceV]
   refine if_neg fun h=>hc ?_
   simp at h
   simp only[rowsL];exact⟨h.1.1.2,h.1.2,h.2⟩
  case own s r=>
   simp only[sliceV]
   refine if_neg fun h=>hc ?_
   simp at h
   simp only[rowsL];exact⟨h.1.1.2,h.1.2,h.2⟩
@[simp]theorem isSl_sub{v:AV}{lo hi:Nat}(h:isSl v=true):isSl (subV v lo hi)=true:=by
 cases v<;>simp_all [isSl,subV]
@[simp]theorem rowsL_sub{v:AV}{lo hi:Nat}(h:isSl v=true):rowsL (subV v lo hi)=((rowsL v).take hi).drop lo:=by
 cases v<;>simp_all [isSl,subV,rowsL]
theorem fits_sub{sz lo hi:Nat}{r:List (List AV)}(h:fits sz r=true):fits sz ((r.take hi).drop lo)=true:=by
 simp only[fits,List.all_eq_true]at *
 exact fun x hx=>h x (List.mem_of_mem_take (List.mem_of_mem_drop hx))
@[simp]theorem isSz_sub{sz:Nat}{v:AV}{lo hi:Nat}(h:isSz sz v=true):isSz sz (subV v lo hi)=true:=by
 cases v<;>simp_all [isSz,subV,fits_sub]
def ints(xs:List Int):List (List AV):=xs.map fun n=>[.int .i64 n]
def dI(v:AV):List Int:=(rowsL v).map fun r=>match r with | [.int .i64 n]=>n|_=>0
def isI(v:AV):Bool:=isSz 1 v&&(rowsL v).all fun r=>match r with | [.int .i64 _]=>true|_=>false
theorem dI_ints(xs:List Int):((ints xs).map fun r=>match r with | [AV.int .i64 n]=>n|_=>(0:Int))=xs:=by
 induction xs with
 |nil=>rfl
 |cons x xs ih=>simp only[ints,List.map_cons]at *;rw[ih]
@[simp]theorem ints_len(xs:List Int):(ints xs).length=xs.length:=by simp[ints]
@[simp]theorem ints_get(xs:List Int)(i:Nat)(h:i<(ints xs).length):(ints xs)[i]=[.int .i64 (xs[i]'(by simpa using h))]:=by simp[ints]
@[simp]theorem fits_ints(xs:List Int):fits 1 (ints xs)=true:=by simp[fits,ints]
@[simp]theorem ints_take(xs:List Int)(k:Nat):List.take k (ints xs)=ints (xs.take k):=by simp[ints]
@[simp]theorem bools_take(xs:List Bool)(k:Nat):List.take k (xs.map fun b=>[AV.bool b])=(xs.take k).map fun b=>[AV.bool b]:=by simp
@[simp]theorem ints_drop(xs:List Int)(k:Nat):List.drop k (ints xs)=ints (xs.drop k):=by simp[ints]
@[simp]theorem ints_append(xs ys:List Int):ints xs++ints ys=ints (xs++ys):=by simp[ints]
@[simp]theorem ints_append1(xs:List Int)(n:Int):ints xs++[[.int .i64 n]]=ints (xs++[n]):=by simp[ints]
theorem rowsL_I{v:AV}(h:isI v=true):rowsL v=ints (dI v):=by
 simp only[isI,Bool.and_eq_true,List.all_eq_true]at h
 unfold ints dI
 rw[List.map_map]
 conv=>lhs;rw[<-List.map_id (rowsL v)]
 refine List.map_congr_left fun r hr=>?_
 have:=h.2 r hr
 split at this
 ·rfl
 ·cases this
@[simp]theorem isI_view(v:AV):isI v.view=isI v:=by simp[isI]
@[simp]theorem dI_view(v:AV):dI v.view=dI v:=by simp[dI]
@[simp]theorem isSz_I{v:AV}(h:isI v=true):isSz 1 v=true:=by simp only[isI,Bool.and_eq_true]at h;exact h.1
@[simp]theorem isSl_I{v:AV}(h:isI v=true):isSl v=true:=isSl_sz (isSz_I h)
@[simp]theorem isI_mk(xs:List Int):isI (mkL 1 (ints xs))=true:=by simp[isI,ints,fits]
@[simp]theorem dI_mk(xs:List Int):dI (mkL 1 (ints xs))=xs:=by simp only[dI,rowsL_mk];exact dI_ints xs
@[simp]theorem isI_nil:isI .nilSl=true:=rfl
@[simp]theorem dI_nil:dI .nilSl=[]:=rfl
@[simp]theorem isI_lst(xs:List Int):isI (.lst 1 (ints xs))=true:=by simp[isI,ints,fits]
@[simp]theorem dI_lst(xs:List Int):dI (.lst 1 (ints xs))=xs:=by simp only[dI,rowsL_lst];exact dI_ints xs
@[simp]theorem isI_own(xs:List Int):isI (.own 1 (ints xs))=true:=by simp[isI,ints,fits]
@[simp]theorem dI_own(xs:List Int):dI (.own 1 (ints xs))=xs:=by simp only[dI,rowsL_own];exact dI_ints xs
@[simp]theorem isI_sub{v:AV}{lo hi:Nat}(h:isI v=true):isI (subV v lo hi)=true:=by
 have h0:=isSl_I h
 simp only[isI,Bool.and_eq_true,List.all_eq_true]at *
 refine⟨isSz_sub h.1,fun r hr=>?_⟩
 rw[rowsL_sub h0]at hr
 exact h.2 r (List.mem_of_mem_take (List.mem_of_mem_drop hr))
@[simp]theorem dI_sub{v:AV}{lo hi:Nat}(h:isI v=true):dI (subV v lo hi)=((dI v).take hi).drop lo:=by
 simp[dI,isSl_I h,List.map_take,List.map_drop]
@[simp]theorem isI_own1(n:Int):isI (.own 1 [[.int .i64 n]])=true:=rfl
@[simp]theorem isI_lst1(n:Int):isI (.lst 1 [[.int .i64 n]])=true:=rfl
@[simp]theorem isI_lst2(a b:Int):isI (.lst 1 [[.int .i64 a],[.int .i64 b]])=true:=rfl
@[simp]theorem dI_lst2(a b:Int):dI (.lst 1 [[.int .i64 a],[.int .i64 b]])=[a,b]:=rfl
@[simp]theorem isI_lst3(a b c:Int):isI (.lst 1 [[.int .i64 a],[.int .i64 b],[.int .i64 c]])=true:=rfl
@[simp]theorem dI_lst3(a b c:Int):dI (.lst 1 [[.int .i64 a],[.int .i64 b],[.int .i64 c]])=[a,b,c]:=rfl
@[simp]theorem dI_lst1(n:Int):dI (.lst 1 [[.int .i64 n]])=[n]:=rfl
def bools(xs:List Bool):List (List AV):=xs.map fun b=>[.bool b]
@[simp]theorem bools_len(xs:List Bool):(bools xs).length=xs.length:=by simp[bools]
@[simp]theorem bools_get(xs:List Bool)(i:Nat)(h:i<(bools xs).length):(bools xs)[i]=[.bool (xs[i]'(by simpa using h))]:=by simp[bools]
@[simp]theorem bools_set(xs:List Bool)(i:Nat)(b:Bool):(bools xs).set i [.bool b]=bools (xs.set i b):=by simp[bools]
@[simp]theorem st0{α:Type}(st:List α)(a:α)(l:List α):(st++a::l)[st.length]?=some a:=by simp
@[simp]theorem st1{α:Type}(st:List α)(a b:α)(l:List α):(st++a::b::l)[st.length+1]?=some b:=by
 rw[List.getElem?_append_right (by omega)];simp
@[simp]theorem st2{α:Type}(st:List α)(a b c:α)(l:List α):(st++a::b::c::l)[st.length+2]?=some c:=by
 rw[List.getElem?_append_right (by omega)];simp
@[simp]theorem set0{α:Type}(st:List α)(a x:α)(l:List α):(st++a::l).set st.length x=st++x::l:=by simp
@[simp]theorem set1{α:Type}(st:List α)(a b x:α)(l:List α):(st++a::b::l).set (st.length+1) x=st++a::x::l:=by
 rw[List.set_append_right _ _ (by omega)];simp
@[simp]theorem set2{α:Type}(st:List α)(a b c x:α)(l:List α):(st++a::b::c::l).set (st.length+2) x=st++a::b::x::l:=by
 rw[List.set_append_right _ _ (by omega)];simp
end Ax
namespace Ax
open Go
theorem W_loopI{S:Nat->Option SFunc}{wl lim:Nat}{rs:List SRes}{Q:Ex->St->Prop}{k:List Todo}{α:Type}{c b:SCode}{s:St}(h:c=b)(f:α->St)(I:α->Prop)(μ:α->Nat)(a0:α)(hs:s=f a0)(h0:I a0)
  (round:∀a,I a->(∀a',I a'->μ a'<μ a->W S wl lim rs Q (.code (.loop c)::k) .normal (f a'))->W S wl lim rs Q (.code b::.again c::k) .normal (f a)) :
  W S wl lim rs Q (.code (.loop c)::k) .normal s:=by
 subst hs
 exact W_ind h f I μ round a0 h0
def els(v:AV):List AV:=(rowsL v).map fun r=>r.headD .undef
def isII(v:AV):Bool:=isSz 1 v&&(rowsL v).all fun r=>match r with | [x]=>isI x|_=>false
def dII(v:AV):List (List Int):=(els v).map dI
theorem rowsL_II{v:AV}(h:isII v=true):rowsL v=(els v).map fun x=>[x]:=by
 simp only[isII,Bool.and_eq_true,List.all_eq_true]at h
 unfold els
 rw[List.map_map]
 conv=>lhs;rw[<-List.map_id (rowsL v)]
 refine List.map_congr_left fun r hr=>?_
 have:=h.2 r hr
 split at this
 ·rfl
 ·cases this
theorem els_II{v:AV}(h:isII v=true):∀x∈els v,isI x=true:=by
 intro x hx
 have h1:=rowsL_II h
 simp only[isII,Bool.and_eq_true,List.all_eq_true]at h
 have:[x]∈rowsL v:=by rw[h1];exact List.mem_map.2 ⟨x,hx,rfl⟩
 exact h.2 _ this
@[simp]theorem els_view(v:AV):els v.view=els v:=by simp[els]
@[simp]theorem isII_view(v:AV):isII v.view=isII v:=by simp[isII]
@[simp]theorem dII_view(v:AV):dII v.view=dII v:=by simp[dII]
@[simp]theorem isSz_II{v:AV}(h:isII v=true):isSz 1 v=true:=by simp only[isII,Bool.and_eq_true]at h;exact h.1
@[simp]theorem isSl_II{v:AV}(h:isII v=true):isSl v=true:=isSl_sz (isSz_II h)
@[simp]theorem dII_len(v:AV):(dII v).length=(els v).length:=by simp[dII]
@[simp]theorem isI_els{v:AV}(h:isII v=true)(i:Nat)(hi:i<(els v).length):isI (els v)[i]=true:=els_II h _ (List.getElem_mem _)
end Ax
namespace Ax
@[simp]theorem cast_eq(a b:Nat):((a:Int)=(b:Int))↔a=b:=Int.natCast_inj
end Ax
namespace Ax
open Go
theorem call_any{S:Nat->Option SFunc}{f:Nat}{sf:SFunc}(hf:S f=some sf)(hm:sf.mode=.pure){args:List AV}(hp:AV.allPure args=true){v:AV}{st0:Store}(h:(orcL S).call 0 0 f args []=some (v,st0))(wl lim:Nat)(st:Store) :
  (orcL S).call wl lim f args st=some (v,st):=by
 rw[orcL_call,hf]at h ⊢
 have ha:alone sf args=true:=by simp[alone,hm,hp]
 simp only[callBody,ha,if_true]at h ⊢
 cases hc:callBody0 (orcL S) 0 0 sf args [] with
 |none=>rw[hc]at h;cases h
 |some x=>rw[hc]at h;cases h;rfl
end Ax
namespace Ax
open Go
variable {P:Program}
theorem ty_int{t:TypeId}{k:IntKind}{as:List AV}(h1:P.underlying t=some (.int k))(h:Ty P t as):∃n,as=[.int k n]/\k.min<=n/\n<=k.max:=by
 cases h with
 |int hu n a b=>rw[h1]at hu;cases hu;exact⟨n,rfl,a,b⟩
 |bool hu=>rw[h1]at hu;cases hu
 |str hu=>rw[h1]at hu;cases hu
 |nilSl hu=>rw[h1]at hu;cases hu
 |emp hu=>rw[h1]at hu;cases hu
 |lst hu=>rw[h1]at hu;cases hu
 |recd hu=>rw[h1]at hu;cases hu
theorem ty_bool{t:TypeId}{as:List AV}(h1:P.underlying t=some .bool)(h:Ty P t as):∃b,as=[.bool b]:=by
 cases h with
 |bool hu b=>exact⟨b,rfl⟩
 |int hu=>rw[h1]at hu;cases hu
 |str hu=>rw[h1]at hu;cases hu
 |nilSl hu=>rw[h1]at hu;cases hu
 |emp hu=>rw[h1]at hu;cases hu
 |lst hu=>rw[h1]at hu;cases hu
 |recd hu=>rw[h1]at hu;cases hu
theorem ty_str{t:TypeId}{as:List AV}(h1:P.underlying t=some .string)(h:Ty P t as):∃l:List UInt8,as=[.str l]/\l.length<=maxLen:=by
 cases h with
 |str hu l hl=>exact⟨l,rfl,hl⟩
 |bool hu=>rw[h1]at hu;cases hu
 |int hu=>rw[h1]at hu;cases hu
 |nilSl hu=>rw[h1]at hu;cases hu
 |emp hu=>rw[h1]at hu;cases hu
 |lst hu=>rw[h1]at hu;cases hu
 |recd hu=>rw[h1]at hu;cases hu
theorem ty_slice{t e:TypeId}{as:List AV}(h1:P.underlying t=some (.slice e))(h:Ty P t as):∃v,as=[v]/\isSz (P.cellsOf e) v=true/\(∀r∈rowsL v,Ty P e r)/\(rowsL v).length<=maxLen:=by
 cases h with
 |nilSl hu=>exact⟨_,rfl,rfl,fun r hr=>by simp[rowsL]at hr,by simp[rowsL]⟩
 |emp hu=>exact⟨_,rfl,rfl,fun r hr=>by simp[rowsL]at hr,by simp[rowsL]⟩
 |lst hu rows hn hl h2=>
  rw[h1]at hu;cases hu
  refine⟨_,rfl,?_,h2,hn⟩
  simp only[isSz_lst,beq_self_eq_true,Bool.true_and,fits,List.all_eq_true,beq_iff_eq]
  exact hl
 |bool hu=>rw[h1]at hu;cases hu
 |int hu=>rw[h1]at hu;cases hu
 |str hu=>rw[h1]at hu;cases hu
 |recd hu=>rw[h1]at hu;cases hu
theorem ty_struct{t:TypeId}{fs:Array Field}{as:List AV}(h1:P.underlying t=some (.struct fs))(h:Ty P t as):TyFs P fs.toList as:=by
 cases h with
 |recd hu as h2=>rw[h1]at hu;cases hu;exact h2
 |bool hu=>rw[h1]at hu;cases hu
 |int hu=>rw[h1]at hu;cases hu
 |str hu=>rw[h1]at hu;cases hu
 |nilSl hu=>rw[h1]at hu;cases hu
 |emp hu=>rw[h1]at hu;cases hu
 |lst hu=>rw[h1]at hu;cases hu
theorem ty_I{t e:TypeId}{as:List AV}(h1:P.underlying t=some (.slice e))(h2:P.underlying e=some (.int .i64))(h3:P.cellsOf e=1)(h:Ty P t as):∃v,as=[v]/\isI v=true/\(dI v).length<=maxLen/\∀n∈dI v,-9223372036854775808<=n/\n<=9223372036854775807:=by
 obtain⟨v,rfl,a,b,c⟩:=ty_slice h1 h
 rw[h3]at a
 refine⟨v,rfl,?_,by simpa [dI] using c,fun n hn=>?_⟩
 ·simp only[isI,a,Bool.true_and,List.all_eq_true]
  intro r hr
  obtain⟨n,rfl,_⟩:=ty_int h2 (b r hr)
  rfl
 ·simp only[dI,List.mem_map]at hn
  obtain⟨r,hr,rfl⟩:=hn
  obtain⟨n,rfl,l,u⟩:=ty_int h2 (b r hr)
  exact⟨l,u⟩
theorem tyV_one{t:TypeId}{a:AV}(h1:∀fs,P.underlying t≠some (.struct fs))(h:TyV P t a):Ty P t [a]:=by
 rcases h with⟨fs,as,h2,_⟩|⟨_,h2⟩
 ·exact absurd h2 (h1 fs)
 ·exact h2
theorem tyVs_three{t u v:TypeId}{as:List AV}(h:TyVs P [t,u,v] as):∃a b c,as=[a,b,c]/\TyV P t a/\TyV P u b/\TyV P v c:=by
 match as,h with
 |[a,b,c],h=>exact⟨a,b,c,rfl,h.1,h.2.1,h.2.2.1⟩
end Ax
namespace Ax
open Go
noncomputable def kgetE (env:Env) (t:Nat):Ent:=List.rec (motive:=fun _=>Ent) Ent.none (fun p _ ih=>match Nat.beq p.1 t with|true=>p.2|false=>ih) env
noncomputable def ksetE (env:Env) (t:Nat) (e:Ent):Env:=List.rec (motive:=fun _=>Env) [(t,e)] (fun p r ih=>match Nat.ble p.1 t with
  |false=>(t,e)::p::r
  |true=>match Nat.beq p.1 t with
   |true=>(t,e)::r
   |false=>p::ih) env
noncomputable def kdelE (env:Env) (t:Nat):Env:=List.rec (motive:=fun _=>Env) [] (fun p _ ih=>match Nat.beq p.1 t with|true=>ih|false=>p::ih) env
theorem beq_no{k t:Nat}(h:¬k=t):Nat.beq k t=false:=by
 cases hb:Nat.beq k t with
 |false=>rfl
 |true=>exact absurd (Nat.eq_of_beq_eq_true hb) h
theorem beq_yes{k t:Nat}(h:k=t):Nat.beq k t=true:=by subst h;exact Nat.beq_refl k
theorem kgetE_eq:kgetE=getE:=by
 funext env t
 induction env with
 |nil=>rfl
 |cons p r ih=>
  obtain⟨k,e⟩:=p
  show (match Nat.beq k t with|true=>e|false=>kgetE r t)=getE ((k,e)::r) t
  rw[ih]
  show _=(if k=t then e else getE r t)
  by_cases h:k=t
  ·rw[beq_yes h,if_pos h]
  ·rw[beq_no h,if_neg h]
theorem ksetE_eq:ksetE=setE:=by
 funext env t e
 induction env with
 |nil=>rfl
 |cons p r ih=>
  obtain⟨k,x⟩:=p
  show (match Nat.ble k t with
   |false=>(t,e)::(k,x)::r
   |true=>match Nat.beq k t with
    |true=>(t,e)::r
    |false=>(k,x)::ksetE r t e)=setE ((k,x)::r) t e
  rw[ih]
  show _=(if t<k then (t,e)::(k,x)::r else if t=k then (t,e)::r else (k,x)::setE r t e)
  by_cases h:t<k
  ·have:Nat.ble k t=false:=by
    cases hb:Nat.ble k t with
    |false=>rfl
    |true=>have:=Nat.le_of_ble_eq_true hb;omega
   rw[this,if_pos h]
  ·have:Nat.ble k t=true:=Nat.ble_eq_true_of_le (by omega)
   rw[this,if_neg h]
   by_cases h2:t=k
   ·rw[beq_yes h2.symm,if_pos h2]
   ·rw[beq_no (fun e=>h2 e.symm),if_neg h2]
theorem kdelE_eq:kdelE=delE:=by
 funext env t
 induction env with
 |nil=>rfl
 |cons p r ih=>
  obtain⟨k,x⟩:=p
  show (match Nat.beq k t with|true=>kdelE r t|false=>(k,x)::kdelE r t)=(if k=t then delE r t else (k,x)::delE r t)
  rw[ih]
  by_cases h:k=t
  ·rw[beq_yes h,if_pos h]
  ·rw[beq_no h,if_neg h]
noncomputable def kview (v:AV):AV:=match v with
 |.own sz rows=>.lst sz rows
 |.raw _ _=>.gone
 |.agg cs=>(AV.agg cs).view
 |.tup cs=>(AV.tup cs).view
 |v=>v
theorem kview_eq(v:AV):kview v=v.view:=by cases v<;>simp[kview,AV.view]
noncomputable def kviewL (l:List AV):List AV:=List.rec (motive:=fun _=>List AV) [] (fun v _ ih=>kview v::ih) l
theorem kviewL_eq(l:List AV):kviewL l=AV.viewL l:=by
 induction l with
 |nil=>rfl
 |cons v l ih=>
  show kview v::kviewL l=_
  rw[ih,kview_eq];rfl
noncomputable def kpure (v:AV):Bool:=match v with
 |.mu _ _|.ptr _ _ _ _|.map _=>false
 |.agg cs=>(AV.agg cs).isPure
 |.tup cs=>(AV.tup cs).isPure
 |.fn f a b=>(AV.fn f a b).isPure
 |_=>true
theorem kpure_eq(v:AV):kpure v=v.isPure:=by cases v<;>simp[kpure,AV.isPure]
noncomputable def kpures (l:List AV):Bool:=List.rec (motive:=fun _=>Bool) true (fun v _ ih=>match kpure v with|true=>ih|false=>false) l
theorem kpures_eq(l:List AV):kpures l=AV.allPure l:=by
 induction l with
 |nil=>rfl
 |cons v l ih=>
  show (match kpure v with|true=>kpures l|false=>false)=_
  rw[ih,kpure_eq]
  simp only[AV.allPure]
  cases v.isPure<;>simp
noncomputable def kentv (e:Ent):Ent:=match e with|.val v=>.val (kview v)|.none=>.none|.fp j k=>.fp j k
theorem kentv_eq(e:Ent):kentv e=e.view:=by cases e<;>simp[kentv,Ent.view,kview_eq]
noncomputable def krdE (env:Env) (x:Src):Ent:=match x with
 |.tmp t mv=>match mv with|true=>kgetE env t|false=>kentv (kgetE env t)
 |.const a=>.val a
theorem krdE_eq:krdE=rdE:=by
 funext env x
 unfold krdE rdE
 rw[kgetE_eq]
 cases x with
 |tmp t mv=>
  cases mv
  ·exact kentv_eq _
  ·rfl
 |const a=>rfl
noncomputable def kkillE (env:Env) (x:Src):Env:=match x with
 |.tmp t mv=>match mv with|true=>kdelE env t|false=>env
 |.const _=>env
theorem kkillE_eq:kkillE=killE:=by
 funext env x
 unfold kkillE killE
 rw[kdelE_eq]
 cases x with
 |tmp t mv=>cases mv<;>rfl
 |const a=>rfl
noncomputable def kclearE (l:List Nat) (env:Env):Env:=List.rec (motive:=fun _=>Env->Env) (fun env=>env) (fun t _ ih env=>ih (kdelE env t)) l env
theorem kclearE_eq:kclearE=clearE:=by
 funext l
 induction l with
 |nil=>rfl
 |cons t l ih=>
  funext env
  show kclearE l (kdelE env t)=clearE l (delE env t)
  rw[ih,kdelE_eq]
noncomputable def kputE (env:Env) (dst:Option Nat) (e:Ent):Env:=match dst with|some d=>ksetE env d e|none=>env
theorem kputE_eq:kputE=putE:=by
 funext env d e
 unfold kputE putE
 rw[ksetE_eq]
 rfl
noncomputable def kwantedE (env:Env) (g:Option (Nat×Bool)):Option Bool:=match g with
 |none=>some true
 |some (t,b)=>match kgetE env t with
  |.val (.bool c)=>some (c==b)
  |.val .undef=>some false
  |_=>none
theorem kwantedE_eq:kwantedE=wantedE:=by
 funext env g
 unfold kwantedE wantedE
 rw[kgetE_eq]
 rfl
noncomputable def kargs (env:Env) (l:List Src):List Ent:=List.rec (motive:=fun _=>List Ent) [] (fun x _ ih=>krdE env x::ih) l
theorem kargs_eq(env:Env)(l:List Src):kargs env l=l.map (rdE env):=by
 induction l with
 |nil=>rfl
 |cons x l ih=>
  show krdE env x::kargs env l=_
  rw[ih,krdE_eq];rfl
noncomputable def kkills (env:Env) (l:List Src):Env:=List.rec (motive:=fun _=>Env->Env) (fun env=>env) (fun x _ ih env=>ih (kkillE env x)) l env
theorem kkills_eq(l:List Src):∀env,kkills env l=l.foldl killE env:=by
 induction l with
 |nil=>exact fun _=>rfl
 |cons x l ih=>
  intro env
  show kkills (kkillE env x) l=_
  rw[ih,kkillE_eq];rfl
noncomputable def kact (O:Orc) (wl lim:Nat) (op:SOp) (vals:List Ent) (st:Store) (bx:Boxes):Option (Ent×Store×Boxes):=match op with
 |.move=>match vals with
  |[e]=>some (e,st,bx)
  |_=>none
 |.load agg n take=>match take with
  |true=>act0 wl lim (.load agg n true) vals st bx
  |false=>match vals with
   |[.val p]=>match readP st p n with
    |some cs=>match oneOrAgg agg (kviewL cs) with|some v=>some (.val v,st,bx)|none=>none
    |none=>none
   |_=>none
 |.loadF j agg n take=>match take with
  |true=>act0 wl lim (.loadF j agg n true) vals st bx
  |false=>match vals with
   |[.fp j' k]=>match Nat.beq j j' with
    |true=>match bx[j]? with
     |some row=>match cut row k n with
      |some cs=>match oneOrAgg agg (kviewL cs) with|some v=>some (.val v,st,bx)|none=>none
      |none=>none
     |none=>none
    |false=>none
   |_=>none
 |.call f=>actCall O wl lim (calleeOf (.call f) vals) st bx
 |.callV=>actCall O wl lim (calleeOf .callV vals) st bx
 |op=>act0 wl lim op vals st bx
theorem kact_eq(O:Orc)(wl lim:Nat)(op:SOp)(vals:List Ent)(st:Store)(bx:Boxes):kact O wl lim op vals st bx=act O wl lim op vals st bx:=by
 cases op
 case load agg n take=>
  cases take with
  |true=>rfl
  |false=>
   simp only[kact,act,act0,kviewL_eq]
   rfl
 case loadF j agg n take=>
  cases take with
  |true=>rfl
  |false=>
   rcases vals with _|⟨e,_|⟨e2,l⟩⟩
   ·rfl
   ·cases e with
    |none=>rfl
    |val v=>rfl
    |fp j' k=>
     simp only[kact,act,act0,kviewL_eq]
     by_cases h:j=j'
     ·rw[beq_yes h,if_pos h];rfl
     ·rw[beq_no h,if_neg h]
   ·cases e<;>rfl
 all_goals rfl
noncomputable def kevalOp (O:Orc) (wl lim:Nat) (o:SOper) (s:St):Option St:=
 match kwantedE s.env o.guard with
 |none=>none
 |some false=>some { s with env:=kputE s.env o.dst (.val .undef) }
 |some true=>
  match kact O wl lim o.op (kargs s.env o.args) s.st s.bx with
  |none=>none
  |some (e,st',bx')=>
   match o.op.newBox with
   |none=>some ⟨kputE (kkills s.env o.args) o.dst e,bx',st'⟩
   |some j=>if noFp j (kputE (kkills s.env o.args) o.dst .none) then some ⟨kputE (kkills s.env o.args) o.dst e,bx',st'⟩ else none
theorem kevalOp_eq(O:Orc)(wl lim:Nat)(o:SOper)(s:St):kevalOp O wl lim o s=evalOp O wl lim o s:=by
 unfold kevalOp evalOp
 rw[kwantedE_eq,kputE_eq,kargs_eq,kkills_eq,kact_eq]
 rfl
noncomputable def kevalOps (O:Orc) (wl lim:Nat) (l:List SOper) (s:St):Option St:=List.rec (motive:=fun _=>St->Option St) (fun s=>some s)
 (fun o _ ih s=>match kevalOp O wl lim o s with|some s'=>ih s'|none=>none) l s
theorem kevalOps_eq(O:Orc)(wl lim:Nat):∀(l:List SOper)(s:St),kevalOps O wl lim l s=evalOps O wl lim l s:=by
 intro l
 induction l with
 |nil=>exact fun _=>rfl
 |cons o l ih=>
  intro s
  show (match kevalOp O wl lim o s with|some s'=>kevalOps O wl lim l s'|none=>none)=_
  rw[kevalOp_eq]
  unfold evalOps
  cases evalOp O wl lim o s with
  |none=>rfl
  |some s'=>exact ih s'
noncomputable def kevalDraw (O:Orc) (wl lim:Nat) (ops:List SOper) (pairs:List (Nat×Nat)) (s:St):Option St:=match pairs with
 |[]=>match ops.all (boxOk s.env) with
  |true=>kevalOps O wl lim ops s
  |false=>none
 |p::l=>evalDraw O wl lim ops (p::l) s
theorem kevalDraw_eq(O:Orc)(wl lim:Nat)(ops:List SOper)(pairs:List (Nat×Nat))(s:St):kevalDraw O wl lim ops pairs s=evalDraw O wl lim ops pairs s:=by
 cases pairs with
 |cons p l=>rfl
 |nil=>
  show (match ops.all (boxOk s.env) with|true=>kevalOps O wl lim ops s|false=>none)=_
  cases h:ops.all (boxOk s.env) with
  |true=>rw[evalDraw_nil h];exact kevalOps_eq ..
  |false=>
   unfold evalDraw
   cases evalRec O wl lim ops s with
   |none=>rfl
   |some y=>simp[h]
noncomputable def krdBool (env:Env) (c:Src):Option Bool:=
 match krdE env c with
 |.val (.bool b)=>some b
 |_=>none
theorem krdBool_eq:krdBool=rdBool:=by
 funext env c
 unfold krdBool rdBool
 rw[krdE_eq]
 rfl
noncomputable def ksem (O:Orc) (wl lim:Nat) (rs:List SRes) (c:SCode):St->Option (Ex×St):=SCode.rec (motive:=fun _=>St->Option (Ex×St))
 (fun s=>some (Ex.normal,s))
 (fun ops draw clr s=>
  match (match draw with|none=>kevalOps O wl lim ops s|some pairs=>kevalDraw O wl lim ops pairs s) with
  |some s'=>some (Ex.normal,{ s' with env:=kclearE clr s'.env })
  |none=>none)
 (fun _ _ ia ib s=>match ia s with
  |some (Ex.normal,s')=>ib s'
  |r=>r)
 (fun c ca _ cb _ ia ib s=>match krdBool s.env c with
  |some true=>ia { s with env:=kclearE ca (kkillE s.env c) }
  |some false=>ib { s with env:=kclearE cb (kkillE s.env c) }
  |none=>none)
 (fun id _ ic s=>match ic s with
  |some (Ex.exit id',s')=>if id'=id then some (Ex.normal,s') else some (Ex.exit id',s')
  |r=>r)
 (fun c _ s=>O.loop wl lim rs c s)
 (fun id s=>some (Ex.exit id,s))
 (fun s=>match resV s rs with|some v=>some (Ex.ret v,⟨[],[],s.st⟩)|none=>none)
 (fun t s=>sem O wl lim rs (.frz t) s)
 (fun j k s=>sem O wl lim rs (.frzB j k) s)
 (fun t off s=>sem O wl lim rs (.frzH t off) s) c
theorem ksem_eq(O:Orc)(wl lim:Nat)(rs:List SRes):∀(c:SCode)(s:St),ksem O wl lim rs c s=sem O wl lim rs c s:=by
 intro c
 induction c with
 |skip=>exact fun _=>rfl
 |region ops draw clr=>
  intro s
  show (match (match draw with|none=>kevalOps O wl lim ops s|some pairs=>kevalDraw O wl lim ops pairs s) with
  |some s'=>some (Ex.normal,{ s' with env:=kclearE clr s'.env })
  |none=>none)=_
  rw[kclearE_eq]
  simp only[sem]
  cases draw with
  |none=>rw[kevalOps_eq];rfl
  |some p=>simp only[kevalDraw_eq];rfl
 |seq a b ia ib=>
  intro s
  show (match ksem O wl lim rs a s with
  |some (Ex.normal,s')=>ksem O wl lim rs b s'
  |r=>r)=_
  rw[ia]
  simp only[sem]
  cases sem O wl lim rs a s with
  |none=>rfl
  |some y=>
   obtain⟨x,s'⟩:=y
   cases x with
   |normal=>exact ib s'
   |exit _=>rfl
   |ret _=>rfl
 |cond c ca a cb b ia ib=>
  intro s
  show (match krdBool s.env c with
  |some true=>ksem O wl lim rs a { s with env:=kclearE ca (kkillE s.env c) }
  |some false=>ksem O wl lim rs b { s with env:=kclearE cb (kkillE s.env c) }
  |none=>none)=_
  rw[krdBool_eq,kclearE_eq,kkillE_eq]
  simp only[sem]
  cases rdBool s.env c with
  |none=>rfl
  |some z=>cases z with
   |true=>exact ia _
   |false=>exact ib _
 |block id c ic=>
  intro s
  show (match ksem O wl lim rs c s with
  |some (Ex.exit id',s')=>if id'=id then some (Ex.normal,s') else some (Ex.exit id',s')
  |r=>r)=_
  rw[ic]
  rfl
 |loop c _=>exact fun _=>rfl
 |exit id=>exact fun _=>rfl
 |ret=>exact fun _=>rfl
 |frz t=>exact fun _=>rfl
 |frzB j k=>exact fun _=>rfl
 |frzH t off=>exact fun _=>rfl
noncomputable def kcallBody0 (O:Orc) (wl lim:Nat) (sf:SFunc) (args:List AV) (st:Store):Option (AV×Store):=
 match Nat.beq args.length sf.nparams with
 |true=>match ksem O (sf.mode.wlOf st.length wl) (sf.mode.limOf st.length lim) sf.results sf.body (begS sf args st) with
  |some (x,s)=>match endV sf.results x s with
   |some v=>sf.mode.fin st v s.st
   |none=>none
  |none=>none
 |false=>none
theorem kcallBody0_eq(O:Orc)(wl lim:Nat)(sf:SFunc)(args:List AV)(st:Store):kcallBody0 O wl lim sf args st=callBody0 O wl lim sf args st:=by
 unfold kcallBody0 callBody0
 rw[ksem_eq]
 by_cases h:args.length=sf.nparams
 ·rw[beq_yes h,if_pos h]
  rfl
 ·rw[beq_no h,if_neg h]
noncomputable def kcallBody (O:Orc) (wl lim:Nat) (sf:SFunc) (args:List AV) (st:Store):Option (AV×Store):=
 match (match sf.mode with|.pure=>kpures args|_=>false) with
 |true=>(match kcallBody0 O 0 0 sf args [] with|some r=>some (r.1,st)|none=>none)
 |false=>kcallBody0 O wl lim sf args st
theorem kcallBody_eq(O:Orc)(wl lim:Nat)(sf:SFunc)(args:List AV)(st:Store):kcallBody O wl lim sf args st=callBody O wl lim sf args st:=by
 unfold kcallBody callBody
 rw[kcallBody0_eq,kcallBody0_eq]
 have:(match sf.mode with|.pure=>kpures args|_=>false)=alone sf args:=by
  unfold alone
  rw[kpures_eq]
  cases sf.mode<;>simp
 rw[this]
 cases alone sf args with
 |true=>simp only[if_true];cases callBody0 O 0 0 sf args []<;>rfl
 |false=>simp
noncomputable def korc (S:Nat->Option SFunc) (n:Nat):Orc:=Nat.rec (motive:=fun _=>Orc)
 ⟨fun _ _ _ _ _=>none,fun _ _ _ _ _=>none⟩
 (fun _ ih=>⟨fun wl lim f args st=>match S f with
   |some sf=>kcallBody ih wl lim sf args st
   |none=>none,
   fun wl lim rs c s=>match ksem ih wl lim rs c s with
   |some (Ex.normal,s')=>ih.loop wl lim rs c s'
   |r=>r⟩) n
theorem korc_eq(S:Nat->Option SFunc):∀n,korc S n=orc S n:=by
 intro n
 induction n with
 |zero=>rfl
 |succ n ih=>
  show (⟨fun wl lim f args st=>match S f with
   |some sf=>kcallBody (korc S n) wl lim sf args st
   |none=>none,
   fun wl lim rs c s=>match ksem (korc S n) wl lim rs c s with
   |some (Ex.normal,s')=>(korc S n).loop wl lim rs c s'
   |r=>r⟩:Orc)=orc S (n+1)
  rw[ih]
  simp only[kcallBody_eq,ksem_eq]
  rfl
theorem call_k{S:Nat->Option SFunc}{n wl lim f:Nat}{args:List AV}{st:Store}{r:AV×Store}(h:(korc S n).call wl lim f args st=some r):(orcL S).call wl lim f args st=some r:=by
 rw[korc_eq]at h
 exact(orc_leL S n).call _ _ _ _ _ _ h
def says(x:Option (AV×Store)):Bool:=match x with|some (.bool b,[])=>b|_=>false
theorem says_eq{x:Option (AV×Store)}(h:says x=true):x=some (.bool true,[]):=by
 unfold says at h
 split at h
 ·subst h;rfl
 ·cases h
end Ax
namespace Ax
@[simp]abbrev Src.t(n:Nat):Src:=.tmp n false
@[simp]abbrev Src.T(n:Nat):Src:=.tmp n true
@[simp]abbrev SOper.o(d:Nat)(op:SOp)(args:List Src):SOper:=⟨some d,op,args,none⟩
@[simp]abbrev SOper.n(op:SOp)(args:List Src):SOper:=⟨none,op,args,none⟩
@[simp]abbrev SOper.y(d:Nat)(op:SOp)(args:List Src)(t:Nat):SOper:=⟨some d,op,args,some (t,true)⟩
@[simp]abbrev SOper.z(d:Nat)(op:SOp)(args:List Src)(t:Nat):SOper:=⟨some d,op,args,some (t,false)⟩
@[simp]abbrev Src.b(x:Bool):Src:=.const (.bool x)
@[simp]abbrev AV.i(n:Int):AV:=.int .i64 n
@[simp]abbrev Src.i(n:Int):Src:=.const (.int .i64 n)
@[simp]abbrev SOper.m(d:Nat)(a:Src):SOper:=⟨some d,.move,[a],none⟩
@[simp]abbrev SOper.f(d k:Nat)(a:Src):SOper:=⟨some d,.fieldAddr k,[a],none⟩
@[simp]abbrev SOper.l(d i:Nat)(a:Src):SOper:=⟨some d,.loadF i false 1 false,[a],none⟩
@[simp]abbrev SOper.d(d:Nat)(a:Src):SOper:=⟨some d,.load false 1 false,[a],none⟩
@[simp]abbrev SCode.r:=SCode.region
@[simp]abbrev SOper.c(d f:Nat)(args:List Src):SOper:=⟨some d,.call f,args,none⟩
@[simp]abbrev SCode.g(l:List SOper)(c:List Nat):SCode:=.region l none c
end Ax
