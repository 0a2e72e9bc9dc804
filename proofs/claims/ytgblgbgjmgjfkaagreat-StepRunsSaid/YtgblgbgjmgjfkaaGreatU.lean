/-
  A machine in memory.
-/
import Derived.Test.YtgblgbgjmgjfkaaGreatG
import Derived.Test.YtgblgbgjmgjfkaaGreatH

set_option maxRecDepth 100000
set_option maxHeartbeats 4000000
namespace E14
open Ax Go Code14z IrV Mach
inductive Lb|no|p|g|fs|o|mp|st|fr
 deriving DecidableEq
structure Ids where
 p:Nat
 s:Nat
 q:Nat
 v:Nat
 g:Nat
 fq:Nat
 fv:Nat
 o:Nat
 ov:Nat
 mp:Nat
 ids:List Nat
 fl:List (Nat×Nat)
 lab:Nat->Lb
 iv:AV
def mRow(x:XD)(cl:AV)(s:Nat)(iv:AV)(g:Nat)(fr:AV)(mp:Nat)(e code:Int)(out:AV)(steps:Nat):List AV:=
 [x.recs,x.globals,x.codes,x.sites,.int .i64 x.main,cl,.ptr s 0 0 0,iv,.mu g 0,fr,.map mp,.int .i64 e,.int .i64 code,out,.int .i64 steps]
def fRow(f:Fr)(b:Nat):List AV:=[.int .i64 f.f,.int .i64 f.at_,.mu b 0,.int .i64 f.to]
def opsT:List (AV×AV):=[(.int .i64 1,.fn 50 [] []),(.int .i64 2,.fn 51 [] []),(.int .i64 3,.fn 52 [] []),(.int .i64 4,.fn 53 [] []),(.int .i64 5,.fn 54 [] []),
 (.int .i64 6,.fn 55 [] []),(.int .i64 7,.fn 56 [] []),(.int .i64 8,.fn 57 [] []),(.int .i64 9,.fn 58 [] []),(.int .i64 10,.fn 59 [] []),(.int .i64 11,.fn 60 [] []),
 (.int .i64 12,.fn 61 [] []),(.int .i64 13,.fn 62 [] []),(.int .i64 14,.fn 63 [] []),(.int .i64 15,.fn 64 [] []),(.int .i64 16,.fn 65 [] []),(.int .i64 17,.fn 66 [] []),
 (.int .i64 18,.fn 67 [] []),(.int .i64 19,.fn 68 [] []),(.int .i64 20,.fn 69 [] [])]
def FrAt(st:Store):List Fr->List (Nat×Nat)->Prop
 |[],[]=>True
 |f::l,a::b=>st[a.1]?=some (.rows 0 4 [fRow f a.2])/\st[a.2]?=some (.rows 0 1 (ints f.vs))/\FrAt st l b
 |_,_=>False
def idsF(fl:List (Nat×Nat)):List Nat:=fl.flatMap fun a=>[a.1,a.2]
structure Rep (x:XD)(cl:AV)(lim:Nat)(m:Ms)(I:Ids)(st:Store):Prop where
 P:st[I.p]?=some (.rows 0 15 [mRow x cl I.s I.iv I.g (.mu I.fq I.fv) I.mp m.e m.code (if m.out=[] then .nilSl else .mu I.o I.ov) m.steps])
 iv:isI I.iv=true/\notOwn I.iv=true/\dI I.iv=m.inp
 S:U10.Rp st I.s m.s I.q I.v I.ids
 G:st[I.g]?=some (.rows 0 1 (ints m.g))
 F:st[I.fq]?=some (.rows I.fv 1 (I.fl.reverse.map fun f=>[.ptr f.1 0 0 0]))
 FR:FrAt st m.l I.fl
 O:m.out≠[]->st[I.o]?=some (.rows I.ov 1 (ints m.out))
 M:st[I.mp]?=some (.map opsT)
 lp:I.lab I.p=.p
 lg:I.lab I.g=.g
 lf:I.lab I.fq=.fs
 lo:m.out≠[]->I.lab I.o=.o
 lm:I.lab I.mp=.mp
 ls:I.lab I.s=.st
 lq:m.s≠[]->I.lab I.q=.st
 li:∀i∈I.ids,I.lab i=.st
 lr:∀i∈idsF I.fl,I.lab i=.fr
 nd:(idsF I.fl).Nodup
 low:∀i,I.lab i≠.no->lim<=i
variable {x:XD}{cl:AV}{lim:Nat}{m:Ms}{I:Ids}{st st':Store}{f:Fr}{l:List Fr}
theorem FrAt.keep:∀{l:List Fr}{fl:List (Nat×Nat)},FrAt st l fl->(∀i∈idsF fl,st'[i]?=st[i]?)->FrAt st' l fl
 |[],[],_,_=>trivial
 |f::l,a::b,h,k=>⟨by rw[k a.1 (by simp[idsF])];exact h.1,by rw[k a.2 (by simp[idsF])];exact h.2.1,FrAt.keep h.2.2 fun i hi=>k i (by simp only[idsF,List.flatMap_cons,List.mem_append];exact .inr hi)⟩
 |[],_::_,h,_=>h.elim
 |_::_,[],h,_=>h.elim
theorem FrAt.len:∀{l:List Fr}{fl:List (Nat×Nat)},FrAt st l fl->fl.length=l.length
 |[],[],_=>rfl
 |_::_,_::_,h=>by simp[FrAt.len h.2.2]
 |[],_::_,h=>h.elim
 |_::_,[],h=>h.elim
theorem FrAt.lt:∀{l:List Fr}{fl:List (Nat×Nat)},FrAt st l fl->∀i∈idsF fl,i<st.length
 |[],[],_=>by simp[idsF]
 |_::_,a::b,h=>by
  intro i hi
  simp only[idsF,List.flatMap_cons,List.mem_append]at hi
  rcases hi with hi|hi
  ·simp at hi
   rcases hi with rfl|rfl
   ·exact(List.getElem?_eq_some_iff.1 h.1).1
   ·exact(List.getElem?_eq_some_iff.1 h.2.1).1
  ·exact FrAt.lt h.2.2 i hi
 |[],_::_,h=>h.elim
 |_::_,[],h=>h.elim
theorem ne_lab{L:Nat->Lb}{a b:Nat}{c d:Lb}(h1:L a=c)(h2:L b=d)(h:c≠d):a≠b:=fun e=>h (by rw[<-h1,<-h2,e])
theorem _root_.U10.Rp.keep{p q v:Nat}{T:List (List Int)}{ids:List Nat}(h:U10.Rp st p T q v ids)(h1:st'[p]?=st[p]?)(h2:T≠[]->st'[q]?=st[q]?)(h3:∀i∈ids,st'[i]?=st[i]?):U10.Rp st' p T q v ids:=
 ⟨h.len,by rw[h1];exact h.obj,fun hT=>by rw[h2 hT];exact h.lst hT,fun k hk hk2=>by rw[h3 _ (List.getElem_mem hk)];exact h.el k hk hk2,h.pq,h.pn,h.qn,h.nd⟩
theorem _root_.U10.Rp.lt{p q v:Nat}{T:List (List Int)}{ids:List Nat}(h:U10.Rp st p T q v ids):p<st.length/\(T≠[]->q<st.length)/\∀i∈ids,i<st.length:=
 ⟨(List.getElem?_eq_some_iff.1 h.obj).1,fun hT=>(List.getElem?_eq_some_iff.1 (h.lst hT)).1,fun i hi=>by
  obtain⟨k,hk,rfl⟩:=List.mem_iff_getElem.1 hi
  exact(List.getElem?_eq_some_iff.1 (h.el k hk (by rw[<-h.len];exact hk))).1⟩
theorem lt_of{i:Nat}{o:AObj}(h:st[i]?=some o):i<st.length:=(List.getElem?_eq_some_iff.1 h).1
theorem Rep.app(h:Rep x cl lim m I st)(t:Store):Rep x cl lim m I (st++t):=by
 have k:∀i,i<st.length->(st++t)[i]?=st[i]?:=fun i hi=>List.getElem?_append_left hi
 have s:=h.S.lt
 refine⟨?_,h.iv,h.S.keep (k _ s.1) (fun e=>k _ (s.2.1 e)) (fun i hi=>k i (s.2.2 i hi)),?_,?_,h.FR.keep fun i hi=>k i (h.FR.lt i hi),fun e=>?_,?_,h.lp,h.lg,h.lf,h.lo,h.lm,h.ls,h.lq,h.li,h.lr,h.nd,h.low⟩
 ·rw[k _ (lt_of h.P)];exact h.P
 ·rw[k _ (lt_of h.G)];exact h.G
 ·rw[k _ (lt_of h.F)];exact h.F
 ·rw[k _ (lt_of (h.O e))];exact h.O e
 ·rw[k _ (lt_of h.M)];exact h.M
theorem Rep.row(h:Rep x cl lim m I st)(m':Ms)(iv':AV)(hs:m'.s=m.s)(hg:m'.g=m.g)(hl:m'.l=m.l)(ho:m'.out=m.out)(hi:isI iv'=true/\notOwn iv'=true/\dI iv'=m'.inp) :
  Rep x cl lim m' { I with iv:=iv' } (st.set I.p (.rows 0 15 [mRow x cl I.s iv' I.g (.mu I.fq I.fv) I.mp m'.e m'.code (if m'.out=[] then .nilSl else .mu I.o I.ov) m'.steps])):=by
 have k:∀i,I.lab i≠.p->(st.set I.p (.rows 0 15 [mRow x cl I.s iv' I.g (.mu I.fq I.fv) I.mp m'.e m'.code (if m'.out=[] then .nilSl else .mu I.o I.ov) m'.steps]))[i]?=st[i]?:=fun i hi=>
  List.getElem?_set_ne fun e=>hi (by rw[<-e];exact h.lp)
 refine⟨List.getElem?_set_self (lt_of h.P),hi,?_,?_,?_,?_,fun e=>?_,?_,h.lp,h.lg,h.lf,by rw[ho];exact h.lo,h.lm,h.ls,by rw[hs];exact h.lq,h.li,h.lr,h.nd,h.low⟩
 ·rw[hs]
  exact h.S.keep (k _ (by rw[h.ls];decide)) (fun e=>k _ (by rw[h.lq e];decide)) (fun i hi=>k i (by rw[h.li i hi];decide))
 ·rw[hg,k _ (by rw[h.lg];decide)];exact h.G
 ·show _=some (AObj.rows I.fv 1 _)
  rw[k _ (by rw[h.lf];decide)];exact h.F
 ·rw[hl];exact h.FR.keep fun i hi=>k i (by rw[h.lr i hi];decide)
 ·have e':m.out≠[]:=by rw[<-ho];exact e
  exact(k I.o (by rw[h.lo e'];decide)).trans (by rw[ho];exact h.O e')
 ·rw[k _ (by rw[h.lm];decide)];exact h.M
theorem Rep.top(h:Rep x cl lim m I st)(e:m.l=f::l):∃a b,I.fl=a::b/\st[a.1]?=some (.rows 0 4 [fRow f a.2])/\st[a.2]?=some (.rows 0 1 (ints f.vs))/\FrAt st l b/\a.1≠a.2/\I.lab a.1=.fr/\I.lab a.2=.fr/\
  (∀i∈idsF b,i≠a.1/\i≠a.2):=by
 have h1:=h.FR
 rw[e]at h1
 cases hf:I.fl with
 |nil=>rw[hf]at h1;exact h1.elim
 |cons a b=>
  rw[hf]at h1
  have h2:=h.nd
  have h3:=h.lr
  rw[hf]at h2 h3
  simp only[idsF,List.flatMap_cons,List.cons_append,List.nil_append,List.nodup_cons,List.mem_cons,not_or]at h2
  exact⟨a,b,rfl,h1.1,h1.2.1,h1.2.2,h2.1.1,h3 _ (by simp[idsF]),h3 _ (by simp[idsF]),fun i hi=>⟨fun e=>h2.1.2 (e ▸ hi),fun e=>h2.2.1 (e ▸ hi)⟩⟩
theorem Rep.frame(h:Rep x cl lim m I st){f':Fr}(e:m.l=f::l){a:Nat×Nat}{b:List (Nat×Nat)}(ha:I.fl=a::b)(k:∀i,i≠a.1->i≠a.2->st'[i]?=st[i]?)
  (h1:st'[a.1]?=some (.rows 0 4 [fRow f' a.2]))(h2:st'[a.2]?=some (.rows 0 1 (ints f'.vs))):Rep x cl lim { m with l:=f'::l } I st':=by
 obtain⟨a',b',ha',g1,g2,g3,g4,g5,g6,g7⟩:=h.top e
 rw[ha]at ha';cases ha'
 have k':∀i,I.lab i≠.fr->st'[i]?=st[i]?:=fun i hi=>k i (fun e=>hi (by rw[e];exact g5)) (fun e=>hi (by rw[e];exact g6))
 refine⟨?_,h.iv,h.S.keep (k' _ (by rw[h.ls];decide)) (fun e=>k' _ (by rw[h.lq e];decide)) (fun i hi=>k' i (by rw[h.li i hi];decide)),?_,?_,?_,fun e=>?_,?_,h.lp,h.lg,h.lf,h.lo,h.lm,h.ls,h.lq,h.li,h.lr,h.nd,h.low⟩
 ·rw[k' _ (by rw[h.lp];decide)];exact h.P
 ·rw[k' _ (by rw[h.lg];decide)];exact h.G
 ·rw[k' _ (by rw[h.lf];decide)];exact h.F
 ·rw[ha]
  exact⟨h1,h2,g3.keep fun i hi=>k i (g7 i hi).1 (g7 i hi).2⟩
 ·rw[k' _ (by rw[h.lo e];decide)];exact h.O e
 ·rw[k' _ (by rw[h.lm];decide)];exact h.M
structure Lts (I:Ids)(m:Ms)(n:Nat):Prop where
 p:I.p<n
 g:I.g<n
 fq:I.fq<n
 mp:I.mp<n
 s:I.s<n
 q:m.s≠[]->I.q<n
 ids:∀i∈I.ids,i<n
 fr:∀i∈idsF I.fl,i<n
 o:m.out≠[]->I.o<n
theorem Rep.lts(h:Rep x cl lim m I st):Lts I m st.length:=
 ⟨lt_of h.P,lt_of h.G,lt_of h.F,lt_of h.M,h.S.lt.1,h.S.lt.2.1,h.S.lt.2.2,h.FR.lt,fun e=>lt_of (h.O e)⟩
theorem Rep.take(h:Rep x cl lim m I st){n:Nat}(k:Lts I m n):Rep x cl lim m I (st.take n):=by
 have kk:∀i,i<n->(st.take n)[i]?=st[i]?:=fun i hi=>by rw[List.getElem?_take,if_pos hi]
 refine⟨?_,h.iv,h.S.keep (kk _ k.s) (fun e=>kk _ (k.q e)) (fun i hi=>kk i (k.ids i hi)),?_,?_,h.FR.keep fun i hi=>kk i (k.fr i hi),fun e=>?_,?_,h.lp,h.lg,h.lf,h.lo,h.lm,h.ls,h.lq,h.li,h.lr,h.nd,h.low⟩
 ·rw[kk _ k.p];exact h.P
 ·rw[kk _ k.g];exact h.G
 ·rw[kk _ k.fq];exact h.F
 ·rw[kk _ (k.o e)];exact h.O e
 ·rw[kk _ k.mp];exact h.M
theorem Rep.cut(h:Rep x cl lim m I st){m':Ms}(r:Rep x cl lim m' I st')(hs:m'.s=[]↔m.s=[])(ho:m'.out=[]↔m.out=[]):Rep x cl lim m' I (st'.take st.length):=by
 have k:=h.lts
 exact r.take ⟨k.p,k.g,k.fq,k.mp,k.s,fun e=>k.q fun q=>e (hs.2 q),k.ids,k.fr,fun e=>k.o fun q=>e (ho.2 q)⟩
theorem set_so(n v:Int):(setM m n v).s=m.s/\(setM m n v).out=m.out:=by unfold setM;split<;>exact⟨rfl,rfl⟩
theorem trap_so(c:Int):(trapM m c).s=m.s/\(trapM m c).out=m.out:=by unfold trapM;split<;>exact⟨rfl,rfl⟩
theorem got_so(n:Int)(c:Int×Int):(gotM m n c).s=m.s/\(gotM m n c).out=m.out:=by
 unfold gotM
 split
 ·exact set_so _ _
 ·exact trap_so _
end E14
namespace E14
open Ax Go Code14z IrV Mach
variable {x:XD}{cl:AV}{lim:Nat}{m:Ms}{I:Ids}{st st':Store}{f:Fr}{l:List Fr}
theorem Rep.fl(h:Rep x cl lim m I st){a:Nat×Nat}{b:List (Nat×Nat)}(ha:I.fl=a::b)(hd:m.l.length<=1000) :
  ∃R:List (List AV),st[I.fq]?=some (.rows I.fv 1 (R++[[.ptr a.1 0 0 0]]))/\R.length=b.length/\(R++[[AV.ptr a.1 0 0 0]])[b.length]?=some [.ptr a.1 0 0 0]/\b.length<=1000/\R=b.reverse.map fun f=>[.ptr f.1 0 0 0]:=by
 have hF:=h.F
 have hn:=h.FR.len
 rw[ha]at hF hn
 simp only[List.reverse_cons,List.map_append,List.map_cons,List.map_nil]at hF
 simp at hn
 exact⟨_,hF,by simp,by simp,by omega,rfl⟩
theorem top_ok(wl li:Nat)(h:Rep x cl lim m I st){a:Nat×Nat}{b:List (Nat×Nat)}(ha:I.fl=a::b)(hd:m.l.length<=1000) :
  (orcL S).call wl li 22 [.ptr I.p 0 0 0] st=some (.ptr a.1 0 0 0,st):=by
 have hP:=h.P
 obtain⟨R,hF,hR,hg,hb,_⟩:=h.fl ha hd
 have hw:IntKind.i64.wrap (b.length:Int)=(b.length:Int):=by rw[wrap64]<;>omega
 have hlt:(b.length:Int)<(b.length:Int)+1:=by omega
 refine call_run (sf:=s22) rfl rfl rfl ?_
 simp[s22,hP,hF,mRow,cut,W_draw0,noBoxes,hR,hw,hlt]
theorem v_ok(wl li:Nat)(h:Rep x cl lim m I st)(e:m.l=f::l)(hd:m.l.length<=1000)(n:Int)(hn:inV f.vs.length n) :
  (orcL S).call wl li 108 [.ptr I.p 0 0 0,.int .i64 n] st=some (.int .i64 (vAt f.vs n),st):=by
 obtain⟨a,b,ha,h1,h2,_⟩:=h.top e
 have ht:=fun wl li=>top_ok wl li h ha hd
 obtain⟨k,rfl⟩:∃k:Nat,n=k:=⟨n.toNat,by have:=hn.1;omega⟩
 have hk:k<f.vs.length:=by have:=hn.2;omega
 refine call_run (sf:=s108) rfl rfl rfl ?_
 simp[s108,ht,h1,h2,fRow,cut,hk,vAt]
theorem set_ok(h:Rep x cl lim m I st)(e:m.l=f::l)(hd:m.l.length<=1000)(n v:Int)(hn:inV f.vs.length n) :
  ∃st',st'.length=st.length/\(∀li,(orcL S).call 0 li 107 [.ptr I.p 0 0 0,.int .i64 n,.int .i64 v] st=some (.tup [],st'))/\Rep x cl lim (setM m n v) I st':=by
 obtain⟨a,b,ha,h1,h2,h3,h4,h5,h6,h7⟩:=h.top e
 have ht:=fun wl li=>top_ok wl li h ha hd
 obtain⟨k,rfl⟩:∃k:Nat,n=k:=⟨n.toNat,by have:=hn.1;omega⟩
 have hk:k<f.vs.length:=by have:=hn.2;omega
 have hs:(ints f.vs).set k [.int .i64 v]=ints (f.vs.set k v):=by simp[ints,List.map_set]
 have hlt:=lt_of h2
 have htk:∀y,List.take st.length (st.set a.2 y)=st.set a.2 y:=fun y=>List.take_of_length_le (by simp)
 refine⟨st.set a.2 (.rows 0 1 (ints (f.vs.set k v))),by simp,fun li=>?_,?_⟩
 ·refine call_run (sf:=s107) rfl rfl rfl ?_
  simp[s107,ht,h1,h2,fRow,cut,hk,mayWrite,AV.allPure,AV.isPure,paste,hs,htk]
 ·have em:setM m (k:Int) v={ m with l:={ f with vs:=f.vs.set k v }::l }:=by unfold setM;rw[e];rfl
  rw[em]
  exact h.frame e ha (fun i i1 i2=>List.getElem?_set_ne (fun q=>i2 q.symm)) (by rw[List.getElem?_set_ne (fun q=>h4 q.symm)];exact h1) (List.getElem?_set_self hlt)
theorem trap_ok(h:Rep x cl lim m I st)(c:Int) :
  ∃st',st'.length=st.length/\(∀li,(orcL S).call 0 li 113 [.ptr I.p 0 0 0,.int .i64 c] st=some (.bool (decide (c≠0)),st'))/\Rep x cl lim (trapM m c) I st'/\(c=0->st'=st):=by
 by_cases c0:c=0
 ·subst c0
  refine⟨st,rfl,fun li=>?_,h,fun _=>rfl⟩
  refine call_run (sf:=s113) rfl rfl rfl ?_
  simp[s113]
 ·have hP:=h.P
  have hlt:=lt_of hP
  have hr:=h.row (trapM m c) I.iv (by simp[trapM,c0]) (by simp[trapM,c0]) (by simp[trapM,c0]) (by simp[trapM,c0]) (by simp[trapM,c0];exact h.iv)
  refine⟨_,?_,fun li=>?_,hr,fun q=>absurd q c0⟩
  ·simp
  ·refine call_run (sf:=s113) rfl rfl rfl ?_
   have htk:∀y,List.take st.length (st.set I.p y)=st.set I.p y:=fun y=>List.take_of_length_le (by simp)
   have hss:∀y z,(st.set I.p y).set I.p z=st.set I.p z:=fun y z=>List.set_set ..
   have hgs:∀y,(st.set I.p y)[I.p]?=some y:=fun y=>List.getElem?_set_self hlt
   simp[s113,c0,hP,mRow,mayWrite,AV.allPure,AV.isPure,paste,htk,hss,hgs,trapM]
end E14
namespace E14
open Ax Go Code14z IrV Mach
theorem flag_ok(wl li:Nat)(b:Bool)(st:Store):(orcL S).call wl li 143 [.bool b] st=some (.int .i64 (flagI b),st):=by
 refine call_pure (sf:=s143) rfl rfl rfl rfl rfl ?_
 cases b<;>simp[s143,flagI]
theorem bin_ok(wl li:Nat)(op a b:Int)(st:Store):(orcL S).call wl li 110 [.int .i64 op,.int .i64 a,.int .i64 b] st=some (.tup [.int .i64 (binI op a b).1,.int .i64 (binI op a b).2],st):=by
 have hf:=fun wl li b st=>flag_ok wl li b st
 refine call_pure (sf:=s110) rfl rfl rfl rfl rfl ?_
 unfold binI
 by_cases h14:op=14
 ·subst h14;simp[s110]
 by_cases h15:op=15
 ·subst h15;simp[s110]
 by_cases h16:op=16
 ·subst h16;simp[s110]
 by_cases h17:op=17
 ·subst h17
  by_cases b0:b=0
  ·subst b0;simp[s110]
  ·simp[s110,b0]
 by_cases h18:op=18
 ·subst h18
  by_cases b0:b=0
  ·subst b0;simp[s110]
  ·simp[s110,b0]
 by_cases h19:op=19
 ·subst h19;simp[s110,hf]
 by_cases h20:op=20
 ·subst h20;simp[s110,hf]
 by_cases h21:op=21
 ·subst h21;simp[s110,hf]
 by_cases h22:op=22
 ·subst h22;simp[s110,hf]
 by_cases h23:op=23
 ·subst h23
  by_cases a0:a=0
  ·subst a0;simp[s110,hf]
  ·by_cases b0:b=0
   ·subst b0;simp[s110,hf,a0]
   ·simp[s110,hf,a0,b0]
 by_cases h24:op=24
 ·subst h24
  by_cases a0:a=0
  ·subst a0
   by_cases b0:b=0
   ·subst b0;simp[s110,hf]
   ·simp[s110,hf,b0]
  ·simp[s110,hf,a0]
 simp[s110,h14,h15,h16,h17,h18,h19,h20,h21,h22,h23,h24]
theorem un_ok(wl li:Nat)(op a:Int)(st:Store):(orcL S).call wl li 111 [.int .i64 op,.int .i64 a] st=some (.int .i64 (unI op a),st):=by
 have hf:=fun wl li b st=>flag_ok wl li b st
 refine call_pure (sf:=s111) rfl rfl rfl rfl rfl ?_
 unfold unI
 by_cases h12:op=12
 ·subst h12;simp[s111]
 by_cases h13:op=13
 ·subst h13;simp[s111,hf]
 simp[s111,h12,h13]
variable {x:XD}{cl:AV}{lim:Nat}{m:Ms}{I:Ids}{st st':Store}{f:Fr}{l:List Fr}
theorem gotf_ok(h:Rep x cl lim m I st)(e:m.l=f::l)(hd:m.l.length<=1000)(n v c:Int)(hn:inV f.vs.length n){b1 b2:Nat}(hb1:st[b1]?=some (.rows 0 1 [[.ptr I.p 0 0 0]]))(hb2:st[b2]?=some (.rows 0 1 [[.int .i64 n]])) :
  ∃st',st'.length=st.length/\(∀li,(orcL S).call 0 li 142 [.int .i64 v,.int .i64 c,.ptr b1 0 0 0,.ptr b2 0 0 0] st=some (.tup [],st'))/\Rep x cl lim (gotM m n (v,c)) I st':=by
 obtain⟨s1,l1,t1,r1,z1⟩:=trap_ok h c
 by_cases c0:c=0
 ·have e1:=z1 c0
  subst e1
  obtain⟨s2,l2,t2,r2⟩:=set_ok h e hd n v hn
  have hm:trapM m c=m:=by simp[trapM,c0]
  have hg:gotM m n (v,c)=setM m n v:=by simp[gotM,c0]
  have htk:List.take s1.length s2=s2:=List.take_of_length_le (by omega)
  refine⟨s2,l2,fun li=>?_,by rw[hg];exact r2⟩
  refine call_run (sf:=s142) rfl rfl rfl ?_
  subst c0
  simp[s142,hb1,hb2,cut,t1,t2,htk]
 ·have hg:gotM m n (v,c)=trapM m c:=by simp[gotM,c0]
  have htk:List.take st.length s1=s1:=List.take_of_length_le (by omega)
  refine⟨s1,l1,fun li=>?_,by rw[hg];exact r1⟩
  refine call_run (sf:=s142) rfl rfl rfl ?_
  simp[s142,hb1,cut,t1,c0,htk]
theorem got_ok(wl li p:Nat)(n:Int)(st:Store):(orcL S).call wl li 109 [.ptr p 0 0 0,.int .i64 n] st =
  some (.fn 142 [] [.ptr st.length 0 0 0,.ptr (st.length+1) 0 0 0],st++[.rows 0 1 [[.ptr p 0 0 0]],.rows 0 1 [[.int .i64 n]]]):=by
 refine call_run (sf:=s109) rfl rfl rfl ?_
 simp[s109]
end E14
namespace E14
open Ax Go Code14z IrV Mach
variable {x:XD}{cl:AV}{lim:Nat}{m:Ms}{I:Ids}{st st':Store}{f:Fr}{l:List Fr}{i:ID}
theorem constant_ok(h:Rep x cl lim m I st)(e:m.l=f::l)(hd:m.l.length<=1000)(hi:isI i.args=true)(hno:notOwn i.args=true)(hn:inV f.vs.length i.a) :
  ∃st',st'.length=st.length/\(∀li,(orcL S).call 0 li 50 [.ptr I.p 0 0 0,.agg i.cells] st=some (.tup [],st'))/\Rep x cl lim (setM m i.a i.n) I st':=by
 have hs:=isSl_I hi
 have hv:=view_notOwn hno hs
 obtain⟨s1,l1,t1,r1⟩:=set_ok h e hd i.a i.n hn
 have htk:List.take st.length s1=s1:=List.take_of_length_le (by omega)
 refine⟨s1,l1,fun li=>?_,r1⟩
 refine call_run (sf:=s50) rfl rfl rfl ?_
 simp[s50,ID.cells,hs,t1,htk]
theorem null_ok(h:Rep x cl lim m I st)(e:m.l=f::l)(hd:m.l.length<=1000)(hi:isI i.args=true)(hno:notOwn i.args=true)(hn:inV f.vs.length i.a) :
  ∃st',st'.length=st.length/\(∀li,(orcL S).call 0 li 51 [.ptr I.p 0 0 0,.agg i.cells] st=some (.tup [],st'))/\Rep x cl lim (setM m i.a 0) I st':=by
 have hs:=isSl_I hi
 have hv:=view_notOwn hno hs
 obtain⟨s1,l1,t1,r1⟩:=set_ok h e hd i.a 0 hn
 have htk:List.take st.length s1=s1:=List.take_of_length_le (by omega)
 refine⟨s1,l1,fun li=>?_,r1⟩
 refine call_run (sf:=s51) rfl rfl rfl ?_
 simp[s51,ID.cells,hs,t1,htk]
theorem copies_ok(h:Rep x cl lim m I st)(e:m.l=f::l)(hd:m.l.length<=1000)(hi:isI i.args=true)(hno:notOwn i.args=true)(hn:inV f.vs.length i.a)(hb:inV f.vs.length i.b) :
  ∃st',st'.length=st.length/\(∀li,(orcL S).call 0 li 52 [.ptr I.p 0 0 0,.agg i.cells] st=some (.tup [],st'))/\Rep x cl lim (setM m i.a (vAt f.vs i.b)) I st':=by
 have hs:=isSl_I hi
 have hv:=view_notOwn hno hs
 obtain⟨s1,l1,t1,r1⟩:=set_ok h e hd i.a (vAt f.vs i.b) hn
 have v1:=fun wl li=>v_ok wl li h e hd i.b hb
 have htk:List.take st.length s1=s1:=List.take_of_length_le (by omega)
 refine⟨s1,l1,fun li=>?_,r1⟩
 refine call_run (sf:=s52) rfl rfl rfl ?_
 simp[s52,ID.cells,hs,t1,v1,htk,W_draw0,noBoxes]
theorem two_ok(h:Rep x cl lim m I st)(e:m.l=f::l)(hd:m.l.length<=1000)(hi:isI i.args=true)(hno:notOwn i.args=true)(hn:inV f.vs.length i.a)(hb:inV f.vs.length i.b)(hc:inV f.vs.length i.c) :
  ∃st',st'.length=st.length/\(∀li,(orcL S).call 0 li 53 [.ptr I.p 0 0 0,.agg i.cells] st=some (.tup [],st'))/\Rep x cl lim (gotM m i.a (binI i.n (vAt f.vs i.b) (vAt f.vs i.c))) I st':=by
 have hs:=isSl_I hi
 have hv:=view_notOwn hno hs
 have hA:=h.app [.rows 0 1 [[.ptr I.p 0 0 0]],.rows 0 1 [[.int .i64 i.a]]]
 obtain⟨s1,l1,t1,r1⟩:=gotf_ok hA e hd i.a (binI i.n (vAt f.vs i.b) (vAt f.vs i.c)).1 (binI i.n (vAt f.vs i.b) (vAt f.vs i.c)).2 hn (b1:=st.length) (b2:=st.length+1) (by simp) (by simp)
 have v1:=fun wl li=>v_ok wl li hA e hd i.b hb
 have v2:=fun wl li=>v_ok wl li hA e hd i.c hc
 have gg:=fun wl li=>got_ok wl li I.p i.a st
 have bb:=fun wl li st=>bin_ok wl li i.n (vAt f.vs i.b) (vAt f.vs i.c) st
 refine⟨s1.take st.length,?_,fun li=>?_,?_⟩
 ·simp at l1;simp;omega
 ·refine call_run (sf:=s53) rfl rfl rfl ?_
  simp[s53,ID.cells,hs,gg,v1,v2,bb,t1,W_draw0,noBoxes]
 ·exact h.cut r1 (by rw[(got_so _ _).1]) (by rw[(got_so _ _).2])
theorem one_ok(h:Rep x cl lim m I st)(e:m.l=f::l)(hd:m.l.length<=1000)(hi:isI i.args=true)(hno:notOwn i.args=true)(hn:inV f.vs.length i.a)(hb:inV f.vs.length i.b) :
  ∃st',st'.length=st.length/\(∀li,(orcL S).call 0 li 54 [.ptr I.p 0 0 0,.agg i.cells] st=some (.tup [],st'))/\Rep x cl lim (setM m i.a (unI i.n (vAt f.vs i.b))) I st':=by
 have hs:=isSl_I hi
 have hv:=view_notOwn hno hs
 obtain⟨s1,l1,t1,r1⟩:=set_ok h e hd i.a (unI i.n (vAt f.vs i.b)) hn
 have v1:=fun wl li=>v_ok wl li h e hd i.b hb
 have uu:=fun wl li st=>un_ok wl li i.n (vAt f.vs i.b) st
 have htk:List.take st.length s1=s1:=List.take_of_length_le (by omega)
 refine⟨s1,l1,fun li=>?_,r1⟩
 refine call_run (sf:=s54) rfl rfl rfl ?_
 simp[s54,ID.cells,hs,t1,v1,uu,htk,W_draw0,noBoxes]
theorem load_eq(T:List (List Int))(r j:Int):loadS T r j=(if U10.trapOf T r j=0 then (T.getD (r-1).toNat []).getD j.toNat 0 else 0,U10.trapOf T r j):=by
 unfold loadS
 have:trapS T r j=U10.trapOf T r j:=rfl
 rw[this]
 split
 ·rename_i h;rw[h]
 ·rfl
theorem ld_ok(wl li:Nat)(h:Rep x cl lim m I st)(hs:m.s.length<1000000)(r j:Int) :
  (orcL S).call wl li 112 [.ptr I.s 0 0 0,.int .i64 r,.int .i64 j] st=some (.tup [.int .i64 (loadS m.s r j).1,.int .i64 (loadS m.s r j).2],st):=by
 rw[load_eq]
 exact U10.load_ok wl li h.S r j (by omega)
theorem load_ok(h:Rep x cl lim m I st)(e:m.l=f::l)(hd:m.l.length<=1000)(hS:m.s.length<1000000)(hi:isI i.args=true)(hno:notOwn i.args=true)(hn:inV f.vs.length i.a)(hb:inV f.vs.length i.b) :
  ∃st',st'.length=st.length/\(∀li,(orcL S).call 0 li 55 [.ptr I.p 0 0 0,.agg i.cells] st=some (.tup [],st'))/\Rep x cl lim (gotM m i.a (loadS m.s (vAt f.vs i.b) i.c)) I st':=by
 have hs:=isSl_I hi
 have hv:=view_notOwn hno hs
 have hA:=h.app [.rows 0 1 [[.ptr I.p 0 0 0]],.rows 0 1 [[.int .i64 i.a]]]
 obtain⟨s1,l1,t1,r1⟩:=gotf_ok hA e hd i.a (loadS m.s (vAt f.vs i.b) i.c).1 (loadS m.s (vAt f.vs i.b) i.c).2 hn (b1:=st.length) (b2:=st.length+1) (by simp) (by simp)
 have v1:=fun wl li=>v_ok wl li hA e hd i.b hb
 have gg:=fun wl li=>got_ok wl li I.p i.a st
 have bb:=fun wl li=>ld_ok wl li hA hS (vAt f.vs i.b) i.c
 have hP:=hA.P
 refine⟨s1.take st.length,?_,fun li=>?_,?_⟩
 ·simp at l1;simp;omega
 ·have hP0:=h.P
  have hP1:=r1.P
  refine call_run (sf:=s55) rfl rfl rfl ?_
  simp[s55,ID.cells,hs]
  rw[W_drawP]
  simp[evalRec,pairOk,readsSame,boxOk,SOp.newBox,gg,hP,mRow,cut,v1,bb,t1]
  refine⟨_,_,⟨rfl,rfl⟩,?_⟩
  simp[hP0,hP,mRow,cut,oneOrAgg,AV.viewL,AV.view,Ent.same,AV.same]
 ·exact h.cut r1 (by rw[(got_so _ _).1]) (by rw[(got_so _ _).2])
theorem item_ok(h:Rep x cl lim m I st)(e:m.l=f::l)(hd:m.l.length<=1000)(hS:m.s.length<1000000)(hi:isI i.args=true)(hno:notOwn i.args=true)(hn:inV f.vs.length i.a)(hb:inV f.vs.length i.b)(hc:inV f.vs.length i.c) :
  ∃st',st'.length=st.length/\(∀li,(orcL S).call 0 li 57 [.ptr I.p 0 0 0,.agg i.cells] st=some (.tup [],st'))/\Rep x cl lim (gotM m i.a (loadS m.s (vAt f.vs i.b) (vAt f.vs i.c))) I st':=by
 have hs:=isSl_I hi
 have hv:=view_notOwn hno hs
 have hA:=h.app [.rows 0 1 [[.ptr I.p 0 0 0]],.rows 0 1 [[.int .i64 i.a]]]
 obtain⟨s1,l1,t1,r1⟩:=gotf_ok hA e hd i.a (loadS m.s (vAt f.vs i.b) (vAt f.vs i.c)).1 (loadS m.s (vAt f.vs i.b) (vAt f.vs i.c)).2 hn (b1:=st.length) (b2:=st.length+1) (by simp) (by simp)
 have v1:=fun wl li=>v_ok wl li hA e hd i.b hb
 have v2:=fun wl li=>v_ok wl li hA e hd i.c hc
 have gg:=fun wl li=>got_ok wl li I.p i.a st
 have bb:=fun wl li=>ld_ok wl li hA hS (vAt f.vs i.b) (vAt f.vs i.c)
 have hP:=hA.P
 refine⟨s1.take st.length,?_,fun li=>?_,?_⟩
 ·simp at l1;simp;omega
 ·have hP0:=h.P
  have hP1:=r1.P
  refine call_run (sf:=s57) rfl rfl rfl ?_
  simp[s57,ID.cells,hs]
  rw[W_drawP]
  simp[evalRec,pairOk,readsSame,boxOk,SOp.newBox,gg,hP,mRow,cut,v1,v2,bb,t1]
  refine⟨_,_,⟨rfl,rfl⟩,?_⟩
  simp[hP0,hP,mRow,cut,oneOrAgg,AV.viewL,AV.view,Ent.same,AV.same]
 ·exact h.cut r1 (by rw[(got_so _ _).1]) (by rw[(got_so _ _).2])
theorem len_ok(wl li:Nat)(h:Rep x cl lim m I st)(hs:m.s.length<1000000)(r:Int) :
  (orcL S).call wl li 115 [.ptr I.s 0 0 0,.int .i64 r] st=some (.tup [.int .i64 (lenS m.s r).1,.int .i64 (lenS m.s r).2],st):=by
 rw[U10.len_ok wl li h.S r (by omega)]
 unfold lenS
 split<;>rfl
theorem length_ok(h:Rep x cl lim m I st)(e:m.l=f::l)(hd:m.l.length<=1000)(hS:m.s.length<1000000)(hi:isI i.args=true)(hno:notOwn i.args=true)(hn:inV f.vs.length i.a)(hb:inV f.vs.length i.b) :
  ∃st',st'.length=st.length/\(∀li,(orcL S).call 0 li 59 [.ptr I.p 0 0 0,.agg i.cells] st=some (.tup [],st'))/\Rep x cl lim (gotM m i.a (lenS m.s (vAt f.vs i.b))) I st':=by
 have hs:=isSl_I hi
 have hv:=view_notOwn hno hs
 have hA:=h.app [.rows 0 1 [[.ptr I.p 0 0 0]],.rows 0 1 [[.int .i64 i.a]]]
 obtain⟨s1,l1,t1,r1⟩:=gotf_ok hA e hd i.a (lenS m.s (vAt f.vs i.b)).1 (lenS m.s (vAt f.vs i.b)).2 hn (b1:=st.length) (b2:=st.length+1) (by simp) (by simp)
 have v1:=fun wl li=>v_ok wl li hA e hd i.b hb
 have gg:=fun wl li=>got_ok wl li I.p i.a st
 have bb:=fun wl li=>len_ok wl li hA hS (vAt f.vs i.b)
 have hP:=hA.P
 refine⟨s1.take st.length,?_,fun li=>?_,?_⟩
 ·simp at l1;simp;omega
 ·have hP0:=h.P
  have hP1:=r1.P
  refine call_run (sf:=s59) rfl rfl rfl ?_
  simp[s59,ID.cells,hs]
  rw[W_drawP]
  simp[evalRec,pairOk,readsSame,boxOk,SOp.newBox,gg,hP,mRow,cut,v1,bb,t1]
  refine⟨_,_,⟨rfl,rfl⟩,?_⟩
  simp[hP0,hP,mRow,cut,oneOrAgg,AV.viewL,AV.view,Ent.same,AV.same]
 ·exact h.cut r1 (by rw[(got_so _ _).1]) (by rw[(got_so _ _).2])
theorem get_ok(h:Rep x cl lim m I st)(e:m.l=f::l)(hd:m.l.length<=1000)(hi:isI i.args=true)(hno:notOwn i.args=true)(hn:inV f.vs.length i.a)(hg:0<=i.n/\i.n<(m.g.length:Int)) :
  ∃st',st'.length=st.length/\(∀li,(orcL S).call 0 li 68 [.ptr I.p 0 0 0,.agg i.cells] st=some (.tup [],st'))/\Rep x cl lim (setM m i.a (vAt m.g i.n)) I st':=by
 have hs:=isSl_I hi
 have hv:=view_notOwn hno hs
 obtain⟨s1,l1,t1,r1⟩:=set_ok h e hd i.a (vAt m.g i.n) hn
 have hP:=h.P
 have hG:=h.G
 obtain⟨k,hk⟩:∃k:Nat,i.n=k:=⟨i.n.toNat,by omega⟩
 have hkl:k<m.g.length:=by omega
 have hva:vAt m.g i.n=m.g[k]:=by simp[vAt,hk,hkl]
 rw[hva]at t1 r1 ⊢
 have htk:List.take st.length s1=s1:=List.take_of_length_le (by omega)
 refine⟨s1,l1,fun li=>?_,r1⟩
 refine call_run (sf:=s68) rfl rfl rfl ?_
 simp[s68,ID.cells,hs,t1,hP,hG,mRow,cut,hk,hkl,htk,W_draw0,noBoxes]
end E14
namespace E14
open Ax Go Code14z IrV Mach
variable {x:XD}{cl:AV}{lim:Nat}{m:Ms}{I:Ids}{st st':Store}{f:Fr}{l:List Fr}{i:ID}
theorem Rep.things(h:Rep x cl lim m I st){T:List (List Int)}{q v:Nat}{ids:List Nat}{lab:Nat->Lb}(r:U10.Rp st' I.s T q v ids)(k:∀j,j<st.length->I.lab j≠.st->st'[j]?=st[j]?)
  (hl:∀j,j<st.length->lab j=I.lab j)(lq:T≠[]->lab q=.st)(li:∀j∈ids,lab j=.st)(low:∀j,lab j≠.no->lim<=j) :
  Rep x cl lim { m with s:=T } { I with q:=q,v:=v,ids:=ids,lab:=lab } st':=by
 have b:=h.lts
 refine⟨?_,h.iv,r,?_,?_,h.FR.keep fun j hj=>k j (b.fr j hj) (by rw[h.lr j hj];decide),fun e=>?_,?_,(hl _ b.p).trans h.lp,(hl _ b.g).trans h.lg,(hl _ b.fq).trans h.lf,fun e=>(hl _ (b.o e)).trans (h.lo e),(hl _ b.mp).trans h.lm,(hl _ b.s).trans h.ls,lq,li,
  fun j hj=>(hl _ (b.fr j hj)).trans (h.lr j hj),h.nd,low⟩
 ·exact(k _ b.p (by rw[h.lp];decide)).trans h.P
 ·exact(k _ b.g (by rw[h.lg];decide)).trans h.G
 ·exact(k _ b.fq (by rw[h.lf];decide)).trans h.F
 ·exact(k _ (b.o e) (by rw[h.lo e];decide)).trans (h.O e)
 ·exact(k _ b.mp (by rw[h.lm];decide)).trans h.M
theorem pt_ok(h:Rep x cl lim m I st)(hs:m.s.length<1000000)(r j v:Int) :
  ∃st',st'.length=st.length/\(∀li,(orcL S).call 0 li 114 [.ptr I.s 0 0 0,.int .i64 r,.int .i64 j,.int .i64 v] st=some (.int .i64 (trapS m.s r j),st'))/\Rep x cl lim { m with s:=putS m.s r j v } I st':=by
 obtain⟨s1,t1,r1,f1,l1⟩:=U10.put_ok 0 h.S r j v (by omega)
 have e1:∀T:List (List Int),T.length=m.s.length->(T≠[]↔m.s≠[]):=fun T hT=>by
  constructor
  ·intro a b;rw[b]at hT;exact a (List.eq_nil_of_length_eq_zero hT)
  ·intro a b;rw[b]at hT;exact a (List.eq_nil_of_length_eq_zero hT.symm)
 have hp:U10.putT m.s r j v=putS m.s r j v:=rfl
 refine⟨s1,l1,t1,?_⟩
 rw[hp]at r1
 exact h.things (st':=s1) r1 (fun k hk hne=>f1.2 k hk fun hm=>hne (h.li k hm)) (fun _ _=>rfl) (fun e=>h.lq ((e1 _ put_len).1 e)) h.li h.low
theorem keep_ok(h:Rep x cl lim m I st)(e:m.l=f::l)(hd:m.l.length<=1000)(hS:m.s.length<1000000)(hi:isI i.args=true)(hno:notOwn i.args=true)(ha:inV f.vs.length i.a)(hb:inV f.vs.length i.b) :
  ∃st',st'.length=st.length/\(∀li,(orcL S).call 0 li 56 [.ptr I.p 0 0 0,.agg i.cells] st=some (.tup [],st'))/\
   Rep x cl lim (trapM { m with s:=putS m.s (vAt f.vs i.a) i.c (vAt f.vs i.b) } (trapS m.s (vAt f.vs i.a) i.c)) I st':=by
 have hs:=isSl_I hi
 have hv:=view_notOwn hno hs
 obtain⟨s1,l1,t1,r1⟩:=pt_ok h hS (vAt f.vs i.a) i.c (vAt f.vs i.b)
 obtain⟨s2,l2,t2,r2,_⟩:=trap_ok r1 (trapS m.s (vAt f.vs i.a) i.c)
 have v1:=fun wl li=>v_ok wl li h e hd i.a ha
 have v2:=fun wl li=>v_ok wl li h e hd i.b hb
 have hP:=h.P
 have htk:List.take st.length s2=s2:=List.take_of_length_le (by omega)
 refine⟨s2,by omega,fun li=>?_,r2⟩
 refine call_run (sf:=s56) rfl rfl rfl ?_
 simp[s56,ID.cells,hs]
 rw[W_drawP]
 simp[evalRec,pairOk,readsSame,boxOk,SOp.newBox,hP,mRow,cut,v1,v2,t1,t2]
 refine⟨_,_,⟨rfl,rfl⟩,?_⟩
 simp[hP,mRow,cut,oneOrAgg,AV.viewL,AV.view,Ent.same,AV.same,htk]
theorem lay_ok(h:Rep x cl lim m I st)(e:m.l=f::l)(hd:m.l.length<=1000)(hS:m.s.length<1000000)(hi:isI i.args=true)(hno:notOwn i.args=true)(ha:inV f.vs.length i.a)(hb:inV f.vs.length i.b)(hc:inV f.vs.length i.c) :
  ∃st',st'.length=st.length/\(∀li,(orcL S).call 0 li 58 [.ptr I.p 0 0 0,.agg i.cells] st=some (.tup [],st'))/\
   Rep x cl lim (trapM { m with s:=putS m.s (vAt f.vs i.a) (vAt f.vs i.b) (vAt f.vs i.c) } (trapS m.s (vAt f.vs i.a) (vAt f.vs i.b))) I st':=by
 have hs:=isSl_I hi
 have hv:=view_notOwn hno hs
 obtain⟨s1,l1,t1,r1⟩:=pt_ok h hS (vAt f.vs i.a) (vAt f.vs i.b) (vAt f.vs i.c)
 obtain⟨s2,l2,t2,r2,_⟩:=trap_ok r1 (trapS m.s (vAt f.vs i.a) (vAt f.vs i.b))
 have v1:=fun wl li=>v_ok wl li h e hd i.a ha
 have v2:=fun wl li=>v_ok wl li h e hd i.b hb
 have v3:=fun wl li=>v_ok wl li h e hd i.c hc
 have hP:=h.P
 have htk:List.take st.length s2=s2:=List.take_of_length_le (by omega)
 refine⟨s2,by omega,fun li=>?_,r2⟩
 refine call_run (sf:=s58) rfl rfl rfl ?_
 simp[s58,ID.cells,hs]
 rw[W_drawP]
 simp[evalRec,pairOk,readsSame,boxOk,SOp.newBox,hP,mRow,cut,v1,v2,v3,t1,t2]
 refine⟨_,_,⟨rfl,rfl⟩,?_⟩
 simp[hP,mRow,cut,oneOrAgg,AV.viewL,AV.view,Ent.same,AV.same,htk]
theorem Rep.place(h:Rep x cl lim m I st)(e:m.l=f::l)(n:Int){a:Nat×Nat}{b:List (Nat×Nat)}(ha:I.fl=a::b):Rep x cl lim (jumpM m n) I (st.set a.1 (.rows 0 4 [fRow { f with at_:=n } a.2])):=by
 obtain⟨a',b',ha',h1,h2,h3,h4,h5,h6,h7⟩:=h.top e
 rw[ha]at ha';cases ha'
 have em:jumpM m n={ m with l:={ f with at_:=n }::l }:=by unfold jumpM;rw[e]
 rw[em]
 exact h.frame e ha (fun i i1 i2=>List.getElem?_set_ne (fun q=>i1 q.symm)) (List.getElem?_set_self (lt_of h1)) (by rw[List.getElem?_set_ne h4];exact h2)
theorem jump_ok(h:Rep x cl lim m I st)(e:m.l=f::l)(hd:m.l.length<=1000)(hi:isI i.args=true)(hno:notOwn i.args=true) :
  ∃st',st'.length=st.length/\(∀li,(orcL S).call 0 li 65 [.ptr I.p 0 0 0,.agg i.cells] st=some (.tup [],st'))/\Rep x cl lim (jumpM m i.n) I st':=by
 have hs:=isSl_I hi
 have hv:=view_notOwn hno hs
 obtain⟨a,b,ha,h1,h2,h3,h4,h5,h6,h7⟩:=h.top e
 have ht:=fun wl li=>top_ok wl li h ha hd
 have htk:∀y,List.take st.length (st.set a.1 y)=st.set a.1 y:=fun y=>List.take_of_length_le (by simp)
 refine⟨_,by simp,fun li=>?_,h.place e i.n ha⟩
 refine call_run (sf:=s65) rfl rfl rfl ?_
 simp[s65,ID.cells,hs,ht,h1,fRow,cut,mayWrite,AV.allPure,AV.isPure,paste,htk,W_draw0,noBoxes]
theorem branch_ok(h:Rep x cl lim m I st)(e:m.l=f::l)(hd:m.l.length<=1000)(hi:isI i.args=true)(hno:notOwn i.args=true)(hn:inV f.vs.length i.a) :
  ∃st',st'.length=st.length/\(∀li,(orcL S).call 0 li 66 [.ptr I.p 0 0 0,.agg i.cells] st=some (.tup [],st'))/\Rep x cl lim (jumpM m (if vAt f.vs i.a≠0 then i.n else i.c)) I st':=by
 have hs:=isSl_I hi
 have hv:=view_notOwn hno hs
 obtain⟨a,b,ha,h1,h2,h3,h4,h5,h6,h7⟩:=h.top e
 have ht:=fun wl li=>top_ok wl li h ha hd
 have v1:=fun wl li=>v_ok wl li h e hd i.a hn
 have htk:∀y,List.take st.length (st.set a.1 y)=st.set a.1 y:=fun y=>List.take_of_length_le (by simp)
 refine⟨_,by simp,fun li=>?_,h.place e _ ha⟩
 refine call_run (sf:=s66) rfl rfl rfl ?_
 by_cases c:vAt f.vs i.a=0
 ·simp[s66,ID.cells,hs,ht,v1,c,h1,fRow,cut,mayWrite,AV.allPure,AV.isPure,paste,htk,W_draw0,noBoxes]
 ·simp[s66,ID.cells,hs,ht,v1,c,h1,fRow,cut,mayWrite,AV.allPure,AV.isPure,paste,htk,W_draw0,noBoxes]
theorem put_ok(h:Rep x cl lim m I st)(e:m.l=f::l)(hd:m.l.length<=1000)(hi:isI i.args=true)(hno:notOwn i.args=true)(hn:inV f.vs.length i.a)(hg:0<=i.n/\i.n<(m.g.length:Int)) :
  ∃st',st'.length=st.length/\(∀li,(orcL S).call 0 li 69 [.ptr I.p 0 0 0,.agg i.cells] st=some (.tup [],st'))/\Rep x cl lim { m with g:=m.g.set i.n.toNat (vAt f.vs i.a) } I st':=by
 have hs:=isSl_I hi
 have hv:=view_notOwn hno hs
 have v1:=fun wl li=>v_ok wl li h e hd i.a hn
 have hP:=h.P
 have hG:=h.G
 obtain⟨k,hk⟩:∃k:Nat,i.n=k:=⟨i.n.toNat,by omega⟩
 have hkl:k<m.g.length:=by omega
 have hs2:(ints m.g).set k [.int .i64 (vAt f.vs i.a)]=ints (m.g.set k (vAt f.vs i.a)):=by simp[ints,List.map_set]
 have htk:∀y,List.take st.length (st.set I.g y)=st.set I.g y:=fun y=>List.take_of_length_le (by simp)
 have kk:∀y j,I.lab j≠.g->(st.set I.g y)[j]?=st[j]?:=fun y j hj=>List.getElem?_set_ne fun q=>hj (by rw[<-q];exact h.lg)
 refine⟨st.set I.g (.rows 0 1 (ints (m.g.set k (vAt f.vs i.a)))),by simp,fun li=>?_,?_⟩
 ·refine call_run (sf:=s69) rfl rfl rfl ?_
  simp[s69,ID.cells,hs]
  rw[W_drawP]
  simp[evalRec,pairOk,readsSame,mayWrite,boxOk,SOp.newBox,hP,hG,mRow,cut,v1,hk,hkl,AV.allPure,AV.isPure,paste]
  refine⟨_,_,⟨rfl,rfl⟩,?_⟩
  simp[hP,mRow,cut,oneOrAgg,AV.viewL,AV.view,Ent.same,AV.same,htk,hs2]
 ·rw[hk,Int.toNat_natCast]
  refine⟨?_,h.iv,h.S.keep (kk _ _ (by rw[h.ls];decide)) (fun e=>kk _ _ (by rw[h.lq e];decide)) (fun i hi=>kk _ i (by rw[h.li i hi];decide)),List.getElem?_set_self (lt_of h.G),?_,h.FR.keep fun i hi=>kk _ i (by rw[h.lr i hi];decide),fun e=>?_,?_,h.lp,h.lg,h.lf,h.lo,h.lm,h.ls,h.lq,h.li,h.lr,h.nd,h.low⟩
  ·exact(kk _ _ (by rw[h.lp];decide)).trans h.P
  ·exact(kk _ _ (by rw[h.lf];decide)).trans h.F
  ·exact(kk _ _ (by rw[h.lo e];decide)).trans (h.O e)
  ·exact(kk _ _ (by rw[h.lm];decide)).trans h.M
end E14
