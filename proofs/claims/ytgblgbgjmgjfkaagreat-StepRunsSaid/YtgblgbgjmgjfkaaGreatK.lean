/-
  runrigref13's machine in memory.
-/
import Derived.Test.YtgblgbgjmgjfkaaGreatG
import Derived.Test.YtgblgbgjmgjfkaaGreatH

set_option maxRecDepth 100000
set_option maxHeartbeats 4000000
namespace E13
open Ax Go Code14z IrV Mach
inductive Lb|no|p|g|o|st|fr|fs
 deriving DecidableEq
structure Ids where
 p:Nat
 q:Nat
 v:Nat
 g:Nat
 o:Nat
 ov:Nat
 ids:List Nat
 nl:Bool
 f:Nat
 fv:Nat
 fl:List (Nat×Nat)
 lab:Nat->Lb
 iv:AV
def lV(s:List (List Int))(q v:Nat):AV:=if s=[] then .nilSl else .mu q v
def oV(o:List Int)(i v:Nat):AV:=if o=[] then .nilSl else .mu i v
def vV(f:Fr)(a:Nat×Nat):AV:=if f.vs=[] then .nilSl else .mu a.1 a.2
def fV(I:Ids):AV:=if I.nl=true then .nilSl else .mu I.f I.fv
def mRow(x:XD)(iv s:AV)(g:Nat)(l:AV)(e code:Int)(out:AV)(steps:Nat):List AV:=
 [x.recs,x.globals,x.codes,x.sites,.int .i64 x.main,iv,s,.mu g 0,l,.int .i64 e,.int .i64 code,out,.int .i64 steps]
def theRow(T:XD)(r:Ms)(I:Ids):List AV:=mRow T I.iv (lV r.s I.q I.v) I.g (fV I) r.e r.code (oV r.out I.o I.ov) r.steps
def fRow(f:Fr)(a:Nat×Nat):List AV:=[.int .i64 f.f,.int .i64 f.at_,.int .i64 f.to,vV f a]
def fRows:List Fr->List (Nat×Nat)->List (List AV)
 |f::l,a::b=>fRow f a::fRows l b
 |_,_=>[]
def FrAt(st:Store):List Fr->List (Nat×Nat)->Prop
 |[],[]=>True
 |f::l,a::b=>(f.vs≠[]->st[a.1]?=some (.rows a.2 1 (ints f.vs)))/\FrAt st l b
 |_,_=>False
def idsF:List Fr->List (Nat×Nat)->List Nat
 |f::l,a::b=>(if f.vs=[] then [] else [a.1])++idsF l b
 |_,_=>[]
structure Rep (T:XD)(lim:Nat)(L:List Fr)(r:Ms)(I:Ids)(st:Store):Prop where
 P:st[I.p]?=some (.rows 0 13 [theRow T r I])
 iv:isI I.iv=true/\notOwn I.iv=true/\dI I.iv=r.inp
 sl:I.ids.length=r.s.length
 S:r.s≠[]->st[I.q]?=some (.rows I.v 1 (I.ids.map fun i=>[.mu i 0]))
 el:∀k (h:k<I.ids.length) (h2:k<r.s.length),st[I.ids[k]]?=some (.rows 0 1 (ints r.s[k]))
 G:st[I.g]?=some (.rows 0 1 (ints r.g))
 FR:FrAt st L I.fl
 O:r.out≠[]->st[I.o]?=some (.rows I.ov 1 (ints r.out))
 lp:I.lab I.p=.p
 lg:I.lab I.g=.g
 lo:r.out≠[]->I.lab I.o=.o
 lq:r.s≠[]->I.lab I.q=.st
 li:∀i∈I.ids,I.lab i=.st
 qn:r.s≠[]->I.q ∉ I.ids
 sn:I.ids.Nodup
 lr:∀i∈idsF L I.fl,I.lab i=.fr
 nd:(idsF L I.fl).Nodup
 low:∀i,I.lab i≠.no->lim<=i
 F:I.nl=false->st[I.f]?=some (.rows I.fv 4 (fRows L I.fl).reverse)
 F0:I.nl=true->L=[]
 lf:I.nl=false->I.lab I.f=.fs
variable {T:XD}{lim:Nat}{L:List Fr}{r:Ms}{I:Ids}{st st':Store}{f:Fr}
theorem FrAt.keep:∀{l:List Fr}{fl:List (Nat×Nat)},FrAt st l fl->(∀i∈idsF l fl,st'[i]?=st[i]?)->FrAt st' l fl
 |[],[],_,_=>trivial
 |f::l,a::b,h,k=>⟨fun e=>by rw[k a.1 (by simp[idsF,e])];exact h.1 e,FrAt.keep h.2 fun i hi=>k i (by simp only[idsF,List.mem_append];exact .inr hi)⟩
 |[],_::_,h,_=>h.elim
 |_::_,[],h,_=>h.elim
theorem lt_of{i:Nat}{o:AObj}(h:st[i]?=some o):i<st.length:=(List.getElem?_eq_some_iff.1 h).1
theorem FrAt.lt:∀{l:List Fr}{fl:List (Nat×Nat)},FrAt st l fl->∀i∈idsF l fl,i<st.length
 |[],[],_=>by simp[idsF]
 |f::_,a::b,h=>by
  intro i hi
  simp only[idsF,List.mem_append]at hi
  rcases hi with hi|hi
  ·by_cases e:f.vs=[]
   ·rw[if_pos e]at hi;simp at hi
   ·rw[if_neg e]at hi
    simp at hi
    rw[hi];exact lt_of (h.1 e)
  ·exact FrAt.lt h.2 i hi
 |[],_::_,h=>h.elim
 |_::_,[],h=>h.elim
structure Lts (L:List Fr)(I:Ids)(r:Ms)(n:Nat):Prop where
 p:I.p<n
 g:I.g<n
 q:r.s≠[]->I.q<n
 ids:∀i∈I.ids,i<n
 fr:∀i∈idsF L I.fl,i<n
 o:r.out≠[]->I.o<n
 f:I.nl=false->I.f<n
theorem Rep.lts(h:Rep T lim L r I st):Lts L I r st.length:=
 ⟨lt_of h.P,lt_of h.G,fun e=>lt_of (h.S e),fun i hi=>by
  obtain⟨k,hk,rfl⟩:=List.mem_iff_getElem.1 hi
  exact lt_of (h.el k hk (by rw[<-h.sl];exact hk)),h.FR.lt,fun e=>lt_of (h.O e),fun e=>lt_of (h.F e)⟩
theorem Rep.lim_le(h:Rep T lim L r I st):lim<=I.p:=h.low _ (by rw[h.lp];decide)
theorem Rep.limN(h:Rep T lim L r I st):lim<=st.length:=Nat.le_trans h.lim_le (Nat.le_of_lt h.lts.p)
theorem Rep.rest(h:Rep T lim L r I st)(k:∀i,i<st.length->I.lab i≠.no->I.lab i≠.p->st'[i]?=st[i]?)(hP:st'[I.p]?=some (.rows 0 13 [theRow T r I])):Rep T lim L r I st':=by
 have B:=h.lts
 have kk:∀i,i<st.length->∀b,I.lab i=b->b≠Lb.no->b≠Lb.p->st'[i]?=st[i]?:=fun i hi b hb hn hp=>k i hi (by rw[hb];exact hn) (by rw[hb];exact hp)
 refine⟨hP,h.iv,h.sl,fun e=>?_,fun j hj hj2=>?_,?_,h.FR.keep fun i hi=>kk i (B.fr i hi) _ (h.lr i hi) (by decide) (by decide),fun e=>?_,h.lp,h.lg,h.lo,h.lq,h.li,h.qn,h.sn,h.lr,h.nd,h.low,fun e=>(kk _ (B.f e) _ (h.lf e) (by decide) (by decide)).trans (h.F e),h.F0,h.lf⟩
 ·rw[kk _ (B.q e) _ (h.lq e) (by decide) (by decide)];exact h.S e
 ·have hm:=List.getElem_mem hj
  rw[kk _ (B.ids _ hm) _ (h.li _ hm) (by decide) (by decide)];exact h.el j hj hj2
 ·rw[kk _ B.g _ h.lg (by decide) (by decide)];exact h.G
 ·rw[kk _ (B.o e) _ (h.lo e) (by decide) (by decide)];exact h.O e
theorem Rep.keep(h:Rep T lim L r I st)(k:∀i,i<st.length->I.lab i≠.no->st'[i]?=st[i]?):Rep T lim L r I st':=
 h.rest (fun i hi hn _=>k i hi hn) (by rw[k _ h.lts.p (by rw[h.lp];decide)];exact h.P)
theorem Rep.app(h:Rep T lim L r I st)(t:Store):Rep T lim L r I (st++t):=h.keep fun _ hi _=>List.getElem?_append_left hi
theorem Rep.row(h:Rep T lim L r I st)(r':Ms)(iv':AV)(hs:r'.s=r.s)(hg:r'.g=r.g)(ho:r'.out=r.out)(hi:isI iv'=true/\notOwn iv'=true/\dI iv'=r'.inp) :
  Rep T lim L r' { I with iv:=iv' } (st.set I.p (.rows 0 13 [theRow T r' { I with iv:=iv' }])):=by
 have k:∀i,I.lab i≠.p->(st.set I.p (.rows 0 13 [theRow T r' { I with iv:=iv' }]))[i]?=st[i]?:=fun i hi=>
  List.getElem?_set_ne fun e=>hi (by rw[<-e];exact h.lp)
 refine⟨List.getElem?_set_self (lt_of h.P),hi,by rw[hs];exact h.sl,fun e=>?_,fun j hj hj2=>?_,?_,?_,fun e=>?_,h.lp,h.lg,by rw[ho];exact h.lo,by rw[hs];exact h.lq,h.li,by rw[hs];exact h.qn,h.sn,h.lr,h.nd,h.low,
  fun e=>(k _ (by rw[h.lf e];decide)).trans (h.F e),h.F0,h.lf⟩
 ·rw[hs]at e
  exact(k I.q (by rw[h.lq e];decide)).trans (h.S e)
 ·have hj2':j<r.s.length:=by rw[<-hs];exact hj2
  have e1:r'.s[j]=r.s[j]:=by simp only[hs]
  rw[e1]
  exact(k _ (by rw[h.li _ (List.getElem_mem hj)];decide)).trans (h.el j hj hj2')
 ·rw[hg];exact(k I.g (by rw[h.lg];decide)).trans h.G
 ·exact h.FR.keep fun i hi=>k i (by rw[h.lr i hi];decide)
 ·rw[ho]at e
  rw[ho]
  exact(k I.o (by rw[h.lo e];decide)).trans (h.O e)
theorem Rep.top(h:Rep T lim (f::L) r I st):∃a b,I.fl=a::b/\(f.vs≠[]->st[a.1]?=some (.rows a.2 1 (ints f.vs))/\I.lab a.1=.fr/\a.1 ∉ idsF L b)/\FrAt st L b/\(∀i∈idsF L b,I.lab i=.fr)/\(idsF L b).Nodup:=by
 have h1:=h.FR
 cases hf:I.fl with
 |nil=>rw[hf]at h1;exact h1.elim
 |cons a b=>
  rw[hf]at h1
  have h2:=h.nd
  have h3:=h.lr
  rw[hf]at h2 h3
  simp only[idsF]at h2 h3
  refine⟨a,b,rfl,fun e=>?_,h1.2,fun i hi=>h3 i (List.mem_append_right _ hi),(List.nodup_append.1 h2).2.1⟩
  rw[if_neg e]at h2 h3
  simp only[List.cons_append,List.nil_append,List.nodup_cons]at h2
  exact⟨h1.1 e,h3 a.1 (by simp),h2.1⟩
theorem Rep.frame(h:Rep T lim (f::L) r I st){a:Nat×Nat}{b:List (Nat×Nat)}(hab:I.fl=a::b){vs':List Int}(hl:vs'.length=f.vs.length)(hne:f.vs≠[]):Rep T lim ({ f with vs:=vs' }::L) r I (st.set a.1 (.rows a.2 1 (ints vs'))):=by
 obtain⟨a',b',ha,g1,g2,g3,g4⟩:=h.top
 rw[hab]at ha
 cases ha
 obtain⟨g5,g6,g7⟩:=g1 hne
 have hne':vs'≠[]:=by
  intro q
  rw[q]at hl
  exact hne (List.eq_nil_of_length_eq_zero hl.symm)
 have k:∀i,i≠a.1->(st.set a.1 (.rows a.2 1 (ints vs')))[i]?=st[i]?:=fun i hi=>List.getElem?_set_ne fun e=>hi e.symm
 have k':∀i,I.lab i≠.fr->(st.set a.1 (.rows a.2 1 (ints vs')))[i]?=st[i]?:=fun i hi=>k i fun e=>hi (by rw[e];exact g6)
 have hid:idsF ({ f with vs:=vs' }::L) I.fl=idsF (f::L) I.fl:=by rw[hab];simp only[idsF,if_neg hne,if_neg hne']
 have hfr:fRows ({ f with vs:=vs' }::L) I.fl=fRows (f::L) I.fl:=by rw[hab];simp only[fRows,fRow,vV,if_neg hne,if_neg hne']
 refine⟨?_,h.iv,h.sl,fun e=>?_,fun j hj hj2=>?_,?_,?_,fun e=>?_,h.lp,h.lg,h.lo,h.lq,h.li,h.qn,h.sn,by rw[hid];exact h.lr,by rw[hid];exact h.nd,h.low,fun e=>?_,fun e=>absurd (h.F0 e) (by simp),h.lf⟩
 ·rw[k' _ (by rw[h.lp];decide)];exact h.P
 ·rw[k' _ (by rw[h.lq e];decide)];exact h.S e
 ·rw[k' _ (by rw[h.li _ (List.getElem_mem hj)];decide)];exact h.el j hj hj2
 ·rw[k' _ (by rw[h.lg];decide)];exact h.G
 ·rw[hab]
  refine⟨fun _=>List.getElem?_set_self (lt_of g5),g2.keep fun i hi=>k i fun e=>g7 (e ▸ hi)⟩
 ·rw[k' _ (by rw[h.lo e];decide)];exact h.O e
 ·rw[k' _ (by rw[h.lf e];decide),hfr];exact h.F e
theorem Rep.place(h:Rep T lim (f::L) r I st)(n:Int)(hf:I.nl=false):Rep T lim ({ f with at_:=n }::L) r I (st.set I.f (.rows I.fv 4 (fRows ({ f with at_:=n }::L) I.fl).reverse)):=by
 have k:∀i,I.lab i≠.fs->(st.set I.f (.rows I.fv 4 (fRows ({ f with at_:=n }::L) I.fl).reverse))[i]?=st[i]?:=fun i hi=>List.getElem?_set_ne fun e=>hi (by rw[<-e];exact h.lf hf)
 have hid:idsF ({ f with at_:=n }::L) I.fl=idsF (f::L) I.fl:=by cases I.fl<;>rfl
 have hfr:FrAt st ({ f with at_:=n }::L) I.fl:=by
  have:=h.FR
  cases hq:I.fl with
  |nil=>rw[hq]at this;exact this.elim
  |cons a b=>rw[hq]at this;exact this
 refine⟨?_,h.iv,h.sl,fun e=>?_,fun j hj hj2=>?_,?_,hfr.keep fun i hi=>k i (by rw[hid]at hi;rw[h.lr i hi];decide),fun e=>?_,h.lp,h.lg,h.lo,h.lq,h.li,h.qn,h.sn,by rw[hid];exact h.lr,by rw[hid];exact h.nd,h.low,
  fun _=>List.getElem?_set_self (h.lts.f hf),fun e=>absurd (h.F0 e) (by simp),h.lf⟩
 ·rw[k _ (by rw[h.lp];decide)];exact h.P
 ·rw[k _ (by rw[h.lq e];decide)];exact h.S e
 ·rw[k _ (by rw[h.li _ (List.getElem_mem hj)];decide)];exact h.el j hj hj2
 ·rw[k _ (by rw[h.lg];decide)];exact h.G
 ·rw[k _ (by rw[h.lo e];decide)];exact h.O e
theorem Rep.glob(h:Rep T lim L r I st)(g:List Int):Rep T lim L { r with g:=g } I (st.set I.g (.rows 0 1 (ints g))):=by
 have k:∀i,I.lab i≠.g->(st.set I.g (.rows 0 1 (ints g)))[i]?=st[i]?:=fun i hi=>List.getElem?_set_ne fun e=>hi (by rw[<-e];exact h.lg)
 refine⟨?_,h.iv,h.sl,fun e=>?_,fun j hj hj2=>?_,List.getElem?_set_self (lt_of h.G),h.FR.keep fun i hi=>k i (by rw[h.lr i hi];decide),fun e=>?_,h.lp,h.lg,h.lo,h.lq,h.li,h.qn,h.sn,h.lr,h.nd,h.low,fun e=>(k _ (by rw[h.lf e];decide)).trans (h.F e),h.F0,h.lf⟩
 ·rw[k _ (by rw[h.lp];decide)];exact h.P
 ·rw[k _ (by rw[h.lq e];decide)];exact h.S e
 ·rw[k _ (by rw[h.li _ (List.getElem_mem hj)];decide)];exact h.el j hj hj2
 ·rw[k _ (by rw[h.lo e];decide)];exact h.O e
theorem Rep.thing(h:Rep T lim L r I st)(k:Nat)(hk:k<I.ids.length)(w:List Int):Rep T lim L { r with s:=r.s.set k w } I (st.set I.ids[k] (.rows 0 1 (ints w))):=by
 have hm:=List.getElem_mem hk
 have n1:∀i,I.lab i≠.st->(st.set I.ids[k] (.rows 0 1 (ints w)))[i]?=st[i]?:=fun i hi=>List.getElem?_set_ne fun e=>hi (by rw[<-e];exact h.li _ hm)
 have hnil:r.s.set k w=[]↔r.s=[]:=by
  constructor
  ·intro e
   have:=congrArg List.length e
   simp at this
   exact this
  ·intro e;rw[e];rfl
 have hrow:theRow T { r with s:=r.s.set k w } I=theRow T r I:=by
  unfold theRow lV
  simp only[hnil]
 refine⟨?_,h.iv,?_,fun e=>?_,fun j hj hj2=>?_,?_,h.FR.keep fun i hi=>n1 i (by rw[h.lr i hi];decide),fun e=>?_,h.lp,h.lg,h.lo,fun e=>h.lq fun c=>e (hnil.2 c),h.li,fun e=>h.qn fun c=>e (hnil.2 c),h.sn,h.lr,h.nd,h.low,fun e=>(n1 _ (by rw[h.lf e];decide)).trans (h.F e),h.F0,h.lf⟩
 ·rw[hrow,n1 _ (by rw[h.lp];decide)];exact h.P
 ·simp[h.sl]
 ·have e':r.s≠[]:=fun c=>e (hnil.2 c)
  rw[List.getElem?_set_ne fun (c:I.ids[k]=I.q)=>h.qn e' (c ▸ hm)]
  exact h.S e'
 ·have hj2':j<r.s.length:=by simpa using hj2
  by_cases q:j=k
  ·subst q
   have hl:=lt_of (h.el j hj hj2')
   show _=some (AObj.rows 0 1 (ints (r.s.set j w)[j]))
   rw[List.getElem?_set_self hl,List.getElem_set_self]
  ·have hne:I.ids[k]≠I.ids[j]:=fun c=>q ((List.getElem_inj h.sn).1 c).symm
   show _=some (AObj.rows 0 1 (ints (r.s.set k w)[j]))
   rw[List.getElem?_set_ne hne,List.getElem_set_ne (fun c=>q c.symm)]
   exact h.el j hj hj2'
 ·rw[n1 _ (by rw[h.lg];decide)];exact h.G
 ·rw[n1 _ (by rw[h.lo e];decide)];exact h.O e
theorem Rep.alloc(h:Rep T lim L r I st){w:List Int}{n q v:Nat}(hn:st.length<=n)(hq:(r.s≠[]/\q=I.q)\/st.length<=q)(hnq:q≠n)(k:∀j,j<st.length->j≠I.p->(r.s≠[]->j≠I.q)->st'[j]?=st[j]?)
  (hp:st'[I.p]?=some (.rows 0 13 [mRow T I.iv (.mu q v) I.g (fV I) r.e r.code (oV r.out I.o I.ov) r.steps]))
  (h1:st'[n]?=some (.rows 0 1 (ints w))) (h2:st'[q]?=some (.rows v 1 ((I.ids++[n]).map fun i=>[.mu i 0]))) :
  Rep T lim L { r with s:=r.s++[w] } { I with q:=q,v:=v,ids:=I.ids++[n],lab:=fun j=>if j=n\/j=q then .st else I.lab j } st':=by
 have B:=h.lts
 have hle:=h.limN
 have lb:∀j,j<st.length->(r.s≠[]->I.lab j≠.st)->(if j=n\/j=q then Lb.st else I.lab j)=I.lab j:=fun j hj hne=>by
  by_cases c:j=n\/j=q
  ·rcases c with c|c
   ·omega
   ·rcases hq with⟨e,d⟩|d
    ·exact absurd (by rw[c,d];exact h.lq e) (hne e)
    ·omega
  ·exact if_neg c
 have k2:∀j,j<st.length->I.lab j≠.p->(r.s≠[]->j≠I.q)->st'[j]?=st[j]?:=fun j hj n1 n2=>k j hj (fun c=>n1 (by rw[c];exact h.lp)) n2
 have k3:∀j,j<st.length->I.lab j≠.p->I.lab j≠.st->st'[j]?=st[j]?:=fun j hj n1 n2=>k2 j hj n1 fun e c=>n2 (by rw[c];exact h.lq e)
 have hids:∀j∈I.ids,(if j=n\/j=q then Lb.st else I.lab j)=.st:=fun j hj=>by
  by_cases c:j=n\/j=q
  ·exact if_pos c
  ·rw[if_neg c];exact h.li j hj
 have hqi:q ∉ I.ids:=fun c=>by
  rcases hq with⟨e,d⟩|d
  ·exact h.qn e (d ▸ c)
  ·have:=B.ids q c;omega
 refine⟨?_,h.iv,by simp[h.sl],fun _=>h2,fun j hj hj2=>?_,?_,h.FR.keep fun i hi=>k3 i (B.fr i hi) (by rw[h.lr i hi];decide) (by rw[h.lr i hi];decide),fun e=>?_,(lb _ B.p fun _=>by rw[h.lp];decide).trans h.lp,(lb _ B.g fun _=>by rw[h.lg];decide).trans h.lg,
  fun e=>(lb _ (B.o e) fun _=>by rw[h.lo e];decide).trans (h.lo e),fun _=>if_pos (.inr rfl),fun j hj=>?_,fun _=>?_,?_,fun j hj=>(lb _ (B.fr j hj) fun _=>by rw[h.lr j hj];decide).trans (h.lr j hj),h.nd,fun j hj=>?_,fun e=>(k3 _ (B.f e) (by rw[h.lf e];decide) (by rw[h.lf e];decide)).trans (h.F e),h.F0,fun e=>(lb _ (B.f e) fun _=>by rw[h.lf e];decide).trans (h.lf e)⟩
 ·have:lV (r.s++[w]) q v=.mu q v:=if_neg (by simp)
  show st'[I.p]?=some (.rows 0 13 [mRow T I.iv (lV (r.s++[w]) q v) I.g (fV I) r.e r.code (oV r.out I.o I.ov) r.steps])
  rw[this];exact hp
 ·by_cases e:j<I.ids.length
  ·have hj3:j<r.s.length:=by rw[<-h.sl];exact e
   show st'[(I.ids++[n])[j]]?=some (.rows 0 1 (ints (r.s++[w])[j]))
   rw[List.getElem_append_left e,List.getElem_append_left hj3]
   have hm:=List.getElem_mem e
   rw[k2 _ (B.ids _ hm) (by rw[h.li _ hm];decide) fun e c=>h.qn e (c ▸ hm)]
   exact h.el j e hj3
  ·have hjj:j=I.ids.length:=by simp at hj;omega
   subst hjj
   show st'[(I.ids++[n])[I.ids.length]]?=some (.rows 0 1 (ints (r.s++[w])[I.ids.length]))
   have e1:(I.ids++[n])[I.ids.length]=n:=by simp
   have e2:(r.s++[w])[I.ids.length]'(by simpa using hj2)=w:=by
    rw[List.getElem_append_right (by rw[h.sl];exact Nat.le_refl _)];simp
   rw[e1,e2];exact h1
 ·exact(k3 _ B.g (by rw[h.lg];decide) (by rw[h.lg];decide)).trans h.G
 ·exact(k3 _ (B.o e) (by rw[h.lo e];decide) (by rw[h.lo e];decide)).trans (h.O e)
 ·rcases List.mem_append.1 hj with hj|hj
  ·exact hids j hj
  ·simp at hj;subst hj;exact if_pos (.inl rfl)
 ·simp only[List.mem_append,List.mem_singleton,not_or]
  exact⟨hqi,hnq⟩
 ·refine List.nodup_append.2 ⟨h.sn,by simp,fun a ha b hb=>?_⟩
  simp at hb
  subst hb
  intro e
  have:=B.ids a ha
  omega
 ·simp only at hj
  by_cases c:j=n\/j=q
  ·rcases c with c|c
   ·omega
   ·rcases hq with⟨e,d⟩|d
    ·rw[c,d];exact h.low _ (by rw[h.lq e];decide)
    ·omega
  ·rw[if_neg c]at hj;exact h.low j hj
theorem Rep.push(h:Rep T lim L r I st){a v F V:Nat}{g:Fr}(hg:g.vs≠[]->st.length<=a)(hF:(I.nl=false/\F=I.f)\/st.length<=F)(haF:g.vs≠[]->a≠F)(k:∀j,j<st.length->j≠I.p->(I.nl=false->j≠I.f)->st'[j]?=st[j]?)
  (hp:st'[I.p]?=some (.rows 0 13 [theRow T r { I with nl:=false,f:=F,fv:=V,fl:=(a,v)::I.fl }]))(h2:g.vs≠[]->st'[a]?=some (.rows v 1 (ints g.vs)))(h3:st'[F]?=some (.rows V 4 (fRow g (a,v)::fRows L I.fl).reverse)) :
  Rep T lim (g::L) r { I with nl:=false,f:=F,fv:=V,fl:=(a,v)::I.fl,lab:=fun j=>if g.vs≠[]/\j=a then .fr else if j=F then .fs else I.lab j } st':=by
 have B:=h.lts
 have hle:=h.limN
 have lb:∀j,j<st.length->(I.nl=false->I.lab j≠.fs)->(if g.vs≠[]/\j=a then Lb.fr else if j=F then Lb.fs else I.lab j)=I.lab j:=fun j hj hn=>by
  rw[if_neg fun c=>by have:=hg c.1;omega]
  by_cases q:j=F
  ·rcases hF with⟨c,d⟩|d
   ·exact absurd (by rw[q,d];exact h.lf c) (hn c)
   ·omega
  ·exact if_neg q
 have k':∀j,j<st.length->I.lab j≠.p->I.lab j≠.fs->st'[j]?=st[j]?:=fun j hj hn hn2=>k j hj (fun c=>hn (by rw[c];exact h.lp)) fun c d=>hn2 (by rw[d];exact h.lf c)
 refine⟨hp,h.iv,h.sl,fun e=>(k' _ (B.q e) (by rw[h.lq e];decide) (by rw[h.lq e];decide)).trans (h.S e),fun j hj hj2=>?_,(k' _ B.g (by rw[h.lg];decide) (by rw[h.lg];decide)).trans h.G,⟨h2,h.FR.keep fun i hi=>k' i (B.fr i hi) (by rw[h.lr i hi];decide) (by rw[h.lr i hi];decide)⟩,fun e=>(k' _ (B.o e) (by rw[h.lo e];decide) (by rw[h.lo e];decide)).trans (h.O e),
  (lb _ B.p fun _=>by rw[h.lp];decide).trans h.lp,(lb _ B.g fun _=>by rw[h.lg];decide).trans h.lg,fun e=>(lb _ (B.o e) fun _=>by rw[h.lo e];decide).trans (h.lo e),fun e=>(lb _ (B.q e) fun _=>by rw[h.lq e];decide).trans (h.lq e),fun j hj=>(lb _ (B.ids j hj) fun _=>by rw[h.li j hj];decide).trans (h.li j hj),h.qn,h.sn,fun j hj=>?_,?_,fun j hj=>?_,fun _=>h3,fun e=>by simp at e,fun _=>?_⟩
 ·have hm:=List.getElem_mem hj
  exact(k' _ (B.ids _ hm) (by rw[h.li _ hm];decide) (by rw[h.li _ hm];decide)).trans (h.el j hj hj2)
 ·simp only[idsF,List.mem_append]at hj
  rcases hj with hj|hj
  ·by_cases e:g.vs=[]
   ·rw[if_pos e]at hj;simp at hj
   ·rw[if_neg e]at hj
    simp at hj
    exact if_pos ⟨e,hj⟩
  ·exact(lb _ (B.fr j hj) fun _=>by rw[h.lr j hj];decide).trans (h.lr j hj)
 ·simp only[idsF]
  by_cases e:g.vs=[]
  ·rw[if_pos e];exact h.nd
  ·rw[if_neg e]
   simp only[List.cons_append,List.nil_append,List.nodup_cons]
   exact⟨fun c=>by have:=B.fr a c;have:=hg e;omega,h.nd⟩
 ·simp only at hj
  by_cases c:g.vs≠[]/\j=a
  ·have:=hg c.1;omega
  ·rw[if_neg c]at hj
   by_cases q:j=F
   ·rcases hF with⟨c,d⟩|d
    ·rw[q,d];exact h.low _ (by rw[h.lf c];decide)
    ·omega
   ·rw[if_neg q]at hj;exact h.low j hj
 ·show (if g.vs≠[]/\F=a then Lb.fr else if F=F then Lb.fs else I.lab F)=.fs
  rw[if_neg fun c=>haF c.1 c.2.symm,if_pos rfl]
theorem Rep.pop(h:Rep T lim (f::L) r I st){c:Nat×Nat}{fl:List (Nat×Nat)}{V:Nat}(hf:I.nl=false)(hc:I.fl=c::fl)(k:∀j,j<st.length->j≠I.p->j≠I.f->st'[j]?=st[j]?)
  (hp:st'[I.p]?=some (.rows 0 13 [theRow T r { I with fv:=V,fl:=fl }]))(h3:st'[I.f]?=some (.rows V 4 (fRows L fl).reverse)):Rep T lim L r { I with fv:=V,fl:=fl } st':=by
 have B:=h.lts
 have hFR:=h.FR
 have hnd:=h.nd
 have hlr:=h.lr
 have hfr:=B.fr
 rw[hc]at hFR hnd hlr hfr
 simp only[idsF]at hnd hlr hfr
 have k':∀j,j<st.length->I.lab j≠.p->I.lab j≠.fs->st'[j]?=st[j]?:=fun j hj hn hn2=>k j hj (fun c=>hn (by rw[c];exact h.lp)) fun d=>hn2 (by rw[d];exact h.lf hf)
 refine⟨hp,h.iv,h.sl,fun e=>(k' _ (B.q e) (by rw[h.lq e];decide) (by rw[h.lq e];decide)).trans (h.S e),fun j hj hj2=>?_,(k' _ B.g (by rw[h.lg];decide) (by rw[h.lg];decide)).trans h.G,hFR.2.keep fun i hi=>k' i (hfr i (List.mem_append_right _ hi)) (by rw[hlr i (List.mem_append_right _ hi)];decide) (by rw[hlr i (List.mem_append_right _ hi)];decide),fun e=>(k' _ (B.o e) (by rw[h.lo e];decide) (by rw[h.lo e];decide)).trans (h.O e),
  h.lp,h.lg,h.lo,h.lq,h.li,h.qn,h.sn,fun j hj=>hlr j (List.mem_append_right _ hj),(List.nodup_append.1 hnd).2.1,h.low,fun _=>h3,fun e=>absurd e (by rw[hf];simp),h.lf⟩
 have hm:=List.getElem_mem hj
 exact(k' _ (B.ids _ hm) (by rw[h.li _ hm];decide) (by rw[h.li _ hm];decide)).trans (h.el j hj hj2)
theorem Rep.printed(h:Rep T lim L r I st){o ov:Nat}{out:List Int}(hne:out≠[])(hlo:(r.out≠[]/\o=I.o)\/st.length<=o)(k:∀j,j<st.length->j≠I.p->(r.out≠[]->j≠I.o)->st'[j]?=st[j]?)
  (hp:st'[I.p]?=some (.rows 0 13 [theRow T { r with out:=out } { I with o:=o,ov:=ov }]))(ho:st'[o]?=some (.rows ov 1 (ints out))) :
  Rep T lim L { r with out:=out } { I with o:=o,ov:=ov,lab:=fun j=>if j=o then .o else I.lab j } st':=by
 have B:=h.lts
 have hle:=h.limN
 have lb:∀j,j<st.length->(r.out≠[]->I.lab j≠.o)->(if j=o then Lb.o else I.lab j)=I.lab j:=fun j hj hn=>by
  by_cases q:j=o
  ·rcases hlo with⟨c,d⟩|d
   ·exact absurd (by rw[q,d];exact h.lo c) (hn c)
   ·omega
  ·exact if_neg q
 have k2:∀j,j<st.length->I.lab j≠.p->I.lab j≠.o->st'[j]?=st[j]?:=fun j hj n1 n2=>k j hj (fun q=>n1 (by rw[q];exact h.lp)) (fun c q=>n2 (by rw[q];exact h.lo c))
 refine⟨hp,h.iv,h.sl,fun e=>(k2 _ (B.q e) (by rw[h.lq e];decide) (by rw[h.lq e];decide)).trans (h.S e),fun j hj hj2=>?_,(k2 _ B.g (by rw[h.lg];decide) (by rw[h.lg];decide)).trans h.G,
  h.FR.keep fun i hi=>k2 i (B.fr i hi) (by rw[h.lr i hi];decide) (by rw[h.lr i hi];decide),fun _=>ho,(lb _ B.p fun _=>by rw[h.lp];decide).trans h.lp,(lb _ B.g fun _=>by rw[h.lg];decide).trans h.lg,fun _=>if_pos rfl,
  fun e=>(lb _ (B.q e) fun _=>by rw[h.lq e];decide).trans (h.lq e),fun j hj=>(lb _ (B.ids j hj) fun _=>by rw[h.li j hj];decide).trans (h.li j hj),h.qn,h.sn,
  fun j hj=>(lb _ (B.fr j hj) fun _=>by rw[h.lr j hj];decide).trans (h.lr j hj),h.nd,fun j hj=>?_,fun e=>(k2 _ (B.f e) (by rw[h.lf e];decide) (by rw[h.lf e];decide)).trans (h.F e),h.F0,fun e=>(lb _ (B.f e) fun _=>by rw[h.lf e];decide).trans (h.lf e)⟩
 ·have hm:=List.getElem_mem hj
  exact(k2 _ (B.ids _ hm) (by rw[h.li _ hm];decide) (by rw[h.li _ hm];decide)).trans (h.el j hj hj2)
 ·simp only at hj
  by_cases q:j=o
  ·rcases hlo with⟨c,d⟩|d
   ·rw[q,d];exact h.low _ (by rw[h.lo c];decide)
   ·omega
  ·rw[if_neg q]at hj;exact h.low j hj
end E13
namespace E13
open Ax Go Code14z IrV Mach
variable {T:XD}{lim:Nat}{L:List Fr}{r:Ms}{I:Ids}{st st':Store}{f:Fr}
def newR(r:Ms)(n:Nat):Int×Ms:=((r.s.length:Int)+1,{ r with s:=r.s++[List.replicate n 0] })
theorem trap_ok(h:Rep T lim L r I st)(c:Int) :
  ∃st',st'.length=st.length/\(∀li,(orcL S).call 0 li 80 [.ptr I.p 0 0 0,.int .i64 c] st=some (.tup [],st'))/\Rep T lim L (trapM r c) I st':=by
 by_cases c0:c=0
 ·subst c0
  refine⟨st,rfl,fun li=>?_,by simpa [trapM] using h⟩
  refine call_run (sf:=s80) rfl rfl rfl ?_
  simp[s80]
 ·have hP:=h.P
  have hlt:=lt_of hP
  have et:trapM r c={ r with e:=2,code:=c }:=by unfold trapM;rw[if_neg c0]
  have hr:=h.row { r with e:=2,code:=c } I.iv rfl rfl rfl h.iv
  rw[et]
  refine⟨_,?_,fun li=>?_,hr⟩
  ·simp
  ·refine call_run (sf:=s80) rfl rfl rfl ?_
   have htk:∀y,List.take st.length (st.set I.p y)=st.set I.p y:=fun y=>List.take_of_length_le (by simp)
   have hss:∀y z,(st.set I.p y).set I.p z=st.set I.p z:=fun y z=>List.set_set ..
   have hgs:∀y,(st.set I.p y)[I.p]?=some y:=fun y=>List.getElem?_set_self hlt
   simp[s80,c0,hP,theRow,mRow,mayWrite,AV.allPure,AV.isPure,paste,htk,hss,hgs]
theorem L1{s:List (List Int)}{q v:Nat}(h:s≠[]):lV s q v=.mu q v:=if_neg h
theorem len_ok(wl li:Nat)(h:Rep T lim L r I st)(hs:r.s.length<1000000)(a:Int) :
  (orcL S).call wl li 74 [.ptr I.p 0 0 6,.int .i64 a] st=some (.tup [.int .i64 (lenS r.s a).1,.int .i64 (lenS r.s a).2],st):=by
 have hP:=h.P
 refine call_run (sf:=s74) rfl rfl rfl ?_
 unfold lenS
 by_cases r0:a<1
 ·rw[if_neg (by omega)]
  simp[s74,r0]
 by_cases hT:r.s=[]
 ·have h0:0<a:=by omega
  rw[hT,if_neg (by simp;omega)]
  have hl:lV r.s I.q I.v=.nilSl:=by rw[hT];rfl
  simp[s74,r0,hP,theRow,mRow,hl,cut,h0]
 ·have hl:=h.S hT
  have hlen:=h.sl
  by_cases r1:(r.s.length:Int)<a
  ·rw[if_neg (by omega)]
   simp[s74,r0,hP,theRow,mRow,L1 hT,hl,cut,hlen,r1]
  ·obtain⟨k,rfl⟩:∃k:Nat,a=(k:Int)+1:=⟨(a-1).toNat,by omega⟩
   have hk:k<I.ids.length:=by omega
   have hk2:k<r.s.length:=by omega
   rw[if_pos (by omega)]
   have hw:IntKind.i64.wrap (k:Int)=(k:Int):=by rw[wrap64]<;>omega
   have e1:((k:Int)+1-1).toNat=k:=by omega
   have hi:=h.el k hk hk2
   simp[s74,r0,hP,theRow,mRow,L1 hT,hl,cut,hlen,r1,hw,hk2,hi]
theorem load_ok(wl li:Nat)(h:Rep T lim L r I st)(hs:r.s.length<1000000)(a j:Int) :
  (orcL S).call wl li 72 [.ptr I.p 0 0 6,.int .i64 a,.int .i64 j] st=some (.tup [.int .i64 (loadS r.s a j).1,.int .i64 (loadS r.s a j).2],st):=by
 have hP:=h.P
 have ln:=fun wl li=>len_ok wl li h hs a
 have hlen:=h.sl
 refine call_run (sf:=s72) rfl rfl rfl ?_
 unfold loadS trapS
 by_cases hr1:1<=a/\a<=(r.s.length:Int)
 ·have hT:r.s≠[]:=by rintro e;rw[e]at hr1;simp at hr1;omega
  have hl:=h.S hT
  obtain⟨k,rfl⟩:∃k:Nat,a=(k:Int)+1:=⟨(a-1).toNat,by omega⟩
  have hk:k<I.ids.length:=by omega
  have hk2:k<r.s.length:=by omega
  have hi:=h.el k hk hk2
  have e1:((k:Int)+1-1).toNat=k:=by omega
  have e2:r.s.getD k []=r.s[k]:=by rw[List.getD_eq_getElem?_getD,List.getElem?_eq_getElem hk2];rfl
  have eln:lenS r.s ((k:Int)+1)=((r.s[k].length:Int),0):=by unfold lenS;rw[if_pos hr1,e1,e2]
  rw[eln]at ln
  rw[if_pos hr1,e1,e2]
  have hw:IntKind.i64.wrap (k:Int)=(k:Int):=by rw[wrap64]<;>omega
  by_cases j0:j<0
  ·have hc:¬(0<=j/\j<(r.s[k].length:Int)):=by omega
   rw[if_neg hc]
   simp[s72,ln,j0]
  ·by_cases j1:j<(r.s[k].length:Int)
   ·obtain⟨m,rfl⟩:∃m:Nat,j=m:=⟨j.toNat,by omega⟩
    have hm:m<r.s[k].length:=by omega
    have hc:0<=(m:Int)/\(m:Int)<(r.s[k].length:Int):=by omega
    have j1':¬(r.s[k].length:Int)<=(m:Int):=by omega
    have j1'':¬r.s[k].length<=m:=by omega
    have e3:r.s[k].getD m 0=r.s[k][m]:=by rw[List.getD_eq_getElem?_getD,List.getElem?_eq_getElem hm];rfl
    rw[if_pos hc]
    have hz:((m:Int)<0)=False:=eq_false (by omega)
    simp[s72,ln,hz,j1',hP,theRow,mRow,L1 hT,hl,cut,hw,hk,hi,ints,hm]
   ·have hc:¬(0<=j/\j<(r.s[k].length:Int)):=by omega
    rw[if_neg hc]
    have j1':(r.s[k].length:Int)<=j:=by omega
    simp[s72,ln,j0,j1']
 ·have eln:lenS r.s a=(0,1):=by unfold lenS;rw[if_neg hr1]
  rw[eln]at ln
  rw[if_neg hr1]
  simp[s72,ln]
theorem put_ok(h:Rep T lim L r I st)(hs:r.s.length<1000000)(a j v:Int) :
  ∃st',st'.length=st.length/\(∀li,(orcL S).call 0 li 73 [.ptr I.p 0 0 6,.int .i64 a,.int .i64 j,.int .i64 v] st=some (.int .i64 (trapS r.s a j),st'))/\Rep T lim L { r with s:=putS r.s a j v } I st':=by
 have hP:=h.P
 have ld:=fun wl li=>load_ok wl li h hs a j
 have hlen:=h.sl
 have htk:∀i y,List.take st.length (st.set i y)=st.set i y:=fun i y=>List.take_of_length_le (by simp)
 by_cases t0:trapS r.s a j=0
 ·have hc:(1<=a/\a<=(r.s.length:Int))/\(0<=j/\j<((r.s.getD (a-1).toNat []).length:Int)):=by
   unfold trapS at t0
   split at t0
   ·rename_i h1
    split at t0
    ·rename_i h2;exact⟨h1,h2⟩
    ·cases t0
   ·cases t0
  obtain⟨h1,h2⟩:=hc
  have hT:r.s≠[]:=by rintro e;rw[e]at h1;simp at h1;omega
  have hl:=h.S hT
  obtain⟨k,rfl⟩:∃k:Nat,a=(k:Int)+1:=⟨(a-1).toNat,by omega⟩
  obtain⟨m,rfl⟩:∃m:Nat,j=m:=⟨j.toNat,by omega⟩
  have hk:k<I.ids.length:=by omega
  have hk2:k<r.s.length:=by omega
  have hi:=h.el k hk hk2
  have e1:((k:Int)+1-1).toNat=k:=by omega
  have e2:r.s.getD k []=r.s[k]:=by rw[List.getD_eq_getElem?_getD,List.getElem?_eq_getElem hk2];rfl
  rw[e1,e2]at h2
  have hm:m<r.s[k].length:=by omega
  have hw:IntKind.i64.wrap (k:Int)=(k:Int):=by rw[wrap64]<;>omega
  have hR:=h.thing k hk (r.s[k].set m v)
  have ep:putS r.s ((k:Int)+1) m v=r.s.set k (r.s[k].set m v):=by unfold putS;rw[if_pos t0,e1,e2];rfl
  have el:(loadS r.s ((k:Int)+1) m).2=0:=by unfold loadS;rw[if_pos t0]
  rw[el]at ld
  rw[ep,t0]
  refine⟨_,by simp,fun li=>?_,hR⟩
  refine call_run (sf:=s73) rfl rfl rfl ?_
  have hset:∀g:List Int,ints (g.set m v)=(ints g).set m [.int .i64 v]:=fun g=>by simp[ints,List.map_set]
  have hlm:m<(ints r.s[k]).length:=by simpa [ints] using hm
  have hgm:(ints r.s[k])[m]?=some [.int .i64 r.s[k][m]]:=by simp[ints,hm]
  simp[s73,ld,hP,theRow,mRow,L1 hT,hl,cut,hw,hk,hi,hm,mayWrite,AV.allPure,AV.isPure,paste,htk,hset]
 ·have ep:putS r.s a j v=r.s:=by unfold putS;rw[if_neg t0]
  have el:(loadS r.s a j).2=trapS r.s a j:=by unfold loadS;rw[if_neg t0]
  rw[el]at ld
  rw[ep]
  refine⟨st,rfl,fun li=>?_,h⟩
  refine call_run (sf:=s73) rfl rfl rfl ?_
  simp[s73,ld,t0]
end E13
namespace E13
open Ax Go Code14z IrV Mach
variable {T:XD}{lim:Nat}{L:List Fr}{r:Ms}{I:Ids}{st st':Store}{f:Fr}
theorem flag_ok(wl li:Nat)(b:Bool)(st:Store):(orcL S).call wl li 120 [.bool b] st=some (.int .i64 (flagI b),st):=by
 refine call_pure (sf:=s120) rfl rfl rfl rfl rfl ?_
 cases b<;>simp[s120,flagI]
theorem quo_m1(a:Int):IntKind.i64.wrap (a.tdiv (-1))=IntKind.i64.wrap (0-a):=by
 rw[Int.tdiv_neg,Int.tdiv_one,Int.zero_sub]
theorem div_ok(wl li:Nat)(op a b:Int)(hop:op=17\/op=18)(st:Store):(orcL S).call wl li 119 [.int .i64 op,.int .i64 a,.int .i64 b] st=some (.tup [.int .i64 (binI op a b).1,.int .i64 (binI op a b).2],st):=by
 refine call_pure (sf:=s119) rfl rfl rfl rfl rfl ?_
 unfold binI
 by_cases b0:b=0
 ·subst b0
  rcases hop with rfl|rfl<;>simp[s119]
 by_cases b1:b = -1
 ·subst b1
  rcases hop with rfl|rfl
  ·have:=quo_m1 a
   simp at this
   simp[s119]
  ·simp[s119]
 rcases hop with rfl|rfl<;>simp[s119,b0,b1]
theorem bin_ok(wl li:Nat)(op a b:Int)(st:Store):(orcL S).call wl li 70 [.int .i64 op,.int .i64 a,.int .i64 b] st=some (.tup [.int .i64 (binI op a b).1,.int .i64 (binI op a b).2],st):=by
 have hf:=fun wl li b st=>flag_ok wl li b st
 have hd:=fun wl li h st=>div_ok wl li op a b h st
 refine call_pure (sf:=s70) rfl rfl rfl rfl rfl ?_
 by_cases h17:op=17
 ·subst h17
  have hd:=fun wl li st=>hd wl li (.inl rfl) st
  generalize binI 17 a b=z at *
  simp[s70,hd]
 by_cases h18:op=18
 ·subst h18
  have hd:=fun wl li st=>hd wl li (.inr rfl) st
  generalize binI 18 a b=z at *
  simp[s70,hd]
 clear hd
 unfold binI
 by_cases h14:op=14
 ·subst h14;simp[s70]
 by_cases h15:op=15
 ·subst h15;simp[s70]
 by_cases h16:op=16
 ·subst h16;simp[s70]
 by_cases h19:op=19
 ·subst h19;simp[s70,hf]
 by_cases h20:op=20
 ·subst h20;simp[s70,hf]
 by_cases h21:op=21
 ·subst h21;simp[s70,hf]
 by_cases h22:op=22
 ·subst h22;simp[s70,hf]
 by_cases h23:op=23
 ·subst h23
  by_cases a0:a=0
  ·subst a0;simp[s70,hf]
  ·by_cases b0:b=0
   ·subst b0;simp[s70,hf,a0]
   ·simp[s70,hf,a0,b0]
 by_cases h24:op=24
 ·subst h24
  by_cases a0:a=0
  ·subst a0
   by_cases b0:b=0
   ·subst b0;simp[s70,hf]
   ·simp[s70,hf,b0]
  ·simp[s70,hf,a0]
 simp[s70,h14,h15,h16,h17,h18,h19,h20,h21,h22,h23,h24]
theorem un_ok(wl li:Nat)(op a:Int)(st:Store):(orcL S).call wl li 71 [.int .i64 op,.int .i64 a] st=some (.int .i64 (unI op a),st):=by
 have hf:=fun wl li b st=>flag_ok wl li b st
 refine call_pure (sf:=s71) rfl rfl rfl rfl rfl ?_
 unfold unI
 by_cases h12:op=12
 ·subst h12;simp[s71]
 by_cases h13:op=13
 ·subst h13;simp[s71,hf]
 simp[s71,h12,h13]
def obj2(n m:Nat):List AObj:=[.rows 0 1 (List.replicate n [.int .i64 0]),.rows 0 1 [[.mu m 0]]]
def pRow(T:XD)(r:Ms)(I:Ids)(q v:Nat):AObj:=.rows 0 13 [mRow T I.iv (.mu q v) I.g (fV I) r.e r.code (oV r.out I.o I.ov) r.steps]
def sA0(T:XD)(r:Ms)(I:Ids)(st:Store)(n:Nat):Store:=st.set I.p (pRow T r I (st.length+2) 0)++(obj2 n st.length++[.rows 0 1 [[.mu st.length 0]]])
def sA1(T:XD)(r:Ms)(I:Ids)(st:Store)(n:Nat):Store:=(st.set I.q (.rows (I.v+1) 1 ((I.ids.map fun i=>[.mu i 0])++[[.mu st.length 0]]))).set I.p (pRow T r I I.q (I.v+1))++obj2 n st.length
def IA0(I:Ids)(n:Nat):Ids:={ I with q:=n+2,v:=0,ids:=I.ids++[n],lab:=fun j=>if j=n\/j=n+2 then .st else I.lab j }
def IA1(I:Ids)(n:Nat):Ids:={ I with q:=I.q,v:=I.v+1,ids:=I.ids++[n],lab:=fun j=>if j=n\/j=I.q then .st else I.lab j }
theorem zeros(n:Nat):ints (List.replicate n 0)=List.replicate n [.int .i64 0]:=by simp[ints]
theorem al0(h:Rep T lim L r I st)(hT:r.s=[])(n:Nat):Rep T lim L { r with s:=r.s++[List.replicate n 0] } (IA0 I st.length) (sA0 T r I st n):=by
 have hp:=lt_of h.P
 have hid:I.ids=[]:=by
  have:=h.sl
  rw[hT]at this
  exact List.eq_nil_of_length_eq_zero this
 refine h.alloc (Nat.le_refl _) (.inr (by omega)) (by omega) (fun j hj hne _=>?_) ?_ ?_ ?_
 ·unfold sA0
  rw[List.getElem?_append_left (by simpa using hj),List.getElem?_set_ne fun e=>hne e.symm]
 ·unfold sA0 pRow
  rw[List.getElem?_append_left (by simpa using hp),List.getElem?_set_self hp]
 ·unfold sA0 obj2
  rw[List.getElem?_append_right (by simp)]
  simp[zeros]
 ·unfold sA0 obj2
  rw[List.getElem?_append_right (by simp)]
  simp[hid]
theorem al1(h:Rep T lim L r I st)(hT:r.s≠[])(n:Nat):Rep T lim L { r with s:=r.s++[List.replicate n 0] } (IA1 I st.length) (sA1 T r I st n):=by
 have hp:=lt_of h.P
 have hq:=lt_of (h.S hT)
 have hpq:I.q≠I.p:=fun e=>by
  have h1:=h.lq hT
  rw[e,h.lp]at h1
  cases h1
 refine h.alloc (Nat.le_refl _) (.inl ⟨hT,rfl⟩) (by omega) (fun j hj hne hnq=>?_) ?_ ?_ ?_
 ·unfold sA1
  rw[List.getElem?_append_left (by simpa using hj),List.getElem?_set_ne fun e=>hne e.symm,List.getElem?_set_ne fun e=>hnq hT e.symm]
 ·unfold sA1 pRow
  rw[List.getElem?_append_left (by simpa using hp),List.getElem?_set_self (by simpa using hp)]
 ·unfold sA1 obj2
  rw[List.getElem?_append_right (by simp)]
  simp[zeros]
 ·unfold sA1
  rw[List.getElem?_append_left (by simpa using hq),List.getElem?_set_ne fun e=>hpq e.symm,List.getElem?_set_self hq]
  simp
theorem arr_no(wl li:Nat)(p n:Int)(st:Store)(pt:AV)(hn:n<0\/50<n):(orcL S).call wl li 77 [pt,.int .i64 n] st=some (.tup [.int .i64 0,.int .i64 4],st):=by
 refine call_run (sf:=s77) rfl rfl rfl ?_
 by_cases n0:n<0
 ·simp[s77,n0]
 ·have n1:50<n:=by omega
  simp[s77,n0,n1]
theorem arr_ok(h:Rep T lim L r I st)(hs:r.s.length<1000000)(n:Nat)(hn:n<=50) :
  ∃st' I',st.length<=st'.length/\(∀li,li<=lim->(orcL S).call 0 li 77 [.ptr I.p 0 0 6,.int .i64 n] st=some (.tup [.int .i64 (newR r n).1,.int .i64 0],st'))/\I'.p=I.p/\I'.fl=I.fl/\Rep T lim L (newR r n).2 I' st':=by
 have hP:=h.P
 have hlp:=h.lim_le
 have hpl0:=lt_of hP
 have hc:(n:Int)*8<=room:=by unfold room;omega
 have g1:(st++[AObj.rows 0 1 (List.replicate n [.int .i64 0]),.rows 0 1 [[.mu st.length 0]]])[st.length+1]?=some (.rows 0 1 [[.mu st.length 0]]):=by simp
 have n0:¬((n:Int)<0):=by omega
 have n1:¬((50:Int)<(n:Int)):=by omega
 have hoA:=fun l=>U10.app_some hP l
 have hsA:=fun l y=>U10.app_set hP l y
 by_cases hT:r.s=[]
 ·refine⟨sA0 T r I st n,IA0 I st.length,by simp[sA0],fun li hli=>?_,rfl,rfl,al0 h hT n⟩
  have hl1:li<=I.p:=by omega
  have ga:=fun bx=>U10.a_app0 (lim:=li) (bx:=bx) g1
  have hsp:∀x l,(st.set I.p x++l)[I.p]?=some x:=fun x l=>by
   rw[List.getElem?_append_left (by simpa using hpl0),List.getElem?_set_self hpl0]
  have hs2:∀x a b c,(st.set I.p x++[a,b,c])[st.length+2]?=some c:=fun x a b c=>by
   rw[List.getElem?_append_right (by simp)]
   simp
  have hl0:lV r.s I.q I.v=.nilSl:=by rw[hT];rfl
  have e1:(newR r n).1=1:=by unfold newR;rw[hT];rfl
  rw[e1]
  refine call_run (sf:=s77) rfl rfl rfl ?_
  simp[s77,n0,n1]
  rw[W_drawP]
  simp[evalRec,hP,theRow,mRow,hl0,cut,hl1,hoA,hsA,hc,U10.a_litM,ga,pairOk,readsSame,mayWrite,AV.allPure,AV.isPure,paste,boxOk,SOp.newBox]
  refine⟨_,_,⟨rfl,rfl⟩,?_⟩
  simp[hP,theRow,mRow,hl0,cut,hoA,oneOrAgg,AV.viewL,AV.view,Ent.same,AV.same,hsp,sA0,obj2,pRow]
  done
 ·refine⟨sA1 T r I st n,IA1 I st.length,by simp[sA1],fun li hli=>?_,rfl,rfl,al1 h hT n⟩
  have hl:=h.S hT
  have hl1:li<=I.p:=by omega
  have hl2:li<=I.q:=by
   have:=h.low I.q (by rw[h.lq hT];decide)
   omega
  have hpq:I.p≠I.q:=fun e=>by
   have h1:=h.lq hT
   rw[<-e,h.lp]at h1
   cases h1
  have hql:=lt_of hl
  have hlen:=h.sl
  have hlA:=fun l=>U10.app_some hl l
  have hsQ:=fun l y=>U10.app_set hl l y
  have hoQ:∀y,(st.set I.q y)[I.p]?=some (.rows 0 13 [theRow T r I]):=fun y=>by rw[List.getElem?_set_ne hpq.symm];exact hP
  have hoQA:=fun y l=>U10.app_some (hoQ y) l
  have hsP:=fun y l z=>U10.app_set (hoQ y) l z
  have hsp:∀y x l,((st.set I.q y).set I.p x++l)[I.p]?=some x:=fun y x l=>by
   rw[List.getElem?_append_left (by simpa using hpl0),List.getElem?_set_self (by simpa using hpl0)]
  have hsq:∀y x l,((st.set I.q y).set I.p x++l)[I.q]?=some y:=fun y x l=>by
   rw[List.getElem?_append_left (by simpa using hql),List.getElem?_set_ne hpq,List.getElem?_set_self hql]
  have ga:=fun bx=>U10.a_appM (lim:=li) (bx:=bx) g1 (hlA _) (by simp[hlen,room];omega) hl2
  have e1:(newR r n).1=(r.s.length:Int)+1:=rfl
  rw[e1]
  refine call_run (sf:=s77) rfl rfl rfl ?_
  simp[s77,n0,n1]
  rw[W_drawP]
  simp only[theRow,mRow,L1 hT]at hP hoQ hoQA hoA hsA
  simp[evalRec,hP,cut,hl1,hsQ,hoQA,hsP,hc,U10.a_litM,ga,pairOk,readsSame,mayWrite,AV.allPure,AV.isPure,paste,boxOk,SOp.newBox]
  refine⟨_,_,⟨rfl,rfl⟩,?_⟩
  simp[hP,cut,hoA,oneOrAgg,AV.viewL,AV.view,Ent.same,AV.same,hsp,hsq,hlen,sA1,obj2,pRow,mRow]
  done
end E13
namespace E13
open Ax Go Code14z IrV Mach
variable {T:XD}{lim:Nat}{L:List Fr}{r:Ms}{I:Ids}{st st':Store}{f:Fr}
theorem clamp_1(m:Int):(if (if 8<m then 8 else m)<0 then (0:Int) else (if 8<m then 8 else m))=(clampN m:Int):=by
 unfold clampN
 repeat' split
 all_goals omega
theorem clamp_2(m:Int):(if 0<(if 8<m then 8 else m) then (if 8<m then 8 else m) else (0:Int))=(clampN m:Int):=by
 unfold clampN
 repeat' split
 all_goals omega
theorem rec_ok(h:Rep T lim L r I st)(hs:r.s.length<1000000)(m:Int) :
  ∃st' I',st.length<=st'.length/\(∀li,li<=lim->(orcL S).call 0 li 75 [.ptr I.p 0 0 6,.int .i64 m] st=some (.int .i64 (newR r (clampN m)).1,st'))/\I'.p=I.p/\I'.fl=I.fl/\Rep T lim L (newR r (clampN m)).2 I' st':=by
 have hcl1:=clamp_1 m
 have hcl2:=clamp_2 m
 have hn:clampN m<=50:=by
  unfold clampN
  repeat' split
  all_goals omega
 generalize clampN m=n at *
 have hP:=h.P
 have hlp:=h.lim_le
 have hpl0:=lt_of hP
 have hc:(n:Int)*8<=room:=by unfold room;omega
 have g1:(st++[AObj.rows 0 1 (List.replicate n [.int .i64 0]),.rows 0 1 [[.mu st.length 0]]])[st.length+1]?=some (.rows 0 1 [[.mu st.length 0]]):=by simp
 have hoA:=fun l=>U10.app_some hP l
 have hsA:=fun l y=>U10.app_set hP l y
 by_cases hT:r.s=[]
 ·refine⟨sA0 T r I st n,IA0 I st.length,by simp[sA0],fun li hli=>?_,rfl,rfl,al0 h hT n⟩
  have hl1:li<=I.p:=by omega
  have ga:=fun bx=>U10.a_app0 (lim:=li) (bx:=bx) g1
  have hsp:∀x l,(st.set I.p x++l)[I.p]?=some x:=fun x l=>by
   rw[List.getElem?_append_left (by simpa using hpl0),List.getElem?_set_self hpl0]
  have hs2:∀x a b c,(st.set I.p x++[a,b,c])[st.length+2]?=some c:=fun x a b c=>by
   rw[List.getElem?_append_right (by simp)]
   simp
  have hl0:lV r.s I.q I.v=.nilSl:=by rw[hT];rfl
  have e1:(newR r n).1=1:=by unfold newR;rw[hT];rfl
  rw[e1]
  refine call_run (sf:=s75) rfl rfl rfl ?_
  simp[s75]
  rw[W_drawP]
  simp[evalRec,hP,theRow,mRow,hl0,cut,hl1,hoA,hsA,hc,U10.a_litM,ga,pairOk,readsSame,mayWrite,AV.allPure,AV.isPure,paste,boxOk,SOp.newBox,hcl2]
  refine⟨_,_,⟨rfl,rfl⟩,?_⟩
  simp[hP,theRow,mRow,hl0,cut,hoA,oneOrAgg,AV.viewL,AV.view,Ent.same,AV.same,hsp,sA0,obj2,pRow]
  done
 ·refine⟨sA1 T r I st n,IA1 I st.length,by simp[sA1],fun li hli=>?_,rfl,rfl,al1 h hT n⟩
  have hl:=h.S hT
  have hl1:li<=I.p:=by omega
  have hl2:li<=I.q:=by
   have:=h.low I.q (by rw[h.lq hT];decide)
   omega
  have hpq:I.p≠I.q:=fun e=>by
   have h1:=h.lq hT
   rw[<-e,h.lp]at h1
   cases h1
  have hql:=lt_of hl
  have hlen:=h.sl
  have hlA:=fun l=>U10.app_some hl l
  have hsQ:=fun l y=>U10.app_set hl l y
  have hoQ:∀y,(st.set I.q y)[I.p]?=some (.rows 0 13 [theRow T r I]):=fun y=>by rw[List.getElem?_set_ne hpq.symm];exact hP
  have hoQA:=fun y l=>U10.app_some (hoQ y) l
  have hsP:=fun y l z=>U10.app_set (hoQ y) l z
  have hsp:∀y x l,((st.set I.q y).set I.p x++l)[I.p]?=some x:=fun y x l=>by
   rw[List.getElem?_append_left (by simpa using hpl0),List.getElem?_set_self (by simpa using hpl0)]
  have hsq:∀y x l,((st.set I.q y).set I.p x++l)[I.q]?=some y:=fun y x l=>by
   rw[List.getElem?_append_left (by simpa using hql),List.getElem?_set_ne hpq,List.getElem?_set_self hql]
  have ga:=fun bx=>U10.a_appM (lim:=li) (bx:=bx) g1 (hlA _) (by simp[hlen,room];omega) hl2
  have e1:(newR r n).1=(r.s.length:Int)+1:=rfl
  rw[e1]
  refine call_run (sf:=s75) rfl rfl rfl ?_
  simp[s75]
  rw[W_drawP]
  simp only[theRow,mRow,L1 hT]at hP hoQ hoQA hoA hsA
  simp[evalRec,hP,cut,hl1,hsQ,hoQA,hsP,hc,U10.a_litM,ga,pairOk,readsSame,mayWrite,AV.allPure,AV.isPure,paste,boxOk,SOp.newBox,hcl2]
  refine⟨_,_,⟨rfl,rfl⟩,?_⟩
  simp[hP,cut,hoA,oneOrAgg,AV.viewL,AV.view,Ent.same,AV.same,hsp,hsq,hlen,sA1,obj2,pRow,mRow]
  done
end E13
namespace E13
open Ax Go Code14z IrV Mach
variable {T:XD}{lim:Nat}{L:List Fr}{r:Ms}{I:Ids}{st st':Store}{f:Fr}
def lA:List Int->AV
 |[]=>.nilSl
 |a::l=>.lst 1 (ints (a::l))
mutual
theorem same_refl:∀a:AV,a.same a=true
 |.agg a|.tup a=>by simp only[AV.same];exact sameL_refl a
 |.lst s a|.own s a|.raw s a=>by simp only[AV.same,Bool.and_eq_true,beq_self_eq_true,true_and];exact sameLL_refl a
 |.pel s a i k=>by simp only[AV.same,Bool.and_eq_true,beq_self_eq_true,true_and,and_true];exact sameLL_refl a
 |.fn f a b=>by simp only[AV.same,Bool.and_eq_true,beq_self_eq_true,true_and];exact⟨sameL_refl a,sameL_refl b⟩
 |.undef|.gone|.nilPtr|.nilSl|.nilMap|.nilFn|.nilIf|.emp=>rfl
 |.bool a=>by simp[AV.same]
 |.int k a=>by simp[AV.same]
 |.str a=>by simp[AV.same]
 |.mu i v=>by simp[AV.same]
 |.ptr a b c d=>by simp[AV.same]
 |.map i=>by simp[AV.same]
theorem sameL_refl:∀l:List AV,AV.sameL l l=true
 |[]=>rfl
 |a::l=>by simp only[AV.sameL,Bool.and_eq_true];exact⟨same_refl a,sameL_refl l⟩
theorem sameLL_refl:∀l:List (List AV),AV.sameLL l l=true
 |[]=>rfl
 |a::l=>by simp only[AV.sameLL,Bool.and_eq_true];exact⟨sameL_refl a,sameLL_refl l⟩
end
theorem ints_app(a b:List Int):ints (a++b)=ints a++ints b:=by simp[ints]
theorem vars_new(l:List Int)(m:Nat)(hm:l.length+m<1000000)(st:Store)(li:Nat)(hli:li<=st.length):∃(MV VA:AV)(XM X:List AObj)(a:Nat×Nat),
  (∀bx,act0 0 li (.appendM 1 8) [.val .nilSl,.val (lA l)] st bx=some (.val MV,st++XM,bx))/\
  (∀bx,act0 0 li (.appendZ 1 8 [.int .i64 0]) [.val MV,.val (.int .i64 m)] (st++XM) bx=some (.val VA,st++X,bx))/\
  (∀c t z,VA=vV ⟨c,t,z,l++List.replicate m 0⟩ a)/\(l++List.replicate m 0≠[]->a.1=st.length/\(st++X)[st.length]?=some (.rows a.2 1 (ints (l++List.replicate m 0))))/\AV.allPure [VA]=decide (l++List.replicate m 0=[]):=by
 have hz:ints (List.replicate m 0)=List.replicate m [.int .i64 0]:=zeros m
 have hb:bringsOf st (lA l)=some (ints l):=by cases l<;>rfl
 have hf:fits 1 (ints l)=true:=by simp[fits,ints]
 have hfz:fits 1 (List.replicate m [AV.int .i64 0])=true:=by simp[fits]
 have hp:(ints l).all AV.allPure=true:=by simp[ints,AV.allPure,AV.isPure]
 have r1:(m:Int)*8<=room:=by unfold room;omega
 have r2:(l.length+m)*8<=room:=by unfold room;omega
 have r3:l.length*8<=room:=by unfold room;omega
 have r4:m*8<=room:=by unfold room;omega
 by_cases hl:l=[]
 ·subst hl
  have h1:∀bx,act0 0 li (.appendM 1 8) [.val .nilSl,.val (lA [])] st bx=some (.val .nilSl,st++[],bx):=fun bx=>by
   rw[a_appendM0,hb,List.append_nil];rfl
  by_cases h0:m=0
  ·subst h0
   refine⟨.nilSl,.nilSl,[],[],(0,0),h1,fun bx=>?_,fun c t z=>rfl,fun h=>absurd rfl h,rfl⟩
   rw[a_appendZ]
   simp[AV.allPure,AV.isPure,appM,room]
   rfl
  ·refine⟨.nilSl,.mu st.length 0,[],[.rows 0 1 (List.replicate m [.int .i64 0])],(st.length,0),h1,fun bx=>?_,fun c t z=>?_,fun _=>⟨rfl,by simp[hz]⟩,?_⟩
   ·rw[a_appendZ]
    simp[AV.allPure,AV.isPure,appM,hfz,r1,r4,h0]
   ·unfold vV;rw[if_neg (by simpa using h0)]
   ·simp[AV.allPure,AV.isPure,h0]
 ·have hne:l++List.replicate m 0≠[]:=by simp[hl]
  have hie:(ints l).isEmpty=false:=by cases l with|nil=>exact absurd rfl hl|cons a b=>rfl
  have hlen:(ints l).length=l.length:=by simp[ints]
  refine⟨.mu st.length 0,.mu st.length 1,[.rows 0 1 (ints l)],[.rows 1 1 (ints l++List.replicate m [.int .i64 0])],(st.length,1),fun bx=>?_,fun bx=>?_,fun c t z=>?_,fun _=>⟨rfl,by simp[ints_app,hz]⟩,?_⟩
  ·rw[a_appendM0,hb]
   have hie':ints l≠[]:=fun q=>by rw[q]at hie;cases hie
   simp[hf,hie',hlen,r3]
  ·rw[a_appendZ]
   have hg:(st++[AObj.rows 0 1 (ints l)])[st.length]?=some (.rows 0 1 (ints l)):=by simp
   have hset:(st++[AObj.rows 0 1 (ints l)]).set st.length (.rows 1 1 (ints l++List.replicate m [.int .i64 0]))=st++[.rows 1 1 (ints l++List.replicate m [.int .i64 0])]:=by
    rw[List.set_append_right _ _ (Nat.le_refl _)];simp
   simp[AV.allPure,AV.isPure,appM,hfz,r1,r2,hlen,hli,hset]
  ·unfold vV;rw[if_neg hne]
  ·simp[AV.allPure,AV.isPure,hl]
theorem vV_cells(f:Fr)(a:Nat×Nat):(vV f a).cells=[vV f a]/\(vV f a).isCell=true:=by unfold vV;split<;>exact⟨rfl,rfl⟩
theorem vV_view(f:Fr)(a:Nat×Nat):(vV f a).view=vV f a:=by unfold vV;split<;>rfl
theorem frows_len:∀{L:List Fr}{fl:List (Nat×Nat)},FrAt st L fl->(fRows L fl).length=L.length
 |[],[],_=>rfl
 |f::L,a::b,h=>by simp[fRows,frows_len h.2]
 |[],_::_,h=>h.elim
 |_::_,[],h=>h.elim
theorem brings_one(st:Store)(R:List AV)(hv:AV.viewL R=R):bringsOf (st++[.rows 0 4 [R]]) (.mu st.length 0)=some [R]:=by
 simp[bringsOf,rowsOf,hv]
theorem list_new(h:Rep T lim L r I st)(hL:L.length<=1000)(X:List AObj)(R:List AV)(hR:R.length=4)(hv:AV.viewL R=R)(li:Nat)(hli:li<=lim):∃(F V:Nat)(S1:Store),
  ((I.nl=false/\F=I.f)\/st.length+X.length<=F)/\st.length+X.length<=S1.length/\(∀j,j<st.length+X.length->(I.nl=false->j≠I.f)->S1[j]?=(st++X)[j]?)/\S1[F]?=some (.rows V 4 ((fRows L I.fl).reverse++[R]))/\
  ∀bx,act0 0 li (.appendM 4 48) [.val (fV I),.val (.mu (st++X).length 0)] (st++X++[.rows 0 4 [R]]) bx=some (.val (.mu F V),S1,bx):=by
 have hb:=brings_one (st++X) R hv
 have hf:fits 4 [R]=true:=by simp[fits,hR]
 cases e:I.nl with
 |true=>
  have hl:=h.F0 e
  refine⟨(st++X++[AObj.rows 0 4 [R]]).length,0,st++X++[.rows 0 4 [R]]++[.rows 0 4 [R]],.inr (by simp),by simp,fun j hj _=>?_,?_,fun bx=>?_⟩
  ·rw[List.append_assoc,List.getElem?_append_left (by simpa using hj)]
  ·rw[List.getElem?_append_right (Nat.le_refl _),Nat.sub_self,hl];rfl
  ·unfold fV
   rw[if_pos e,a_appendM0,hb]
   simp[hf,room]
 |false=>
  have hF:=h.F e
  have hlt:=lt_of hF
  have hlen:(fRows L I.fl).length=L.length:=frows_len h.FR
  have hlp:=h.low I.f (by rw[h.lf e];decide)
  have g0:(st++X++[AObj.rows 0 4 [R]])[I.f]?=some (.rows I.fv 4 (fRows L I.fl).reverse):=by
   rw[List.append_assoc,List.getElem?_append_left hlt];exact hF
  refine⟨I.f,I.fv+1,(st++X++[AObj.rows 0 4 [R]]).set I.f (.rows (I.fv+1) 4 ((fRows L I.fl).reverse++[R])),.inl ⟨rfl,rfl⟩,by simp,fun j hj hn=>?_,?_,fun bx=>?_⟩
  ·rw[List.getElem?_set_ne fun c=>hn rfl c.symm,List.getElem?_append_left (by simpa using hj)]
  ·rw[List.getElem?_set_self (by simp;omega)]
  ·unfold fV
   rw[if_neg (by rw[e];simp),a_appendM,hb]
   have hr:(((fRows L I.fl).reverse).length+[R].length)*48<=room:=by simp[hlen];unfold room;omega
   simp only[Option.bind_some,hf,if_true,g0]
   rw[if_pos ⟨trivial,trivial,hr,Nat.zero_le _,.inl (Nat.le_trans hli hlp)⟩]
end E13
