/-
  What a program does, in plain terms.
-/
import Derived.Test.YtpnadocbfbbboaaGreatP

namespace Run
open Ax Go V7 Par Chk
structure Rs where
 inp:List Int
 s:List (List Int)
 g:List Int
 nf:Nat
 e:Int
 code:Int
 out:List Int
 steps:Nat
structure Fm where
 vs:List Int
 res:Int
 done:Bool
structure Cx where
 fuel:Nat
 recs:List Nat
 bs:List Bd
 ng:Nat
def flagI (b:Bool):Int:=if b then 1 else 0
def binI (op a b:Int):Int×Int:=
 if op=14 then (IntKind.i64.wrap (a+b),0)
 else if op=15 then (IntKind.i64.wrap (a-b),0)
 else if op=16 then (IntKind.i64.wrap (a*b),0)
 else if op=17 then (if b=0 then (0,3) else (IntKind.i64.wrap (a.tdiv b),0))
 else if op=18 then (if b=0 then (0,3) else (a.tmod b,0))
 else if op=19 then (flagI (decide (a<b)),0)
 else if op=20 then (flagI (decide (a<=b)),0)
 else if op=21 then (flagI (decide (a=b)),0)
 else if op=22 then (flagI (decide (a≠b)),0)
 else if op=23 then (flagI (decide (a≠0)&&decide (b≠0)),0)
 else if op=24 then (flagI (decide (a≠0)||decide (b≠0)),0)
 else (0,0)
def unI (op a:Int):Int:=if op=12 then IntKind.i64.wrap (0-a) else if op=13 then flagI (decide (a=0)) else 0
def lenS (T:List (List Int))(r:Int):Int×Int:=if 1<=r/\r<=(T.length:Int) then (((T.getD (r-1).toNat []).length:Int),0) else (0,1)
def trapS (T:List (List Int))(r i:Int):Int:=if 1<=r/\r<=(T.length:Int) then (if 0<=i/\i<((T.getD (r-1).toNat []).length:Int) then 0 else 2) else 1
def loadS (T:List (List Int))(r i:Int):Int×Int:=if trapS T r i=0 then ((T.getD (r-1).toNat []).getD i.toNat 0,0) else (0,trapS T r i)
def putS (T:List (List Int))(r i x:Int):List (List Int):=if trapS T r i=0 then T.set (r-1).toNat ((T.getD (r-1).toNat []).set i.toNat x) else T
def clampN (n:Int):Nat:=if n<0 then 0 else if 8<n then 8 else n.toNat
def okR (C:Cx)(r:Rs):Bool:=decide (r.e=0)&&decide (r.steps<C.fuel)
def tick (r:Rs):Rs:={ r with steps:=r.steps+1 }
def stop (r:Rs):Rs:=if r.e=0 then { r with e:=3 } else r
def trapR (r:Rs)(c:Int):Rs:=if c≠0/\r.e=0 then { r with e:=2,code:=c } else r
def gotR (r:Rs)(x:Int×Int):Int×Rs:=(x.1,trapR r x.2)
def at0 (l:List Int):Int:=l.getD 0 0
def at1 (l:List Int):Int:=l.getD 1 0
def at2 (l:List Int):Int:=l.getD 2 0
def es0 (es:List E):E:=match es with|e::_=>e | []=>.mk 0 0 [] [] 0 [] 0 T0 0
def varV (f:Fm)(r:Rs)(ref:Int):Int:=if ref<0 then r.g.getD (-1-ref).toNat 0 else f.vs.getD ref.toNat 0
def setV (x:Rs×Fm)(ref v:Int):Rs×Fm:=if ref<0 then ({ x.1 with g:=x.1.g.set (-1-ref).toNat v },x.2) else (x.1,{ x.2 with vs:=x.2.vs.set ref.toNat v })
def vals (fE:E->Fm->Rs->Int×Rs)(f:Fm):List E->Rs->Option (List Int)×Rs
 |[],r=>(some [],r)
 |e::l,r=>if (fE e f r).2.e≠0 then (none,(fE e f r).2) else match vals fE f l (fE e f r).2 with
  |(some vs,r2)=>(some ((fE e f r).1::vs),r2)
  |(none,r2)=>(none,r2)
def newR (r:Rs)(n:Nat):Int×Rs:=((r.s.length:Int)+1,{ r with s:=r.s++[List.replicate n 0] })
def makeR (r:Rs)(n:Int):Int×Rs:=if n<0\/50<n then (0,trapR r 4) else newR r n.toNat
def readR (r:Rs):Int×Rs:=match r.inp with
 |[]=>(0,trapR r 5)
 |n::l=>(n,{ r with inp:=l })
def prim (C:Cx)(call:Int->List Int->Rs->Int×Rs)(k n ref rec_:Int)(f:Fm)(l:List Int)(r:Rs):Int×Rs:=
 if k=1\/k=2 then (n,r)
 else if k=3 then (0,r)
 else if k=4 then (varV f r ref,r)
 else if k=5 then gotR r (loadS r.s (at0 l) ref)
 else if k=6 then gotR r (loadS r.s (at0 l) (at1 l))
 else if k=7 then call ref l r
 else if k=8 then newR r (clampN (C.recs.getD rec_.toNat 0:Nat))
 else if k=9 then makeR r (at0 l)
 else if k=10 then gotR r (lenS r.s (at0 l))
 else if k=11 then readR r
 else if k=12\/k=13 then (unI k (at0 l),r)
 else gotR r (binI k (at0 l) (at1 l))
def runB (fS:Sm->Rs×Fm->Rs×Fm):List Sm->Rs×Fm->Rs×Fm
 |[],x=>x
 |s::l,x=>if x.2.done=true\/x.1.e≠0 then x else runB fS l (fS s x)
def B0:Bd:=⟨[],[],0⟩
def callR (C:Cx)(fS:Sm->Rs×Fm->Rs×Fm)(i:Int)(l:List Int)(r:Rs):Int×Rs:=
 if 40<=r.nf then (0,trapR r 6)
 else
  let x:=runB fS (C.bs.getD i.toNat B0).code ({ r with nf:=r.nf+1 },⟨l++List.replicate ((C.bs.getD i.toNat B0).vars.length-l.length) 0,0,false⟩)
  (x.2.res,{ x.1 with nf:=x.1.nf-1 })
def loopR (C:Cx)(fE:E->Fm->Rs->Int×Rs)(fS:Sm->Rs×Fm->Rs×Fm)(c:E)(b:List Sm):Nat->Rs×Fm->Rs×Fm
 |0,x=>if x.2.done=true then x else (stop x.1,x.2)
 |k+1,x=>if x.2.done=true then x else if okR C x.1=true then
   (if (fE c x.2 (tick x.1)).2.e≠0\/(fE c x.2 (tick x.1)).1=0 then ((fE c x.2 (tick x.1)).2,x.2) else loopR C fE fS c b k (runB fS b ((fE c x.2 (tick x.1)).2,x.2)))
  else (stop x.1,x.2)
def putR (x:Rs×Fm)(k ref:Int)(l:List Int):Rs×Fm:=
 if k=5 then (trapR { x.1 with s:=putS x.1.s (at0 l) ref (at1 l) } (trapS x.1.s (at0 l) ref),x.2)
 else (trapR { x.1 with s:=putS x.1.s (at0 l) (at1 l) (at2 l) } (trapS x.1.s (at0 l) (at1 l)),x.2)
def actR (fS:Sm->Rs×Fm->Rs×Fm)(k ref:Int)(bd el:List Sm)(l:List Int)(x:Rs×Fm):Rs×Fm:=
 if k=2\/k=3 then setV x ref (at0 l)
 else if k=5 then (if at0 l≠0 then runB fS bd x else runB fS el x)
 else if k=7 then (x.1,{ x.2 with done:=true,res:=if l=[] then x.2.res else at0 l })
 else if k=8 then ({ x.1 with out:=x.1.out++[at0 l] },x.2)
 else x
def stmtR (fE:E->Fm->Rs->Int×Rs)(fS:Sm->Rs×Fm->Rs×Fm)(s:Sm)(x:Rs×Fm):Rs×Fm:=
 if s.k=4 then match vals fE x.2 ((es0 s.es).kids++s.es.drop 1) x.1 with
  |(none,r)=>(r,x.2)
  |(some l,r)=>putR (r,x.2) (es0 s.es).k (es0 s.es).ref l
 else match vals fE x.2 s.es x.1 with
  |(none,r)=>(r,x.2)
  |(some l,r)=>actR fS s.k s.ref s.bd s.el l (r,x.2)
def exprR (C:Cx)(fE:E->Fm->Rs->Int×Rs)(fS:Sm->Rs×Fm->Rs×Fm)(e:E)(f:Fm)(r:Rs):Int×Rs:=match vals fE f e.kids r with
 |(none,r)=>(0,r)
 |(some l,r)=>prim C (callR C fS) e.k e.n e.ref e.ty.r f l r
def ev (C:Cx):Nat->(E->Fm->Rs->Int×Rs)×(Sm->Rs×Fm->Rs×Fm)
 |0=>(fun _ _ r=>(0,stop r),fun s x=>if s.k=1 then x else if s.k=6 then loopR C (fun _ _ r=>(0,stop r)) (fun _ x=>x) (es0 s.es) s.bd 0 x else (stop x.1,x.2))
 |n+1=>(fun e f r=>if okR C r=true then exprR C (ev C n).1 (ev C n).2 e f (tick r) else (0,stop r),
   fun s x=>if s.k=1 then x else if s.k=6 then loopR C (ev C n).1 (ev C n).2 (es0 s.es) s.bd (n+1) x
    else if okR C x.1=true then stmtR (ev C n).1 (ev C n).2 s (tick x.1,x.2) else (stop x.1,x.2))
def r0 (C:Cx)(inp:List Int):Rs:=⟨inp,[],List.replicate C.ng 0,0,0,0,[],0⟩
def endR (r:Rs):Rs:=if r.e=0 then { r with e:=1 } else r
def run (C:Cx)(main:Int)(inp:List Int):Rs:=endR (callR C (ev C C.fuel).2 main [] (r0 C inp)).2
structure On (r r':Rs):Prop where
 out:∃l,r'.out=r.out++l
 st:r.steps<=r'.steps
 e:r.e≠0->r'.e=r.e/\r'.code=r.code
theorem On.rfl' (r:Rs):On r r:=⟨⟨[],by simp⟩,Nat.le_refl _,fun _=>⟨rfl,rfl⟩⟩
theorem On.trans {a b c:Rs}(h:On a b)(k:On b c):On a c:=by
 obtain⟨l1,h1⟩:=h.out
 obtain⟨l2,h2⟩:=k.out
 refine⟨⟨l1++l2,by rw[h2,h1];simp⟩,Nat.le_trans h.st k.st,fun e=>?_⟩
 obtain⟨e1,e2⟩:=h.e e
 obtain⟨e3,e4⟩:=k.e (by rw[e1];exact e)
 exact⟨by rw[e3,e1],by rw[e4,e2]⟩
theorem On.of {a b:Rs}(h1:b.out=a.out)(h2:b.steps=a.steps)(h3:a.e≠0->b.e=a.e/\b.code=a.code):On a b:=⟨⟨[],by simp[h1]⟩,by omega,h3⟩
theorem on_stop (r:Rs):On r (stop r):=by
 unfold stop
 split
 ·rename_i h;exact .of rfl rfl fun e=>absurd h e
 ·exact .rfl' r
theorem on_tick (r:Rs):On r (tick r):=⟨⟨[],by simp[tick]⟩,by simp[tick],fun _=>⟨rfl,rfl⟩⟩
theorem on_trap (r:Rs)(c:Int):On r (trapR r c):=by
 unfold trapR
 split
 ·rename_i h;exact .of rfl rfl fun e=>absurd h.2 e
 ·exact .rfl' r
theorem on_new (r:Rs)(n:Nat):On r (newR r n).2:=.of rfl rfl fun _=>⟨rfl,rfl⟩
theorem on_make (r:Rs)(n:Int):On r (makeR r n).2:=by
 unfold makeR
 split
 ·exact on_trap r 4
 ·exact on_new r _
theorem on_read (r:Rs):On r (readR r).2:=by
 unfold readR
 split
 ·exact on_trap r 5
 ·exact .of rfl rfl fun _=>⟨rfl,rfl⟩
theorem on_set (x:Rs×Fm)(ref v:Int):On x.1 (setV x ref v).1:=by
 unfold setV
 split
 ·exact .of rfl rfl fun _=>⟨rfl,rfl⟩
 ·exact .rfl' _
variable {C:Cx}{fE:E->Fm->Rs->Int×Rs}{fS:Sm->Rs×Fm->Rs×Fm}
theorem on_vals (hE:∀e f r,On r (fE e f r).2)(f:Fm):∀(l:List E)(r:Rs),On r (vals fE f l r).2
 |[],r=>.rfl' r
 |e::l,r=>by
  unfold vals
  split
  ·exact hE e f r
  ·have:=on_vals hE f l (fE e f r).2
   split<;>rename_i h<;>rw[h]at this<;>exact(hE e f r).trans this
theorem on_runB (hS:∀s x,On x.1 (fS s x).1):∀(l:List Sm)(x:Rs×Fm),On x.1 (runB fS l x).1
 |[],x=>.rfl' _
 |s::l,x=>by
  unfold runB
  split
  ·exact .rfl' _
  ·exact(hS s x).trans (on_runB hS l _)
theorem on_call (hS:∀s x,On x.1 (fS s x).1)(i:Int)(l:List Int)(r:Rs):On r (callR C fS i l r).2:=by
 unfold callR
 split
 ·exact on_trap r 6
 ·have:=on_runB hS (C.bs.getD i.toNat B0).code ({ r with nf:=r.nf+1 },⟨l++List.replicate ((C.bs.getD i.toNat B0).vars.length-l.length) 0,0,false⟩)
  exact⟨this.out,this.st,this.e⟩
theorem on_prim (hS:∀s x,On x.1 (fS s x).1)(k n ref rc:Int)(f:Fm)(l:List Int)(r:Rs):On r (prim C (callR C fS) k n ref rc f l r).2:=by
 unfold prim gotR
 repeat' split
 all_goals first|exact .rfl' r|exact on_trap r _|exact on_call hS _ _ _|exact on_new _ _|exact on_make _ _|exact on_read _
theorem on_expr (hE:∀e f r,On r (fE e f r).2)(hS:∀s x,On x.1 (fS s x).1)(e:E)(f:Fm)(r:Rs):On r (exprR C fE fS e f r).2:=by
 unfold exprR
 have:=on_vals hE f e.kids r
 split<;>rename_i h<;>rw[h]at this
 ·exact this
 ·exact this.trans (on_prim hS _ _ _ _ _ _ _)
theorem on_loop (hE:∀e f r,On r (fE e f r).2)(hS:∀s x,On x.1 (fS s x).1)(c:E)(b:List Sm):∀(k:Nat)(x:Rs×Fm),On x.1 (loopR C fE fS c b k x).1
 |0,x=>by
  unfold loopR
  split
  ·exact .rfl' _
  ·exact on_stop _
 |k+1,x=>by
  unfold loopR
  split
  ·exact .rfl' _
  split
  ·have h1:=(on_tick x.1).trans (hE c x.2 (tick x.1))
   split
   ·exact h1
   ·exact h1.trans ((on_runB hS b ((fE c x.2 (tick x.1)).2,x.2)).trans (on_loop hE hS c b k _))
  ·exact on_stop _
theorem on_act (hS:∀s x,On x.1 (fS s x).1)(k ref:Int)(bd el:List Sm)(l:List Int)(x:Rs×Fm):On x.1 (actR fS k ref bd el l x).1:=by
 unfold actR
 split
 ·exact on_set _ _ _
 split
 ·split<;>exact on_runB hS _ _
 split
 ·exact .rfl' _
 split
 ·exact⟨⟨_,rfl⟩,Nat.le_refl _,fun _=>⟨rfl,rfl⟩⟩
 ·exact .rfl' _
theorem on_put1 (r:Rs)(T:List (List Int))(c:Int):On r (trapR { r with s:=T } c):=
 (On.of (a:=r) (b:={ r with s:=T }) rfl rfl fun _=>⟨rfl,rfl⟩).trans (on_trap _ _)
theorem on_put (x:Rs×Fm)(k ref:Int)(l:List Int):On x.1 (putR x k ref l).1:=by
 unfold putR
 split<;>exact on_put1 _ _ _
theorem on_stmt (hE:∀e f r,On r (fE e f r).2)(hS:∀s x,On x.1 (fS s x).1)(s:Sm)(x:Rs×Fm):On x.1 (stmtR fE fS s x).1:=by
 unfold stmtR
 split
 ·have:=on_vals hE x.2 ((es0 s.es).kids++s.es.drop 1) x.1
  split<;>rename_i h<;>rw[h]at this
  ·exact this
  ·exact this.trans (on_put (_,x.2) _ _ _)
 ·have:=on_vals hE x.2 s.es x.1
  split<;>rename_i h<;>rw[h]at this
  ·exact this
  ·exact this.trans (on_act hS _ _ _ _ _ (_,x.2))
theorem on_ev:∀n,(∀e f r,On r ((ev C n).1 e f r).2)/\(∀s x,On x.1 ((ev C n).2 s x).1)
 |0=>by
  refine⟨fun e f r=>on_stop r,fun s x=>?_⟩
  show On x.1 ((if s.k=1 then x else if s.k=6 then loopR C (fun _ _ r=>(0,stop r)) (fun _ x=>x) (es0 s.es) s.bd 0 x else (stop x.1,x.2)):Rs×Fm).1
  split
  ·exact .rfl' _
  split
  ·exact on_loop (fun _ _ r=>on_stop r) (fun _ x=>.rfl' _) _ _ _ _
  ·exact on_stop _
 |n+1=>by
  obtain⟨hE,hS⟩:=on_ev n
  refine⟨fun e f r=>?_,fun s x=>?_⟩
  ·show On r ((if okR C r=true then exprR C (ev C n).1 (ev C n).2 e f (tick r) else (0,stop r)):Int×Rs).2
   split
   ·exact(on_tick r).trans (on_expr hE hS e f _)
   ·exact on_stop r
  ·show On x.1 ((if s.k=1 then x else if s.k=6 then loopR C (ev C n).1 (ev C n).2 (es0 s.es) s.bd (n+1) x
    else if okR C x.1=true then stmtR (ev C n).1 (ev C n).2 s (tick x.1,x.2) else (stop x.1,x.2)):Rs×Fm).1
   split
   ·exact .rfl' _
   split
   ·exact on_loop hE hS _ _ _ _
   split
   ·exact(on_tick x.1).trans (on_stmt hE hS s (tick x.1,x.2))
   ·exact on_stop _
end Run
namespace Run
open Ax Go V7 Par Chk
structure Dm where
 ng:Nat
 nr:Nat
 ps:List Nat
def okK (D:Dm)(k ref:Int)(ty:T3)(m:Nat):Prop:=
 (1<=k/\k<=24)/\(k=4→-1-ref<D.ng)/\(k=5\/k=9\/k=10\/k=12\/k=13->m=1)/\(k=6\/14<=k->m=2)/\
 (k=7->0<=ref/\∃h:ref.toNat<D.ps.length,m=D.ps[ref.toNat])/\(k=8->0<=ty.r/\ty.r<D.nr)/\(k=5->0<=ref)
mutual
def WE (D:Dm):E->Prop
 |.mk k _ _ _ _ kids _ ty ref=>okK D k ref ty kids.length/\WL D kids
def WL (D:Dm):List E->Prop
 |[]=>True
 |e::l=>WE D e/\WL D l
end
def okS (D:Dm)(k ref:Int)(es:List E):Prop:=
 (1<=k/\k<=9)/\(k=3→-1-ref<D.ng)/\(k=2\/k=3\/k=5\/k=6\/k=8\/k=9->es.length=1)/\(k=4->∃a b,es=[a,b]/\(a.k=5\/a.k=6))/\(k=7->es.length<=1)
mutual
def WS (D:Dm):Sm->Prop
 |.mk k _ _ _ es bd el _ ref=>okS D k ref es/\WL D es/\WB D bd/\WB D el
def WB (D:Dm):List Sm->Prop
 |[]=>True
 |s::l=>WS D s/\WB D l
end
variable {D:Dm}{H:Hd}
theorem WE_eq (e:E):WE D e↔okK D e.k e.ref e.ty e.kids.length/\WL D e.kids:=by
 obtain⟨k,_,nm,on,od,kids,a,ty,ref⟩:=e
 unfold WE;exact Iff.rfl
theorem WL_iff:∀l:List E,WL D l↔∀e∈l,WE D e
 |[]=>by simp[WL]
 |e::l=>by simp[WL,WL_iff l]
theorem WS_eq (s:Sm):WS D s↔okS D s.k s.ref s.es/\WL D s.es/\WB D s.bd/\WB D s.el:=by
 obtain⟨k,nm,on,od,es,bd,el,a,ref⟩:=s
 unfold WS;exact Iff.rfl
theorem WB_iff:∀l:List Sm,WB D l↔∀e∈l,WS D e
 |[]=>by simp[WB]
 |e::l=>by simp[WB,WB_iff l]
def dmOf (H:Hd):Dm:=⟨H.globals.length,H.shapes.length,H.sigs.map (·.ps.length)⟩
theorem looks_get {s:List UInt8}:∀{l:List Sg}{i k:Nat}{t:Sg},lookS s i l=some (k,t)->i<=k/\∃h:k-i<l.length,l[k-i]=t
 |[],_,_,_,h=>by cases h
 |g::l,i,k,t,h=>by
  unfold lookS at h
  split at h
  ·cases h;exact⟨Nat.le_refl _,by simp,by simp⟩
  ·obtain⟨h1,h2,h3⟩:=looks_get h
   have e:k-i=(k-(i+1))+1:=by omega
   refine⟨by omega,by simp only[List.length_cons];omega,?_⟩
   simp only[e,List.getElem_cons_succ]
   exact h3
theorem sameTs_len:∀{l:List Vd}{ks:List E},sameTs l ks=true->ks.length=l.length
 |[],[],_=>rfl
 |_::_,_::_,h=>by simp only[sameTs,Bool.and_eq_true]at h;simp[sameTs_len h.2]
 |[],_::_,h=>by simp[sameTs]at h
 |_::_,[],h=>by simp[sameTs]at h
theorem lookF_ge {s:List UInt8}{l:List Vd}{k:Nat}{t:T3}(h:lookF s 0 l=some (k,t)):k<l.length:=by have:=look_lt h;omega
theorem typ_ok {V:List Vd}{k:Int}{nm on:List UInt8}{od n:Int}{ks:List E}{t:T3}{r:Int}(hsh:H.shapes.length=H.rs.length)(hk:kindsT k n ks.length=true)(h:typE H V k nm on od ks=some (t,r)):okK (dmOf H) k r t ks.length:=by
 have hkk:1<=k/\k<=24:=by
  unfold kindsT at hk
  split at hk
  ·omega
  split at hk
  ·omega
  split at hk
  ·omega
  split at hk
  ·omega
  ·simp only[Bool.and_eq_true,Bool.or_eq_true,decide_eq_true_eq]at hk
   omega
 refine⟨hkk,fun e=>?_,fun e=>?_,fun e=>?_,fun e=>?_,fun e=>?_,fun e=>?_⟩
 ·unfold typE at h
  rw[if_neg (by omega),if_neg (by omega),if_neg (by omega),if_pos e]at h
  unfold varT at h
  split at h
  ·cases h;show _<(H.globals.length:Int);omega
  ·split at h
   ·rename_i hg;cases h;have:=lookF_ge hg;show _<(H.globals.length:Int);omega
   ·cases h
 ·unfold kindsT at hk
  rw[if_neg (by omega),if_neg (by omega),if_neg (by omega),if_pos e]at hk
  simpa using hk
 ·unfold kindsT at hk
  rw[if_neg (by omega),if_neg (by omega),if_neg (by omega),if_neg (by omega)]at hk
  simp only[Bool.and_eq_true,decide_eq_true_eq]at hk
  exact hk.2
 ·unfold typE at h
  rw[if_neg (by omega),if_neg (by omega),if_neg (by omega),if_neg (by omega),if_neg (by omega),if_neg (by omega),if_pos e]at h
  unfold callT at h
  split at h
  ·rename_i i s hs
   split at h
   ·rename_i hsm
    cases h
    obtain⟨_,h2,h3⟩:=looks_get hs
    refine⟨by omega,by simp[dmOf];exact h2,?_⟩
    simp only[dmOf,Int.toNat_natCast,List.getElem_map]
    simp only[Nat.sub_zero]at h3
    rw[h3]
    exact sameTs_len hsm
   ·cases h
  ·cases h
 ·unfold typE at h
  rw[if_neg (by omega),if_neg (by omega),if_neg (by omega),if_neg (by omega),if_neg (by omega),if_neg (by omega),if_neg (by omega),if_pos e]at h
  unfold okT at h
  split at h
  ·rename_i hc
   cases h
   simp only[Bool.and_eq_true,decide_eq_true_eq]at hc
   obtain⟨⟨h1,h2⟩,h3⟩:=hc
   have:=(type_wt H.rs on od)
   unfold typeT at h1 h2 ⊢
   split
   ·rename_i c;rw[if_pos c]at h1;cases h1
   split
   ·rename_i c1 c2;rw[if_neg c1,if_pos c2]at h2;simp at h2
   split
   ·rename_i c1 c2 c3;rw[if_neg c1,if_neg c2,if_pos c3]at h2;simp at h2
   split
   ·rename_i c1 c2 c3 c4;rw[if_neg c1,if_neg c2,if_neg c3,if_pos c4]at h1;cases h1
   ·simp only[dmOf,hsh]
    rcases idxS_ge H.rs on with h5|⟨j,h5,h6⟩
    ·rename_i c;omega
    ·rw[h5];omega
  ·cases h
 ·unfold typE at h
  rw[if_neg (by omega),if_neg (by omega),if_neg (by omega),if_neg (by omega),if_pos e]at h
  unfold fieldT at h
  split at h
  ·split at h
   ·split at h
    ·cases h;omega
    ·cases h
   ·cases h
  ·cases h
theorem ckE_wf {V:List Vd}(hsh:H.shapes.length=H.rs.length)(e:E):∀y,ckE H V e=.ok y->WE (dmOf H) y:=by
 induction e using E.ind with
 |_ e ih=>
  intro y h
  obtain⟨ks,t,r,h1,h2,h3,rfl⟩:=ckE_ok h
  rw[WE_eq]
  have h4:kindsT e.k e.n ks.length=true:=by rw[ckV_len h2];exact h1
  refine⟨typ_ok (n:=e.n) hsh h4 h3,?_⟩
  rw[WL_iff]
  exact ckV_mem h2 ih
theorem es_wf {V:List Vd}{k:Int}{es ys:List E}(hsh:H.shapes.length=H.rs.length)(h:esT H V k es=.ok ys):WL (dmOf H) ys:=by
 unfold esT at h
 rw[WL_iff]
 split at h
 ·split at h
  ·rename_i e l
   cases hx:ckE H V e with
   |error a=>rw[hx]at h;cases h
   |ok y=>
    rw[hx]at h;cases h
    intro z hz
    rw[List.mem_singleton.1 hz]
    exact ckE_wf hsh e y hx
  ·cases h;simp
 ·exact ckV_mem h fun e _ y hy=>ckE_wf hsh e y hy
theorem form_ok {has:Bool}{k:Int}{es:List E}(h:formT has k es=true):(1<=k/\k<=9)/\(k=2\/k=3\/k=5\/k=6\/k=8\/k=9->es.length=1)/\(k=4->∃a b,es=[a,b]/\(a.k=5\/a.k=6))/\(k=7->es.length<=1):=by
 unfold formT at h
 split at h
 ·refine⟨by omega,fun _=>by omega,fun _=>by omega,fun _=>by omega⟩
 split at h
 ·split at h
  ·rename_i a b
   simp only[Bool.or_eq_true,decide_eq_true_eq]at h
   exact⟨by omega,fun _=>by omega,fun _=>⟨a,b,rfl,h⟩,fun _=>by omega⟩
  ·cases h
 split at h
 ·simp only[Bool.or_eq_true,Bool.and_eq_true,decide_eq_true_eq]at h
  exact⟨by omega,fun _=>by omega,fun _=>by omega,fun _=>by omega⟩
 split at h
 ·split at h
  ·exact⟨by omega,fun _=>by simp,fun _=>by omega,fun _=>by omega⟩
  ·cases h
 split at h
 ·simp only[decide_eq_true_eq]at h
  exact⟨by omega,fun _=>h,fun _=>by omega,fun _=>by omega⟩
 ·cases h
theorem fit_g {res:T3}{V W:List Vd}{nm:List UInt8}{es:List E}{t:T3}{r:Int}(h:fitT H res V 3 nm es t=some (r,W)) : -1-r<(H.globals.length:Int):=by
 unfold fitT at h
 rw[if_neg (by omega),if_neg (by omega),if_pos rfl]at h
 split at h
 ·rename_i hv
  split at h
  ·cases h
   unfold varT at hv
   split at hv
   ·cases hv;omega
   ·split at hv
    ·rename_i hg;cases hv;have:=lookF_ge hg;omega
    ·cases hv
  ·cases h
 ·cases h
theorem ckB_wf0 {has:Bool}{res:T3}:∀{l ys:List Sm}{V X:List Vd},(∀s∈l,∀V y W,ckS H has res V s=.ok (y,W)->WS (dmOf H) y)->ckB H has res V l=.ok (ys,X)->WB (dmOf H) ys
 |[],ys,V,X,_,h=>by
  unfold ckB at h
  cases h
  simp[WB]
 |s::l,ys,V,X,hp,h=>by
  obtain⟨y,W,zs,h1,h2,rfl⟩:=ckB_cons h
  unfold WB
  exact⟨hp s List.mem_cons_self V y W h1,ckB_wf0 (fun t ht=>hp t (List.mem_cons_of_mem _ ht)) h2⟩
theorem ckS_wf {has:Bool}{res:T3}(hsh:H.shapes.length=H.rs.length)(s:Sm):∀V y X,ckS H has res V s=.ok (y,X)->WS (dmOf H) y:=by
 induction s using Sm.ind with
 |_ s ih1 ih2=>
  intro V y X h
  obtain⟨t,ys,r,W,hf,ht,hys,hfit,hh⟩:=ckS_ok h
  have hes:=es_wf hsh hys
  obtain⟨f1,f2,f3,f4⟩:=form_ok (esT_form hys hf)
  have hok:okS (dmOf H) s.k r ys:=⟨f1,fun e=>by rw[e]at hfit;exact fit_g hfit,f2,f3,f4⟩
  rcases hh with⟨_,b,W1,c,hb,hc,rfl⟩|⟨_,b,hb,rfl⟩|⟨_,_,_,rfl⟩
  ·rw[WS_eq];exact⟨hok,hes,ckB_wf0 ih1 hb,ckB_wf0 ih2 hc⟩
  ·rw[WS_eq];exact⟨hok,hes,ckB_wf0 ih1 hb,by simp[Sm.el,WB]⟩
  ·rw[WS_eq];exact⟨hok,hes,by simp[Sm.bd,WB],by simp[Sm.el,WB]⟩
theorem ckF_wf (hsh:H.shapes.length=H.rs.length):∀{ss:List Sg}{fs:List Fc}{bs:List Bd},ckF H ss fs=.ok bs->∀b∈bs,WB (dmOf H) b.code
 |[],fs,bs,h=>by
  unfold ckF at h
  cases h
  simp
 |_::_,[],bs,h=>by
  unfold ckF at h
  cases h
  simp
 |s::ss,f::fs,bs,h=>by
  unfold ckF at h
  split at h
  ·cases h
  ·rename_i c W hb
   split at h
   ·cases h
   ·rename_i l hl
    cases h
    intro b hbm
    rcases List.mem_cons.1 hbm with rfl|hbm
    ·exact ckB_wf0 (fun s _=>ckS_wf hsh s) hb
    ·exact ckF_wf hsh hl b hbm
end Run
namespace Run
open Ax Go V7 Par Chk
structure Gd (C:Cx)(d:Nat)(r:Rs):Prop where
 s:r.s.length+d<=r.steps
 o:r.out.length+d<=r.steps
 g:r.g.length=C.ng
 st:r.steps<=C.fuel
 nf:r.nf<=40
variable {C:Cx}{fE:E->Fm->Rs->Int×Rs}{fS:Sm->Rs×Fm->Rs×Fm}{d:Nat}
theorem Gd.less {d':Nat}{r:Rs}(h:Gd C d r)(hd:d'<=d):Gd C d' r:=⟨by have:=h.s;omega,by have:=h.o;omega,h.g,h.st,h.nf⟩
theorem Gd.tick {r:Rs}(h:Gd C d r)(ho:okR C r=true):Gd C (d+1) (tick r):=by
 unfold okR at ho
 rw[Bool.and_eq_true,decide_eq_true_eq,decide_eq_true_eq]at ho
 exact⟨by have:=h.s;simp only[Run.tick];omega,by have:=h.o;simp only[Run.tick];omega,h.g,by simp only[Run.tick];omega,h.nf⟩
theorem Gd.stop {r:Rs}(h:Gd C d r):Gd C d (stop r)/\(Run.stop r).nf=r.nf:=by
 unfold Run.stop
 split
 ·exact⟨⟨h.s,h.o,h.g,h.st,h.nf⟩,rfl⟩
 ·exact⟨h,rfl⟩
theorem Gd.trap {r:Rs}(h:Gd C d r)(c:Int):Gd C d (trapR r c)/\(trapR r c).nf=r.nf:=by
 unfold trapR
 split
 ·exact⟨⟨h.s,h.o,h.g,h.st,h.nf⟩,rfl⟩
 ·exact⟨h,rfl⟩
def GE (C:Cx)(fE:E->Fm->Rs->Int×Rs):Prop:=∀d e f r,Gd C d r->Gd C d (fE e f r).2/\(fE e f r).2.nf=r.nf
def GS (C:Cx)(fS:Sm->Rs×Fm->Rs×Fm):Prop:=∀d s x,Gd C d x.1->Gd C d (fS s x).1/\(fS s x).1.nf=x.1.nf/\(fS s x).2.vs.length=x.2.vs.length
theorem put_len {T:List (List Int)}{r i x:Int}:(putS T r i x).length=T.length:=by unfold putS;split<;>simp
theorem vals_gd (hE:GE C fE)(f:Fm):∀(l:List E)(d:Nat)(r:Rs),Gd C d r->Gd C d (vals fE f l r).2/\(vals fE f l r).2.nf=r.nf
 |[],_,r,h=>⟨h,rfl⟩
 |e::l,d,r,h=>by
  unfold vals
  obtain⟨h1,h2⟩:=hE d e f r h
  split
  ·exact⟨h1,h2⟩
  ·have:=vals_gd hE f l d (fE e f r).2 h1
   split<;>rename_i h3<;>rw[h3]at this<;>exact⟨this.1,by rw[this.2,h2]⟩
theorem runB_gd (hS:GS C fS):∀(l:List Sm)(d:Nat)(x:Rs×Fm),Gd C d x.1->Gd C d (runB fS l x).1/\(runB fS l x).1.nf=x.1.nf/\(runB fS l x).2.vs.length=x.2.vs.length
 |[],_,x,h=>⟨h,rfl,rfl⟩
 |s::l,d,x,h=>by
  unfold runB
  split
  ·exact⟨h,rfl,rfl⟩
  ·obtain⟨h1,h2,h3⟩:=hS d s x h
   obtain⟨k1,k2,k3⟩:=runB_gd hS l d _ h1
   exact⟨k1,by rw[k2,h2],by rw[k3,h3]⟩
theorem call_gd (hS:GS C fS)(i:Int)(l:List Int)(r:Rs)(h:Gd C d r):Gd C d (callR C fS i l r).2/\(callR C fS i l r).2.nf=r.nf:=by
 unfold callR
 split
 ·exact h.trap 6
 ·rename_i hn
  obtain⟨h1,h2,_⟩:=runB_gd hS (C.bs.getD i.toNat B0).code d ({ r with nf:=r.nf+1 },⟨l++List.replicate ((C.bs.getD i.toNat B0).vars.length-l.length) 0,0,false⟩) ⟨h.s,h.o,h.g,h.st,by show r.nf+1<=40;omega⟩
  simp only at h2 ⊢
  refine⟨⟨h1.s,h1.o,h1.g,h1.st,?_⟩,?_⟩
  ·have:=h.nf;show _-1<=40;omega
  ·show _-1=_;omega
theorem new_gd {r:Rs}(h:Gd C (d+1) r)(n:Nat):Gd C d (newR r n).2/\(newR r n).2.nf=r.nf:=
 ⟨⟨by have:=h.s;simp only[newR,List.length_append,List.length_cons,List.length_nil];omega,by have:=h.o;simp only[newR];omega,h.g,h.st,h.nf⟩,rfl⟩
theorem prim_gd (hS:GS C fS)(k n ref rc:Int)(f:Fm)(l:List Int)(r:Rs)(h:Gd C (d+1) r):Gd C d (prim C (callR C fS) k n ref rc f l r).2/\(prim C (callR C fS) k n ref rc f l r).2.nf=r.nf:=by
 have h0:=h.less (d':=d) (by omega)
 unfold prim gotR
 split
 ·exact⟨h0,rfl⟩
 split
 ·exact⟨h0,rfl⟩
 split
 ·exact⟨h0,rfl⟩
 split
 ·exact h0.trap _
 split
 ·exact h0.trap _
 split
 ·exact call_gd hS _ _ _ h0
 split
 ·exact new_gd h _
 split
 ·unfold makeR
  split
  ·exact h0.trap _
  ·exact new_gd h _
 split
 ·exact h0.trap _
 split
 ·unfold readR
  split
  ·exact h0.trap _
  ·exact⟨⟨h0.s,h0.o,h0.g,h0.st,h0.nf⟩,rfl⟩
 split
 ·exact⟨h0,rfl⟩
 ·exact h0.trap _
theorem expr_gd (hE:GE C fE)(hS:GS C fS)(e:E)(f:Fm)(r:Rs)(h:Gd C (d+1) r):Gd C d (exprR C fE fS e f r).2/\(exprR C fE fS e f r).2.nf=r.nf:=by
 unfold exprR
 have:=vals_gd hE f e.kids (d+1) r h
 split<;>rename_i h1<;>rw[h1]at this
 ·exact⟨this.1.less (by omega),this.2⟩
 ·obtain⟨k1,k2⟩:=prim_gd hS e.k e.n e.ref e.ty.r f _ _ this.1
  exact⟨k1,by rw[k2];exact this.2⟩
theorem loop_gd (hE:GE C fE)(hS:GS C fS)(c:E)(b:List Sm):∀(k d:Nat)(x:Rs×Fm),Gd C d x.1->Gd C d (loopR C fE fS c b k x).1/\(loopR C fE fS c b k x).1.nf=x.1.nf/\(loopR C fE fS c b k x).2.vs.length=x.2.vs.length
 |0,d,x,h=>by
  unfold loopR
  split
  ·exact⟨h,rfl,rfl⟩
  ·exact⟨h.stop.1,h.stop.2,rfl⟩
 |k+1,d,x,h=>by
  unfold loopR
  split
  ·exact⟨h,rfl,rfl⟩
  split
  ·rename_i ho
   obtain⟨h1,h2⟩:=hE d c x.2 (tick x.1) ((h.tick ho).less (by omega))
   split
   ·exact⟨h1,h2,rfl⟩
   ·obtain⟨k1,k2,k3⟩:=runB_gd hS b d ((fE c x.2 (tick x.1)).2,x.2) h1
    obtain⟨j1,j2,j3⟩:=loop_gd hE hS c b k d _ k1
    exact⟨j1,by rw[j2,k2];exact h2,by rw[j3,k3]⟩
  ·exact⟨h.stop.1,h.stop.2,rfl⟩
theorem set_gd {x:Rs×Fm}(h:Gd C d x.1)(ref v:Int):Gd C d (setV x ref v).1/\(setV x ref v).1.nf=x.1.nf/\(setV x ref v).2.vs.length=x.2.vs.length:=by
 unfold setV
 split
 ·exact⟨⟨h.s,h.o,by simp[h.g],h.st,h.nf⟩,rfl,rfl⟩
 ·exact⟨h,rfl,by simp⟩
theorem act_gd (hS:GS C fS)(k ref:Int)(bd el:List Sm)(l:List Int)(x:Rs×Fm)(h:Gd C (d+1) x.1):Gd C d (actR fS k ref bd el l x).1/\(actR fS k ref bd el l x).1.nf=x.1.nf/\(actR fS k ref bd el l x).2.vs.length=x.2.vs.length:=by
 have h0:=h.less (d':=d) (by omega)
 unfold actR
 split
 ·exact set_gd h0 _ _
 split
 ·split<;>exact runB_gd hS _ _ _ h0
 split
 ·exact⟨h0,rfl,rfl⟩
 split
 ·exact⟨⟨h0.s,by have:=h.o;simp only[List.length_append,List.length_cons,List.length_nil];omega,h0.g,h0.st,h0.nf⟩,rfl,rfl⟩
 ·exact⟨h0,rfl,rfl⟩
theorem put_gd1 {r:Rs}(h:Gd C d r)(T:List (List Int))(hT:T.length=r.s.length)(c:Int):Gd C d (trapR { r with s:=T } c)/\(trapR { r with s:=T } c).nf=r.nf:=
 Gd.trap (r:={ r with s:=T }) ⟨by show T.length+d<=_;rw[hT];exact h.s,h.o,h.g,h.st,h.nf⟩ c
theorem put_gd {x:Rs×Fm}(h:Gd C d x.1)(k ref:Int)(l:List Int):Gd C d (putR x k ref l).1/\(putR x k ref l).1.nf=x.1.nf/\(putR x k ref l).2.vs.length=x.2.vs.length:=by
 unfold putR
 split
 ·obtain⟨h1,h2⟩:=put_gd1 h (putS x.1.s (at0 l) ref (at1 l)) put_len (trapS x.1.s (at0 l) ref)
  exact⟨h1,h2,rfl⟩
 ·obtain⟨h1,h2⟩:=put_gd1 h (putS x.1.s (at0 l) (at1 l) (at2 l)) put_len (trapS x.1.s (at0 l) (at1 l))
  exact⟨h1,h2,rfl⟩
theorem stmt_gd (hE:GE C fE)(hS:GS C fS)(s:Sm)(x:Rs×Fm)(h:Gd C (d+1) x.1):Gd C d (stmtR fE fS s x).1/\(stmtR fE fS s x).1.nf=x.1.nf/\(stmtR fE fS s x).2.vs.length=x.2.vs.length:=by
 unfold stmtR
 split
 ·have:=vals_gd hE x.2 ((es0 s.es).kids++s.es.drop 1) (d+1) x.1 h
  split<;>rename_i h1<;>rw[h1]at this
  ·exact⟨this.1.less (by omega),this.2,rfl⟩
  ·obtain⟨k1,k2,k3⟩:=put_gd (x:=(_,x.2)) (this.1.less (d':=d) (by omega)) (es0 s.es).k (es0 s.es).ref _
   exact⟨k1,by rw[k2];exact this.2,k3⟩
 ·have:=vals_gd hE x.2 s.es (d+1) x.1 h
  split<;>rename_i h1<;>rw[h1]at this
  ·exact⟨this.1.less (by omega),this.2,rfl⟩
  ·obtain⟨k1,k2,k3⟩:=act_gd hS s.k s.ref s.bd s.el _ (_,x.2) this.1
   exact⟨k1,by rw[k2];exact this.2,k3⟩
theorem ev_gd:∀n,GE C (ev C n).1/\GS C (ev C n).2
 |0=>by
  refine⟨fun d e f r h=>h.stop,fun d s x h=>?_⟩
  show Gd C d ((if s.k=1 then x else if s.k=6 then loopR C (fun _ _ r=>(0,stop r)) (fun _ x=>x) (es0 s.es) s.bd 0 x else (stop x.1,x.2)):Rs×Fm).1/\((if s.k=1 then x else if s.k=6 then loopR C (fun _ _ r=>(0,stop r)) (fun _ x=>x) (es0 s.es) s.bd 0 x else (stop x.1,x.2)):Rs×Fm).1.nf=_/\((if s.k=1 then x else if s.k=6 then loopR C (fun _ _ r=>(0,stop r)) (fun _ x=>x) (es0 s.es) s.bd 0 x else (stop x.1,x.2)):Rs×Fm).2.vs.length=_
  split
  ·exact⟨h,rfl,rfl⟩
  split
  ·exact loop_gd (fun d e f r h=>h.stop) (fun d s x h=>⟨h,rfl,rfl⟩) _ _ _ _ _ h
  ·exact⟨h.stop.1,h.stop.2,rfl⟩
 |n+1=>by
  obtain⟨hE,hS⟩:=ev_gd n
  refine⟨fun d e f r h=>?_,fun d s x h=>?_⟩
  ·show Gd C d ((if okR C r=true then exprR C (ev C n).1 (ev C n).2 e f (tick r) else (0,stop r)):Int×Rs).2/\((if okR C r=true then exprR C (ev C n).1 (ev C n).2 e f (tick r) else (0,stop r)):Int×Rs).2.nf=_
   split
   ·rename_i ho
    exact expr_gd hE hS e f _ (h.tick ho)
   ·exact h.stop
  ·show Gd C d ((if s.k=1 then x else if s.k=6 then loopR C (ev C n).1 (ev C n).2 (es0 s.es) s.bd (n+1) x else if okR C x.1=true then stmtR (ev C n).1 (ev C n).2 s (tick x.1,x.2) else (stop x.1,x.2)):Rs×Fm).1/\((if s.k=1 then x else if s.k=6 then loopR C (ev C n).1 (ev C n).2 (es0 s.es) s.bd (n+1) x else if okR C x.1=true then stmtR (ev C n).1 (ev C n).2 s (tick x.1,x.2) else (stop x.1,x.2)):Rs×Fm).1.nf=_/\
    ((if s.k=1 then x else if s.k=6 then loopR C (ev C n).1 (ev C n).2 (es0 s.es) s.bd (n+1) x else if okR C x.1=true then stmtR (ev C n).1 (ev C n).2 s (tick x.1,x.2) else (stop x.1,x.2)):Rs×Fm).2.vs.length=_
   split
   ·exact⟨h,rfl,rfl⟩
   split
   ·exact loop_gd hE hS _ _ _ _ _ h
   split
   ·rename_i ho
    obtain⟨k1,k2,k3⟩:=stmt_gd hE hS s (tick x.1,x.2) (h.tick ho)
    exact⟨k1,k2,k3⟩
   ·exact⟨h.stop.1,h.stop.2,rfl⟩
end Run
namespace Run
open Ax Go V7 Par Chk
def OnD (a b:Rs):Prop:=(∃l,b.out=a.out++l)/\a.steps<=b.steps
theorem OnD.on {a b c:Rs}(h:OnD a b)(k:On b c):OnD a c:=by
 obtain⟨⟨l1,h1⟩,h2⟩:=h
 obtain⟨l2,h3⟩:=k.out
 exact⟨⟨l1++l2,by rw[h3,h1];simp⟩,Nat.le_trans h2 k.st⟩
def ext (w:List Int)(r:Rs):Rs:={ r with inp:=r.inp++w }
structure Kd where
 bad:Int->Int->Nat->Prop
 q:Int->Prop
structure Sim (C C':Cx)(w:List Int)(bad:Kd):Prop where
 recs:C'.recs=C.recs
 bs:C'.bs=C.bs
 fuel:C.fuel<=C'.fuel
 A1:(C'.fuel=C.fuel/\bad.q 3)\/∀c,bad.bad 3 c C.fuel
 A2:w=[]\/∀n,bad.bad 2 5 n
 A3:∀e c n,bad.bad e c n->e≠0
 q0:bad.q 0
 q1:bad.q 1
 q2:bad.q 2
def badR (bad:Kd)(r:Rs):Prop:=bad.bad r.e r.code r.steps
variable {C C':Cx}{w:List Int}{bad:Kd}{n:Nat}
variable {fE fE':E->Fm->Rs->Int×Rs}{fS fS':Sm->Rs×Fm->Rs×Fm}
def Ok (C:Cx)(bad:Kd)(r:Rs):Prop:=r.steps<=C.fuel/\bad.q r.e
def Bd' (C:Cx)(bad:Kd)(n:Nat)(r:Rs):Prop:=Ok C bad r/\C.fuel<=r.steps+n
def RE (C:Cx)(w:List Int)(bad:Kd)(x x':Int×Rs):Prop:=(x'.1=x.1/\x'.2=ext w x.2/\Ok C bad x.2)\/(badR bad x.2/\OnD x.2 x'.2)
def RS (C:Cx)(w:List Int)(bad:Kd)(x x':Rs×Fm):Prop:=(x'.1=ext w x.1/\x'.2=x.2/\Ok C bad x.1)\/(badR bad x.1/\OnD x.1 x'.1)
structure Hyp (C C':Cx)(w:List Int)(bad:Kd)(n:Nat)(fE fE':E->Fm->Rs->Int×Rs)(fS fS':Sm->Rs×Fm->Rs×Fm):Prop where
 E:∀e f r,Bd' C bad n r->RE C w bad (fE e f r) (fE' e f (ext w r))
 S:∀s x,Bd' C bad n x.1->RS C w bad (fS s x) (fS' s (ext w x.1,x.2))
 oE:∀e f r,On r (fE e f r).2
 oS:∀s x,On x.1 (fS s x).1
 oE':∀e f r,On r (fE' e f r).2
 oS':∀s x,On x.1 (fS' s x).1
theorem Bd'.on {r r':Rs}(h:Bd' C bad n r)(k:On r r')(hk:Ok C bad r'):Bd' C bad n r':=⟨hk,by have:=h.2;have:=k.st;omega⟩
theorem okR_iff {C:Cx}{r:Rs}:okR C r=true↔r.e=0/\r.steps<C.fuel:=by unfold okR;rw[Bool.and_eq_true,decide_eq_true_eq,decide_eq_true_eq]
theorem vals_e0 {f:Fm}:∀(l:List E)(r:Rs),r.e=0->∀vs r2,vals fE f l r=(some vs,r2)->r2.e=0
 |[],r,h,vs,r2,e=>by unfold vals at e;cases e;exact h
 |x::l,r,h,vs,r2,e=>by
  unfold vals at e
  by_cases he:(fE x f r).2.e≠0
  ·rw[if_pos he]at e;cases e
  ·rw[if_neg he]at e
   split at e
   ·rename_i vs' r2' h2
    cases e
    exact vals_e0 l _ (by omega) _ _ h2
   ·cases e
end Run
