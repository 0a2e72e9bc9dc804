/-
  A builder in memory: its object, what those that are done have left, its list of instructions.
-/
import Derived.Test.YtachcambnjecnaaCode2
import Derived.Test.YtachcambnjecnaaA6
import Derived.Test.YtachcambnjecnaaF

set_option maxRecDepth 100000
set_option maxHeartbeats 4000000
namespace U13
open Ax Go Code13 V7 Par Chk Low
def ownV (sz:Nat)(l:List (List AV)):AV:=if l=[] then .nilSl else .own sz l
structure Bl where
 recs:AV
 glo:List T3
 codes:List Cd
 sites:List Sd
 main:Int
 params:Int
 vars:List T3
 has:Bool
 res:T3
 is:List In
def insA (l:List In)(k:Nat):AV:=if l=[] then .nilSl else .mu k (l.length-1)
def Bl.cells (b:Bl)(k:Nat):List AV:=[b.recs,ownV 3 (b.glo.map T3.cells),ownV 7 (b.codes.map Cd.row),ownV 4 (b.sites.map Sd.row),.int .i64 b.main,
 .int .i64 b.params,ownV 3 (b.vars.map T3.cells),.bool b.has,.int .i64 b.res.b,.int .i64 b.res.r,.int .i64 b.res.d,insA b.is k]
def insO (l:List In):Store:=if l=[] then [] else [.rows (l.length-1) 6 (l.map In.row)]
def stB (b:Bl)(pre:Store):Store:=.rows 0 12 [b.cells (pre.length+1)]::(pre++insO b.is)
abbrev pB:AV:=.ptr 0 0 0 0
theorem pure_arg (l:List Int):(argV l).isPure=true:=by cases l<;>simp[argV,lstV,mkL,ints,AV.isPure]
theorem cell_arg (l:List Int):(argV l).isCell=true:=by cases l<;>simp[argV,lstV,mkL,ints,AV.isCell]
theorem view_arg (l:List Int):(argV l).view=argV l:=by cases l<;>simp[argV,lstV,mkL,ints,AV.view]
variable (wl lim:Nat)
theorem add_v (b:Bl)(pre:Store)(i:In)(v:AV)(_hp:v.isPure=true)(hc:v.isCell=true)(hv:v.view=argV i.args)(hb:b.is.length<1000000000) :
  (orcL S).call 0 0 30 [pB,.agg [.int .i64 i.op,.int .i64 i.a,.int .i64 i.b,.int .i64 i.c,.int .i64 i.n,v]] (stB b pre)=some (.int .i64 b.is.length,stB { b with is:=b.is++[i] } pre):=by
 refine call_run (sf:=s30) rfl rfl rfl ?_
 have hp2:=pure_arg i.args
 have hc2:=cell_arg i.args
 have hv2:=view_arg i.args
 have hr:(b.is.length+1)*64<=room:=by unfold room;omega
 have hr0:64<=room:=by decide
 have hw:IntKind.i64.wrap ((b.is.length:Nat):Int)=b.is.length:=by rw[wrap64]<;>omega
 have h00:IntKind.i64.wrap 0=0:=by decide
 by_cases e:b.is=[]
 ·simp[s30,stB,pB,Bl.cells,insA,insO,e,In.row,mayWrite,AV.allPure,AV.isPure,paste,W_draw0,noBoxes,cut,hc,hv,hp2,hc2,hv2,fits,hr0,h00]
 ·simp[s30,stB,pB,Bl.cells,insA,insO,e,In.row,mayWrite,AV.allPure,AV.isPure,paste,W_draw0,noBoxes,cut,hc,hv,hp2,hc2,hv2,fits,hr,hw]
  have:=List.length_pos_iff.2 e
  omega
theorem add_ok (b:Bl)(pre:Store)(i:In)(hb:b.is.length<1000000000) :
  (orcL S).call 0 0 30 [pB,.agg i.row] (stB b pre)=some (.int .i64 b.is.length,stB { b with is:=b.is++[i] } pre):=
 add_v b pre i (argV i.args) (pure_arg _) (cell_arg _) (view_arg _) hb
theorem temp_ok (b:Bl)(pre:Store)(t:T3)(hb:b.vars.length<1000000000) :
  (orcL S).call 0 lim 29 [pB,.agg t.cells] (stB b pre)=some (.int .i64 b.vars.length,stB { b with vars:=b.vars++[t] } pre):=by
 refine call_run (sf:=s29) rfl rfl rfl ?_
 have hr:(b.vars.length+1)*24<=room:=by unfold room;omega
 have hr0:24<=room:=by decide
 have hw:IntKind.i64.wrap ((b.vars.length:Nat):Int)=b.vars.length:=by rw[wrap64]<;>omega
 have h00:IntKind.i64.wrap 0=0:=by decide
 have htk:List.take (pre.length+(insO b.is).length) (pre++insO b.is)=pre++insO b.is:=List.take_of_length_le (by simp)
 by_cases e:b.vars=[]
 ·have h0:ownV 3 (b.vars.map T3.cells)=.nilSl:=by simp[ownV,e]
  have h1:ownV 3 ((b.vars++[t]).map T3.cells)=.own 3 [t.cells]:=by simp[ownV,e]
  simp only[stB,pB,Bl.cells,h0,h1]
  simp[s29,e,T3.cells,mayWrite,AV.allPure,AV.isPure,AV.took,act0,readP,writeP,oneOrAgg,paste,W_draw0,noBoxes,cut,htk,fits,hr0,h00]
 ·have h0:ownV 3 (b.vars.map T3.cells)=.own 3 (b.vars.map T3.cells):=by simp[ownV,e]
  have h1:ownV 3 ((b.vars++[t]).map T3.cells)=.own 3 (b.vars.map T3.cells++[t.cells]):=by simp[ownV]
  simp only[stB,pB,Bl.cells,h0,h1]
  simp[s29,T3.cells,mayWrite,AV.allPure,AV.isPure,AV.took,act0,readP,writeP,oneOrAgg,paste,W_draw0,noBoxes,cut,htk,fits,hr,hw]
theorem next_ok (b:Bl)(pre:Store)(_hb:b.is.length<1000000000) :
  (orcL S).call 0 lim 79 [pB] (stB b pre)=some (.int .i64 b.is.length,stB b pre):=by
 refine call_run (sf:=s79) rfl rfl rfl ?_
 have htk:∀y:AObj,List.take (pre.length+1) (pre++[y])=pre++[y]:=fun y=>List.take_of_length_le (by simp)
 by_cases e:b.is=[]
 ·simp[s79,stB,pB,Bl.cells,insA,insO,e,cut]
 ·simp[s79,stB,pB,Bl.cells,insA,insO,e,cut,htk]
end U13
namespace U13
open Ax Go Code13 V7 Par Chk Low
mutual
theorem same_self:∀a:AV,a.same a=true
 |.undef|.gone|.nilPtr|.nilSl|.nilMap|.nilFn|.nilIf|.emp=>rfl
 |.bool b=>by simp[AV.same]
 |.int k n=>by simp[AV.same]
 |.str l=>by simp[AV.same]
 |.agg l=>by simp only[AV.same];exact same_selfL l
 |.tup l=>by simp only[AV.same];exact same_selfL l
 |.lst s r=>by simp only[AV.same,beq_self_eq_true,Bool.true_and];exact same_selfLL r
 |.own s r=>by simp only[AV.same,beq_self_eq_true,Bool.true_and];exact same_selfLL r
 |.raw s r=>by simp only[AV.same,beq_self_eq_true,Bool.true_and];exact same_selfLL r
 |.mu i v=>by simp[AV.same]
 |.ptr a b c d=>by simp[AV.same]
 |.pel s a i k=>by simp only[AV.same,beq_self_eq_true,Bool.true_and,Bool.and_true];exact same_selfLL a
 |.map i=>by simp[AV.same]
 |.fn f a b=>by simp only[AV.same,beq_self_eq_true,Bool.true_and,Bool.and_eq_true];exact⟨same_selfL a,same_selfL b⟩
theorem same_selfL:∀l:List AV,AV.sameL l l=true
 |[]=>rfl
 |a::l=>by simp only[AV.sameL,same_self a,same_selfL l,Bool.and_self]
theorem same_selfLL:∀l:List (List AV),AV.sameLL l l=true
 |[]=>rfl
 |a::l=>by simp only[AV.sameLL,same_selfL a,same_selfLL l,Bool.and_self]
end
variable (wl lim:Nat)
theorem site_ok (b:Bl)(pre:Store)(t:T3)(hb:b.sites.length<1000000000) :
  (orcL S).call 0 lim 92 [pB,.agg t.cells] (stB b pre)=some (.int .i64 b.sites.length,stB { b with sites:=b.sites++[⟨b.codes.length,t⟩] } pre):=by
 refine call_run (sf:=s92) rfl rfl rfl ?_
 have hr:(b.sites.length+1)*32<=room:=by unfold room;omega
 have hr0:32<=room:=by decide
 have hw:IntKind.i64.wrap ((b.sites.length:Nat):Int)=b.sites.length:=by rw[wrap64]<;>omega
 have h00:IntKind.i64.wrap 0=0:=by decide
 have htk:List.take (pre.length+(insO b.is).length) (pre++insO b.is)=pre++insO b.is:=List.take_of_length_le (by simp)
 have hc:b.codes=[]/\ownV 7 (b.codes.map Cd.row)=.nilSl\/b.codes≠[]/\ownV 7 (b.codes.map Cd.row)=.own 7 (b.codes.map Cd.row):=by
  by_cases e:b.codes=[]
  ·exact .inl ⟨e,by simp[ownV,e]⟩
  ·exact .inr ⟨e,by simp[ownV,e]⟩
 have hs:b.sites=[]/\ownV 4 (b.sites.map Sd.row)=.nilSl\/b.sites≠[]/\ownV 4 (b.sites.map Sd.row)=.own 4 (b.sites.map Sd.row):=by
  by_cases e:b.sites=[]
  ·exact .inl ⟨e,by simp[ownV,e]⟩
  ·exact .inr ⟨e,by simp[ownV,e]⟩
 rcases hs with⟨e,h0⟩|⟨e,h0⟩<;>rcases hc with⟨e2,hc⟩|⟨e2,hc⟩<;>
 (simp only[stB,pB,Bl.cells,h0,hc]
  simp[s92,e,e2,T3.cells,Sd.row,act0]
  rw[W_drawP]
  simp[evalRec,pairOk,readsSame,boxOk,SOp.newBox,mayWrite,AV.allPure,AV.isPure,AV.took,act0,readP,writeP,oneOrAgg,paste,cut,fits,hr,hr0]
  refine⟨_,_,⟨rfl,rfl⟩,?_⟩
  simp[ownV,same_selfLL,oneOrAgg,AV.viewL,AV.view,Ent.same,AV.same,cut,AV.isPure,act0,readP,htk,hw,h00])
end U13
namespace U13
open Ax Go Code13 V7 Par Chk Low
def Bl.plus (b:Bl)(o:Out):Bl:={ b with vars:=b.vars++o.vs,is:=b.is++o.is,sites:=b.sites++o.ss.map (fun t=>⟨b.codes.length,t⟩) }
theorem plus_O0 (b:Bl):b.plus O0=b:=by simp[Bl.plus,O0]
theorem plus_app (b:Bl)(x y:Out):(b.plus x).plus y=b.plus (x.app y):=by simp[Bl.plus,Out.app]
theorem plus_is (b:Bl)(i:In):{ b with is:=b.is++[i] }=b.plus (ins1 i):=by simp[Bl.plus,ins1]
def Fb (b:Bl)(n:Nat):Prop:=b.vars.length+n<1000000000/\b.is.length+n<1000000000/\b.sites.length+n<1000000000
theorem plus_len (b:Bl)(o:Out):(b.plus o).vars.length=b.vars.length+o.vs.length/\(b.plus o).is.length=b.is.length+o.is.length/\(b.plus o).sites.length=b.sites.length+o.ss.length:=by simp[Bl.plus]
theorem Fb.plus {b:Bl}{o:Out}{n m:Nat}(h:Fb b (m+n))(g:Lo o m):Fb (b.plus o) n:=by
 obtain⟨a1,a2,a3⟩:=plus_len b o
 obtain⟨h1,h2,h3⟩:=h
 obtain⟨g1,g2,g3⟩:=g
 exact⟨by omega,by omega,by omega⟩
theorem Fb.le {b:Bl}{n m:Nat}(h:Fb b m)(g:n<=m):Fb b n:=⟨by have:=h.1;omega,by have:=h.2.1;omega,by have:=h.2.2;omega⟩
theorem cut_stB (b b':Bl)(pre:Store)(h:b'.is=b.is):List.take (stB b pre).length (stB b' pre)=stB b' pre:=by
 apply List.take_of_length_le
 simp[stB,insO,h]
variable (wl lim:Nat)
def insB (b:Bl)(k:Int)(t:T3):Bl:=if k=8\/k=9 then { b with sites:=b.sites++[⟨b.codes.length,t⟩] } else b
theorem insB_is (b:Bl)(k:Int)(t:T3):(insB b k t).is=b.is:=by unfold insB;split<;>rfl
theorem ins_ok (b:Bl)(pre:Store)(e:E)(l:List Int)(hb:b.sites.length<1000000000)(h7:e.k≠7)(h1:e.k=5\/e.k=9\/e.k=10\/e.k=12\/e.k=13->l.length=1)(h2:e.k=6\/14<=e.k->l.length=2)
  (hk:0<e.k/\e.k<25) (hr:e.k=4→-1000000000<e.ref/\e.ref<0) :
  (orcL S).call 0 lim 81 [pB,.agg e.row,mkL 1 (ints l)] (stB b pre)=some (.agg (insOf e.k e.n e.ref 0 b.sites.length l).row,stB (insB b e.k e.ty) pre):=by
 have hs:=fun li=>site_ok li b pre e.ty hb
 have len1:∀{l:List Int},l.length=1->l=[at0 l]:=fun {l} h=>by
  match l,h with
  |[a],_=>rfl
 have len2:∀{l:List Int},l.length=2->l=[at0 l,at1 l]:=fun {l} h=>by
  match l,h with
  |[a,b],_=>rfl
 have e1:isSl (esV e.kids)=true:=isSl_esV
 have e2:(esV e.kids).view=esV e.kids:=view_esV
 have m1:isSl (mkL 1 (ints l))=true:=isSl_mk
 have m2:(mkL 1 (ints l)).view=lstV 1 (ints l):=rfl
 have m3:isSl (lstV 1 (ints l))=true:=isSl_lstV
 have m4:(lstV 1 (ints l)).view=lstV 1 (ints l):=view_lstV
 have m5:rowsL (lstV 1 (ints l))=ints l:=rowsL_lstV
 have m6:isSz 1 (lstV 1 (ints l))=true:=zI
 have m7:rowsL (mkL 1 (ints l))=ints l:=rowsL_mk
 have m8:isSz 1 (mkL 1 (ints l))=true:=by rw[isSz_mk];simp[fits,ints]
 have hc0:List.take (stB b pre).length (stB b pre)=stB b pre:=cut_stB b b pre rfl
 have hc1:List.take (stB b pre).length (stB { b with sites:=b.sites++[⟨b.codes.length,e.ty⟩] } pre)=stB { b with sites:=b.sites++[⟨b.codes.length,e.ty⟩] } pre:=cut_stB b _ pre rfl
 have hn:argV []=.nilSl:=rfl
 rw[E.row_eq]
 simp only[T3.cells]at hs
 refine call_run (sf:=s81) rfl rfl rfl ?_
 generalize esV e.kids=KV at *
 generalize mkL 1 (ints l)=MV at *
 generalize lstV 1 (ints l)=LV at *
 obtain⟨st,hst⟩:∃s,s=stB b pre:=⟨_,rfl⟩
 rw[<-hst]at hs hc0 hc1 ⊢
 simp[s81,e1,SOp.newBox,AV.view,pB]
 by_cases c1:e.k=1
 ·simp[c1,insOf,insB,In.row,hn,paste,hc0,<-hst]
 by_cases c2:e.k=2
 ·simp[c2,insOf,insB,In.row,hn,paste,hc0,<-hst]
 by_cases c3:e.k=3
 ·simp[c3,insOf,insB,In.row,hn,paste,hc0,<-hst]
 by_cases c4:e.k=4
 ·have hw:IntKind.i64.wrap (-1-e.ref) = -1-e.ref:=by obtain⟨a,b⟩:=hr c4;rw[wrap64]<;>omega
  simp[c4,insOf,insB,In.row,hn,paste,hc0,<-hst,hw]
 by_cases c5:e.k=5
 ·obtain⟨a,rfl⟩:∃a,l=[a]:=⟨_,len1 (h1 (.inl c5))⟩
  simp[c5,insOf,insB,In.row,hn,paste,hc0,<-hst,W_draw0,noBoxes,m7,m8,ints,at0]
 by_cases c6:e.k=6
 ·obtain⟨a,b,rfl⟩:∃a b,l=[a,b]:=⟨_,_,len2 (h2 (.inl c6))⟩
  simp[c6,insOf,insB,In.row,hn,paste,hc0,<-hst,W_draw0,noBoxes,m2,m5,m6,ints,at0,at1]
 by_cases c8:e.k=8
 ·simp[c8,insOf,insB,In.row,hn,paste,AV.view,hs,hc1]
 by_cases c9:e.k=9
 ·obtain⟨a,rfl⟩:∃a,l=[a]:=⟨_,len1 (h1 (.inr (.inl c9)))⟩
  have hs':=fun li=>hs li
  simp only[pB]at hs'
  simp[c9,insOf,insB,In.row,hn,AV.view,at0]
  rw[W_drawP]
  simp[evalRec,pairOk,readsSame,boxOk,SOp.newBox,hs',m7,m8,ints,paste,AV.view]
  refine⟨_,_,⟨rfl,rfl⟩,?_⟩
  simp[Ent.same,AV.same,AV.sameL,AV.sameLL,AV.view,AV.viewL,hc1,m7,m8,ints,cut]
 by_cases c10:e.k=10
 ·obtain⟨a,rfl⟩:∃a,l=[a]:=⟨_,len1 (h1 (by omega))⟩
  simp[c10,insOf,insB,In.row,hn,paste,hc0,<-hst,m7,m8,ints,at0]
 by_cases c11:e.k=11
 ·simp[c11,insOf,insB,In.row,hn,paste,hc0,<-hst]
 by_cases c12:e.k=12
 ·obtain⟨a,rfl⟩:∃a,l=[a]:=⟨_,len1 (h1 (by omega))⟩
  simp[c12,insOf,insB,In.row,hn,paste,hc0,<-hst,W_draw0,noBoxes,m7,m8,ints,at0]
 by_cases c13:e.k=13
 ·obtain⟨a,rfl⟩:∃a,l=[a]:=⟨_,len1 (h1 (by omega))⟩
  simp[c13,insOf,insB,In.row,hn,paste,hc0,<-hst,W_draw0,noBoxes,m7,m8,ints,at0]
 ·obtain⟨a,b,rfl⟩:∃a b,l=[a,b]:=⟨_,_,len2 (h2 (by omega))⟩
  simp[c1,c2,c3,c4,c5,c6,h7,c8,c9,c10,c11,c12,c13,insOf,insB,In.row,hn,paste,hc0,<-hst,W_draw0,noBoxes,m2,m5,m6,ints,at0,at1]
theorem call_ok (b:Bl)(pre:Store)(e:E)(l:List Int)(hb:Fb b 1) :
  (orcL S).call 0 0 80 [pB,.agg e.row,mkL 1 (ints l)] (stB b pre)=some (.int .i64 (if e.ty=T0 then -1 else b.vars.length),stB (b.plus (if e.ty=T0 then ins1 ⟨13,-1,0,e.ref,0,l⟩ else ⟨[e.ty],[⟨13,b.vars.length,0,e.ref,0,l⟩],[]⟩)) pre):=by
 obtain⟨hv,hi,hs⟩:=hb
 have e1:isSl (esV e.kids)=true:=isSl_esV
 have e2:(esV e.kids).view=esV e.kids:=view_esV
 have m1:isSl (mkL 1 (ints l))=true:=isSl_mk
 have m2:(mkL 1 (ints l)).view=lstV 1 (ints l):=rfl
 have m3:isSl (lstV 1 (ints l))=true:=isSl_lstV
 have m4:(lstV 1 (ints l)).view=lstV 1 (ints l):=view_lstV
 have ha:argV l=lstV 1 (ints l):=rfl
 rw[E.row_eq]
 by_cases ht:e.ty=T0
 ·have tt:=add_v b pre ⟨13,-1,0,e.ref,0,l⟩ _ (pure_sl m1) (isCell_sl m1) rfl (by omega)
  have eb:e.ty.b=0/\e.ty.r=0/\e.ty.d=0:=by rw[ht];exact⟨rfl,rfl,rfl⟩
  rw[if_pos ht,if_pos ht,<-plus_is]
  refine call_run (sf:=s80) rfl rfl rfl ?_
  generalize esV e.kids=KV at *
  generalize mkL 1 (ints l)=MV at *
  generalize lstV 1 (ints l)=LV at *
  simp[s80,e1,m1,SOp.newBox,AV.view,pB,eb,paste,tt]
 ·have t1:=fun li=>temp_ok li b pre e.ty (by omega)
  have tt:=add_v { b with vars:=b.vars++[e.ty] } pre ⟨13,b.vars.length,0,e.ref,0,l⟩ _ (pure_sl m1) (isCell_sl m1) rfl (by show b.is.length<_;omega)
  simp only[T3.cells]at t1
  have eb:(!decide (e.ty.b=0)||(!decide (e.ty.r=0) || !decide (e.ty.d=0)))=true:=by
   rcases h:e.ty with⟨x,y,z⟩
   rw[h]at ht
   by_cases a:x=0<;>by_cases b:y=0<;>by_cases c:z=0<;>simp_all
  rw[if_neg ht,if_neg ht]
  have ep:b.plus ⟨[e.ty],[⟨13,b.vars.length,0,e.ref,0,l⟩],[]⟩={ b with vars:=b.vars++[e.ty],is:=b.is++[⟨13,b.vars.length,0,e.ref,0,l⟩] }:=by simp[Bl.plus]
  rw[ep]
  refine call_run (sf:=s80) rfl rfl rfl ?_
  generalize esV e.kids=KV at *
  generalize mkL 1 (ints l)=MV at *
  generalize lstV 1 (ints l)=LV at *
  simp[s80,e1,m1,SOp.newBox,AV.view,pB,eb,paste,t1,tt]
end U13
namespace U13
open Ax Go Code13 V7 Par Chk Low
def PE (e:E):Prop:=∀(b:Bl)(pre:Store),LE e->Fb b (E.sz e)->(orcL S).call 0 0 65 [pB,.agg e.row] (stB b pre)=some (.int .i64 (cE b.vars.length b.sites.length e).1,stB (b.plus (cE b.vars.length b.sites.length e).2) pre)
theorem exprs_ok (l:List E)(ih:∀e∈l,PE e)(b:Bl)(pre:Store)(hL:LL l)(hb:Fb b (E.szs l)) :
  (orcL S).call 0 0 77 [pB,esV l] (stB b pre)=some (mkL 1 (ints (cEs b.vars.length b.sites.length l).1),stB (b.plus (cEs b.vars.length b.sites.length l).2) pre):=by
 have hz:isSz 11 (esV l)=true:=zE
 have hsl:isSl (esV l)=true:=isSl_esV
 have hvw:(esV l).view=esV l:=view_esV
 have hrE:rowsL (esV l)=E.rows l:=rowsL_lstV
 have hlen:=E.szs_len l
 have hlb:l.length<1000000000:=by have:=hb.1;omega
 rw[LL_iff]at hL
 have hrl:(E.rows l).length=l.length:=by simp[Erows_map]
 refine call_run (sf:=s77) rfl rfl rfl ?_
 generalize esV l=lv at *
 simp[s77,hsl,hvw,hrE,hrl,pB]
 refine W_loopI s77_l0.eq_1 (fun x:Nat×List Int×Bl×List AV=>⟨[(0,.val (.ptr 0 0 0 0)),(5,.val (mkL 1 (ints x.2.1))),(8,.val lv),(9,.val (.int .i64 l.length)),(10,.val (.int .i64 x.1))],[x.2.2.2],stB x.2.2.1 pre⟩)
  (fun x=>x.1<=l.length/\x.2.1.length=x.1/\Fb x.2.2.1 (E.szs (l.drop x.1))/\(x.2.1++(cEs x.2.2.1.vars.length x.2.2.1.sites.length (l.drop x.1)).1,x.2.2.1.plus (cEs x.2.2.1.vars.length x.2.2.1.sites.length (l.drop x.1)).2)=((cEs b.vars.length b.sites.length l).1,b.plus (cEs b.vars.length b.sites.length l).2)) (fun x=>l.length-x.1) (0,[],b,[]) (by simp[mkL,ints]) ⟨by simp,rfl,by simpa using hb,by simp⟩ ?_
 rintro⟨k,acc,b1,bx⟩ ⟨hk,hacc,f1,hp⟩ ih2
 simp only at hk hacc f1 hp ih2
 by_cases hlt:k<l.length
 ·have hwr:IntKind.i64.wrap ((k:Int)+1)=((k+1:Nat):Int):=by rw[wrap64]<;>omega
  have hm:=List.getElem_mem hlt
  rw[List.drop_eq_getElem_cons hlt]at f1 hp
  simp only[E.szs]at f1
  have hcall:=ih _ hm b1 pre (hL _ hm) (f1.le (by omega))
  have hlo:=cE_lo l[k] b1.vars.length b1.sites.length
  have f2:=f1.plus hlo
  rw[cEs_cons]at hp
  obtain⟨pv,_,ps⟩:=plus_len b1 (cE b1.vars.length b1.sites.length l[k]).2
  have e1:isSl (esV l[k].kids)=true:=isSl_esV
  have e2:(esV l[k].kids).view=esV l[k].kids:=view_esV
  have gE:=E_get hlt
  have hlt':k<(E.rows l).length:=by simpa [Erows_map] using hlt
  have gE':=E_get' hlt hlt'
  have hap:appV 1 8 (mkL 1 (ints acc)) [[.int .i64 (cE b1.vars.length b1.sites.length l[k]).1]]=some (mkL 1 (ints (acc++[(cE b1.vars.length b1.sites.length l[k]).1]))):=by
   rw[appV_mk (by rfl) (by simp[room];omega)];simp
  have ih':=fun bx=>ih2 (k+1,acc++[(cE b1.vars.length b1.sites.length l[k]).1],b1.plus (cE b1.vars.length b1.sites.length l[k]).2,bx) ⟨by simp only;omega,by simp[hacc],f2,by
   simp only[pv,ps]
   rw[<-hp,plus_app]
   simp⟩ (by simp only;omega)
  simp only at ih'
  rw[E.row_eq]at hcall gE gE'
  generalize cE b1.vars.length b1.sites.length l[k]=y at *
  generalize l[k]=x at *
  generalize esV x.kids=xe at *
  have g0:isSl (mkL 1 (ints acc))=true:=isSl_mk
  have g1:isSl (mkL 1 (ints (acc++[y.1])))=true:=isSl_mk
  generalize mkL 1 (ints (acc++[y.1]))=m1 at *
  generalize mkL 1 (ints acc)=m0 at *
  simp only[pB]at hcall
  simp[hlt,hlt',hwr,hz,hvw,hrE,gE',hcall,e1,e2,hap,paste,AV.view]
  exact ih' _
 ·have hkl:k=l.length:=by omega
  rw[hkl,List.drop_length]at hp
  have h1:(cEs b.vars.length b.sites.length l).1=acc:=by
   have:=congrArg Prod.fst hp
   simpa [cEs] using this.symm
  have h2:b.plus (cEs b.vars.length b.sites.length l).2=b1:=by
   have:=congrArg Prod.snd hp
   simp only[cEs]at this
   rw[plus_O0]at this
   exact this.symm
  rw[h1,h2]
  have g0:isSl (mkL 1 (ints acc))=true:=isSl_mk
  generalize mkL 1 (ints acc)=m0 at *
  simp[hlt]
theorem cEs_n (nv ns:Nat):∀l:List E,(cEs nv ns l).1.length=l.length
 |[]=>rfl
 |e::l=>by rw[cEs_cons];simp[cEs_n]
theorem insOf_a (k n ref t s:Int)(l:List Int)(h7:k≠7):(insOf k n ref t s l).row=[.int .i64 (insOf k n ref 0 s l).op,.int .i64 t,.int .i64 (insOf k n ref 0 s l).b,.int .i64 (insOf k n ref 0 s l).c,.int .i64 (insOf k n ref 0 s l).n,argV (insOf k n ref 0 s l).args]/\(insOf k n ref 0 s l).a=0:=by
 by_cases c1:k=1\/k=2
 ·simp[insOf,c1,In.row]
 by_cases c3:k=3
 ·simp[insOf,c3,In.row]
 by_cases c4:k=4
 ·simp[insOf,c4,In.row]
 by_cases c5:k=5
 ·simp[insOf,c5,In.row]
 by_cases c6:k=6
 ·simp[insOf,c6,In.row]
 by_cases c8:k=8
 ·simp[insOf,c8,In.row]
 by_cases c9:k=9
 ·simp[insOf,c9,In.row]
 by_cases c10:k=10
 ·simp[insOf,c10,In.row]
 by_cases c11:k=11
 ·simp[insOf,c11,In.row]
 by_cases c12:k=12\/k=13
 ·rcases c12 with rfl|rfl<;>simp[insOf,In.row]
 ·simp[insOf,c1,c3,c4,c5,c6,h7,c8,c9,c10,c11,c12,In.row]
theorem expr_ok (e:E):PE e:=by
 induction e using E.ind with
 |_ e ih=>
  intro b pre hL hb
  rw[LE_eq]at hL
  obtain⟨hT,h1,h2,hk,hr,hkids⟩:=hL
  have hsk:=E.sz_kids e
  have e1:isSl (esV e.kids)=true:=isSl_esV
  have e2:(esV e.kids).view=esV e.kids:=view_esV
  by_cases q:e.k=4/\0<=e.ref
  ·rw[cE_eq,if_pos q,plus_O0,E.row_eq]
   obtain⟨st,hst⟩:∃s,s=stB b pre:=⟨_,rfl⟩
   rw[<-hst]
   refine call_run (sf:=s65) rfl rfl rfl ?_
   generalize esV e.kids=KV at *
   simp[s65,e1,SOp.newBox,AV.view,q,pB]
  ·have hks:=exprs_ok e.kids ih b pre hkids (hb.le (by omega))
   have hlo:=Lo_cEs e.kids b.vars.length b.sites.length
   have f1:Fb (b.plus (cEs b.vars.length b.sites.length e.kids).2) 1:=Fb.plus (hb.le (by omega)) hlo
   have hln:=cEs_n b.vars.length b.sites.length e.kids
   obtain⟨pv,pi,ps⟩:=plus_len b (cEs b.vars.length b.sites.length e.kids).2
   rw[cE_eq,if_neg q]
   unfold cK
   generalize cEs b.vars.length b.sites.length e.kids=x at *
   have q1:e.k=4->¬0<=e.ref:=fun a b=>q ⟨a,b⟩
   have m1:isSl (mkL 1 (ints x.1))=true:=isSl_mk
   by_cases c7:e.k=7
   ·have hc:=call_ok (b.plus x.2) pre e x.1 f1
    have ea:∀{α:Type} (p q:α),(if e.ty=T0 then p else q)=if e.ty=T0 then p else q:=fun _ _=>rfl
    rw[plus_app]at hc
    have er:(if e.ty=T0 then ((-1:Int),x.2.app (ins1 ⟨13,-1,0,e.ref,0,x.1⟩)) else (((b.vars.length+x.2.vs.length:Nat):Int),x.2.app ⟨[e.ty],[insOf e.k e.n e.ref ((b.vars.length+x.2.vs.length:Nat):Int) ((b.sites.length+x.2.ss.length:Nat):Int) x.1],if e.k=8\/e.k=9 then [e.ty] else []⟩))
      = ((if e.ty=T0 then (-1:Int) else ((b.plus x.2).vars.length:Int)),x.2.app (if e.ty=T0 then ins1 ⟨13,-1,0,e.ref,0,x.1⟩ else ⟨[e.ty],[⟨13,((b.plus x.2).vars.length:Int),0,e.ref,0,x.1⟩],[]⟩)):=by
     split
     ·rfl
     ·rw[pv];simp[c7,insOf]
    rw[er]
    generalize (if e.ty=T0 then (-1:Int) else ((b.plus x.2).vars.length:Int))=rv at *
    generalize b.plus (x.2.app (if e.ty=T0 then ins1 ⟨13,-1,0,e.ref,0,x.1⟩ else ⟨[e.ty],[⟨13,((b.plus x.2).vars.length:Int),0,e.ref,0,x.1⟩],[]⟩))=rb at *
    rw[E.row_eq]at hc ⊢
    refine call_run (sf:=s65) rfl rfl rfl ?_
    generalize stB b pre=st at *
    generalize stB (b.plus x.2) pre=st1 at *
    generalize mkL 1 (ints x.1)=MV at *
    generalize esV e.kids=KV at *
    simp only[pB]at hks hc
    rw[c7]at hc
    simp[s65,e1,e2,SOp.newBox,AV.view,c7,pB,hks,hc]
   ·have hT':¬e.ty=T0:=fun c=>c7 (hT c)
    rw[if_neg hT']
    have ht:=fun li=>temp_ok li (b.plus x.2) pre e.ty (by have:=f1.1;omega)
    have hi:=fun li=>ins_ok li { b.plus x.2 with vars:=(b.plus x.2).vars++[e.ty] } pre e x.1 (by have:=f1.2.2;show (b.plus x.2).sites.length<_;omega) c7 (fun h=>by rw[hln];exact h1 h) (fun h=>by rw[hln];exact h2 h) hk (fun h=>⟨hr h,by have:=q1 h;omega⟩)
    have ha:=add_ok (insB { b.plus x.2 with vars:=(b.plus x.2).vars++[e.ty] } e.k e.ty) pre (insOf e.k e.n e.ref ((b.vars.length+x.2.vs.length:Nat):Int) ((b.sites.length+x.2.ss.length:Nat):Int) x.1) (by rw[insB_is];have:=f1.2.1;show (b.plus x.2).is.length<_;omega)
    have hsl:{ b.plus x.2 with vars:=(b.plus x.2).vars++[e.ty] }.sites.length=b.sites.length+x.2.ss.length:=ps
    rw[hsl]at hi
    obtain⟨r1,r2⟩:=insOf_a e.k e.n e.ref ((b.vars.length+x.2.vs.length:Nat):Int) ((b.sites.length+x.2.ss.length:Nat):Int) x.1 c7
    rw[r1]at ha
    simp only[In.row,r2]at hi
    have hfin:{ insB { b.plus x.2 with vars:=(b.plus x.2).vars++[e.ty] } e.k e.ty with is:=(insB { b.plus x.2 with vars:=(b.plus x.2).vars++[e.ty] } e.k e.ty).is++[insOf e.k e.n e.ref ((b.vars.length+x.2.vs.length:Nat):Int) ((b.sites.length+x.2.ss.length:Nat):Int) x.1] } =
      b.plus (x.2.app ⟨[e.ty],[insOf e.k e.n e.ref ((b.vars.length+x.2.vs.length:Nat):Int) ((b.sites.length+x.2.ss.length:Nat):Int) x.1],if e.k=8\/e.k=9 then [e.ty] else []⟩):=by
     by_cases c:e.k=8\/e.k=9
     ·simp[insB,c,Bl.plus,Out.app]
     ·simp[insB,c,Bl.plus,Out.app]
    rw[hfin]at ha
    rw[pv]at ht
    simp only
    generalize insOf e.k e.n e.ref 0 ((b.sites.length+x.2.ss.length:Nat):Int) x.1=J at *
    have ja:isSl (argV J.args)=true:=isSl_lstV
    have jb:(argV J.args).view=argV J.args:=view_lstV
    generalize (insOf e.k e.n e.ref ((b.vars.length+x.2.vs.length:Nat):Int) ((b.sites.length+x.2.ss.length:Nat):Int) x.1)=J2 at *
    generalize b.plus (x.2.app ⟨[e.ty],[J2],if e.k=8\/e.k=9 then [e.ty] else []⟩)=rb at *
    rw[E.row_eq]at hi ⊢
    refine call_run (sf:=s65) rfl rfl rfl ?_
    generalize stB (insB { b.plus x.2 with vars:=(b.plus x.2).vars++[e.ty] } e.k e.ty) pre=st3 at *
    generalize stB { b.plus x.2 with vars:=(b.plus x.2).vars++[e.ty] } pre=st2 at *
    generalize stB b pre=st at *
    generalize stB (b.plus x.2) pre=st1 at *
    generalize stB rb pre=st4 at *
    generalize ((b.vars.length+x.2.vs.length:Nat):Int)=tv at *
    generalize mkL 1 (ints x.1)=MV at *
    generalize esV e.kids=KV at *
    generalize argV J.args=AV1 at *
    simp only[pB,T3.cells]at hks hi ht ha
    by_cases c4:e.k=4
    ·have q4:=q1 c4
     simp only[c4]at hi
     simp[s65,e1,e2,SOp.newBox,AV.view,c4,q4,pB,hks,ht,hi,ha,ja,jb,paste]
    ·simp[s65,e1,e2,SOp.newBox,AV.view,c7,c4,pB,hks,ht,hi,ha,ja,jb,paste]
end U13
namespace U13
open Ax Go Code13 V7 Par Chk Low
theorem plus_is2 (b:Bl)(x:Out)(i:In):{ b.plus x with is:=(b.plus x).is++[i] }=b.plus (x.app (ins1 i)):=by rw[plus_is,plus_app]
theorem set_ok (b:Bl)(pre:Store)(s:Sm)(h1:s.es.length=1)(hL:LL s.es)(hr : -1000000000<s.ref)(hb:Fb b (E.szs s.es+1)) :
  (orcL S).call 0 0 61 [pB,.agg s.row] (stB b pre)=some (.tup [],stB (b.plus ((cE b.vars.length b.sites.length (es0 s.es)).2.app (ins1 (setI s.ref (cE b.vars.length b.sites.length (es0 s.es)).1)))) pre):=by
 obtain⟨e,he⟩:∃e,s.es=[e]:=⟨_,one_es h1⟩
 have h0:es0 s.es=e:=by rw[he];rfl
 have hsz:E.szs s.es=E.sz e:=by rw[he];simp[E.szs]
 rw[h0]
 have hx:=expr_ok e b pre ((LL_iff _).1 hL e (by rw[he];exact List.mem_cons_self)) (hb.le (by omega))
 have hlo:=cE_lo e b.vars.length b.sites.length
 have f1:=(hb.le (by omega:E.sz e+1<=_)).plus hlo
 generalize cE b.vars.length b.sites.length e=x at *
 have ha:=add_ok (b.plus x.2) pre (setI s.ref x.1) (by have:=f1.2.1;omega)
 rw[plus_is2]at ha
 have e1:isSl (esV s.es)=true:=isSl_esV
 have e2:(esV s.es).view=esV s.es:=view_esV
 have e3:rowsL (esV s.es)=[e.row]:=by show rowsL (lstV _ _)=_;rw[rowsL_lstV,he];rfl
 have e4:isSz 11 (esV s.es)=true:=zE
 have b1:isSl (ssV s.bd)=true:=isSl_ssV
 have b2:(ssV s.bd).view=ssV s.bd:=view_ssV
 have l1:isSl (ssV s.el)=true:=isSl_ssV
 have l2:(ssV s.el).view=ssV s.el:=view_ssV
 have k1:isSl (esV e.kids)=true:=isSl_esV
 have k2:(esV e.kids).view=esV e.kids:=view_esV
 have hn:argV []=.nilSl:=rfl
 rw[E.row_eq]at hx e3
 rw[Sm.row_eq]
 refine call_run (sf:=s61) rfl rfl rfl ?_
 generalize stB (b.plus (x.2.app (ins1 (setI s.ref x.1)))) pre=st2 at *
 generalize stB b pre=st at *
 generalize stB (b.plus x.2) pre=st1 at *
 generalize esV e.kids=KV at *
 generalize esV s.es=EV at *
 generalize ssV s.bd=DV at *
 generalize ssV s.el=LV at *
 simp only[pB]at hx ha
 by_cases c:s.ref<0
 ·have hw:IntKind.i64.wrap (-1-s.ref) = -1-s.ref:=by rw[wrap64]<;>omega
  simp only[setI,if_pos c,In.row,hn]at ha
  simp[s61,e1,e2,e3,e4,b1,l1,k2,SOp.newBox,AV.view,pB,hx,cut,c,hw,ha,paste]
 ·simp only[setI,if_neg c,In.row,hn]at ha
  simp[s61,e1,e2,e3,e4,b1,l1,k2,SOp.newBox,AV.view,pB,hx,cut,c,ha,paste]
theorem put_ok (b:Bl)(pre:Store)(s:Sm)(h1:s.es.length=2)(hL:LL s.es)(hk:(es0 s.es).k=5\/(es0 s.es).k=6)(hb:Fb b (E.szs s.es+1)) :
  (orcL S).call 0 0 62 [pB,.agg s.row] (stB b pre)=some (.tup [],stB (b.plus (cPut b.vars.length b.sites.length (es0 s.es) (cEs b.vars.length b.sites.length (es0 s.es).kids) (fun nv ns=>cE nv ns (es1 s.es)))) pre):=by
 obtain⟨e,f,he⟩:∃e f,s.es=[e,f]:=⟨_,_,two_es h1⟩
 have h0:es0 s.es=e:=by rw[he];rfl
 have h01:es1 s.es=f:=by rw[he];rfl
 have hsz:E.szs s.es=E.sz e+E.sz f:=by rw[he];simp[E.szs]
 have hsk:=E.sz_kids e
 rw[h0]at hk ⊢
 rw[h01]
 rw[LL_iff]at hL
 have hLe:=hL e (by rw[he];exact List.mem_cons_self)
 rw[LE_eq]at hLe
 obtain⟨_,q1,q2,_,_,hLk⟩:=hLe
 have hx:=exprs_ok e.kids (fun x _=>expr_ok x) b pre hLk (hb.le (by omega))
 have hlo:=Lo_cEs e.kids b.vars.length b.sites.length
 have f1:=(hb.le (by omega:E.szs e.kids+(E.sz f+1)<=_)).plus hlo
 have hln:=cEs_n b.vars.length b.sites.length e.kids
 unfold cPut
 obtain⟨pv,pi,ps⟩:=plus_len b (cEs b.vars.length b.sites.length e.kids).2
 generalize cEs b.vars.length b.sites.length e.kids=x at *
 have hy:=expr_ok f (b.plus x.2) pre (hL f (by rw[he];simp)) (f1.le (by omega))
 have hlo2:=cE_lo f (b.plus x.2).vars.length (b.plus x.2).sites.length
 have f2:=f1.plus hlo2
 rw[pv,ps]at hy hlo2 f2
 simp only
 generalize cE (b.vars.length+x.2.vs.length) (b.sites.length+x.2.ss.length) f=y at *
 have ha:=add_ok ((b.plus x.2).plus y.2) pre (putI e.k e.ref y.1 x.1) (by have:=f2.2.1;omega)
 simp only[plus_is,plus_app,app_app]at ha hy
 rw[app_app]
 have e1:isSl (esV s.es)=true:=isSl_esV
 have e2:(esV s.es).view=esV s.es:=view_esV
 have e3:rowsL (esV s.es)=[e.row,f.row]:=by show rowsL (lstV _ _)=_;rw[rowsL_lstV,he];rfl
 have e4:isSz 11 (esV s.es)=true:=zE
 have b1:isSl (ssV s.bd)=true:=isSl_ssV
 have b2:(ssV s.bd).view=ssV s.bd:=view_ssV
 have l1:isSl (ssV s.el)=true:=isSl_ssV
 have l2:(ssV s.el).view=ssV s.el:=view_ssV
 have k1:isSl (esV e.kids)=true:=isSl_esV
 have k2:(esV e.kids).view=esV e.kids:=view_esV
 have k3:isSl (esV f.kids)=true:=isSl_esV
 have k4:(esV f.kids).view=esV f.kids:=view_esV
 have hn:argV []=.nilSl:=rfl
 have m1:isSl (mkL 1 (ints x.1))=true:=isSl_mk
 have m2:(mkL 1 (ints x.1)).view=lstV 1 (ints x.1):=rfl
 have m3:isSl (lstV 1 (ints x.1))=true:=isSl_lstV
 have m5:rowsL (lstV 1 (ints x.1))=ints x.1:=rowsL_lstV
 have m6:isSz 1 (lstV 1 (ints x.1))=true:=zI
 have m7:rowsL (mkL 1 (ints x.1))=ints x.1:=rowsL_mk
 have m8:isSz 1 (mkL 1 (ints x.1))=true:=by rw[isSz_mk];simp[fits,ints]
 rw[E.row_eq f]at hy
 rw[E.row_eq e,E.row_eq f]at e3
 rw[Sm.row_eq]
 refine call_run (sf:=s62) rfl rfl rfl ?_
 generalize stB (b.plus (x.2.app (y.2.app (ins1 (putI e.k e.ref y.1 x.1))))) pre=st3 at *
 generalize stB (b.plus (x.2.app y.2)) pre=st2 at *
 generalize stB b pre=st at *
 generalize stB (b.plus x.2) pre=st1 at *
 generalize esV e.kids=KV at *
 generalize esV f.kids=FV at *
 generalize esV s.es=EV at *
 generalize ssV s.bd=DV at *
 generalize ssV s.el=LV at *
 generalize mkL 1 (ints x.1)=MV at *
 generalize lstV 1 (ints x.1)=NV at *
 simp only[pB]at hx hy ha
 by_cases c:e.k=5
 ·rw[ints_1 (by rw[hln];exact q1 (.inl c))]at m5 m7
  simp only[putI,if_pos c,In.row,hn]at ha
  simp[s62,e1,e2,e3,e4,b1,l1,k2,k4,m7,m8,SOp.newBox,AV.view,pB,hx,hy,cut,c,ha,paste,W_draw0,noBoxes]
 ·have c6:e.k=6:=by omega
  rw[ints_2 (by rw[hln];exact q2 (.inl c6))]at m5 m7
  simp only[putI,if_neg c,In.row,hn]at ha
  simp[s62,e1,e2,e3,e4,b1,l1,k2,k4,m2,m5,m6,SOp.newBox,AV.view,pB,hx,hy,cut,c6,ha,paste,W_draw0,noBoxes]
theorem branch_ok (b:Bl)(pre:Store)(e:E)(hL:LE e)(hb:Fb b (E.sz e+1)) :
  (orcL S).call 0 0 78 [pB,.agg e.row] (stB b pre)=some (.int .i64 ((b.is.length+(cE b.vars.length b.sites.length e).2.is.length:Nat):Int),stB (b.plus ((cE b.vars.length b.sites.length e).2.app (ins1 ⟨17,(cE b.vars.length b.sites.length e).1,0,0,((b.is.length+(cE b.vars.length b.sites.length e).2.is.length+1:Nat):Int),[]⟩))) pre):=by
 have hx:=expr_ok e b pre hL (hb.le (by omega))
 have f1:=hb.plus (cE_lo e b.vars.length b.sites.length)
 obtain⟨pv,pi,ps⟩:=plus_len b (cE b.vars.length b.sites.length e).2
 generalize cE b.vars.length b.sites.length e=x at *
 have hlt:(b.plus x.2).is.length<1000000000:=by have:=f1.2.1;omega
 have hnx:=fun li=>next_ok li (b.plus x.2) pre hlt
 have ha:=add_ok (b.plus x.2) pre ⟨17,x.1,0,0,((b.is.length+x.2.is.length+1:Nat):Int),[]⟩ hlt
 rw[plus_is2]at ha
 rw[pi]at hnx ha hlt
 have hw:IntKind.i64.wrap (((b.is.length+x.2.is.length:Nat):Int)+1)=((b.is.length+x.2.is.length+1:Nat):Int):=by rw[wrap64]<;>omega
 have hn:argV []=.nilSl:=rfl
 have k1:isSl (esV e.kids)=true:=isSl_esV
 have k2:(esV e.kids).view=esV e.kids:=view_esV
 rw[E.row_eq]at hx ⊢
 refine call_run (sf:=s78) rfl rfl rfl ?_
 simp only[In.row,hn,pB]at hx ha hnx
 generalize stB (b.plus (x.2.app (ins1 ⟨17,x.1,0,0,((b.is.length+x.2.is.length+1:Nat):Int),[]⟩))) pre=st2 at *
 generalize ((b.is.length+x.2.is.length+1:Nat):Int)=n1 at *
 generalize ((b.is.length+x.2.is.length:Nat):Int)=n0 at *
 generalize stB b pre=st at *
 generalize stB (b.plus x.2) pre=st1 at *
 generalize esV e.kids=KV at *
 simp[s78,k1,k2,SOp.newBox,AV.view,pB,hx,hnx,hw,ha,paste]
end U13
namespace U13
open Ax Go Code13 V7 Par Chk Low
def PS (s:Sm):Prop:=∀(b:Bl)(pre:Store),LS s->Fb b (2*Sm.sz s)->(orcL S).call 0 0 46 [pB,.agg s.row] (stB b pre)=some (.tup [],stB (b.plus (cS b.vars.length b.is.length b.sites.length s)) pre)
theorem block_ok (l:List Sm)(ih:∀s∈l,PS s)(b:Bl)(pre:Store)(hL:LB l)(hb:Fb b (2*Sm.szs l)) :
  (orcL S).call 0 0 27 [pB,ssV l] (stB b pre)=some (.tup [],stB (b.plus (cB b.vars.length b.is.length b.sites.length l)) pre):=by
 have hz:isSz 9 (ssV l)=true:=zL (by simp[fits,Smrows_map,Sm.row_eq])
 have hsl:isSl (ssV l)=true:=isSl_ssV
 have hvw:(ssV l).view=ssV l:=view_ssV
 have hrE:rowsL (ssV l)=Sm.rows l:=rowsL_lstV
 have hlen:=Sm.szs_len l
 have hlb:l.length<1000000000:=by have:=hb.1;omega
 rw[LB_iff]at hL
 have hrl:(Sm.rows l).length=l.length:=by simp[Smrows_map]
 refine call_run (sf:=s27) rfl rfl rfl ?_
 generalize ssV l=lv at *
 simp[s27,hsl,hvw,hrE,hrl,pB]
 refine W_loopI s27_l0.eq_1 (fun x:Nat×Bl×List AV=>⟨[(0,.val (.ptr 0 0 0 0)),(6,.val lv),(7,.val (.int .i64 l.length)),(8,.val (.int .i64 x.1))],[x.2.2],stB x.2.1 pre⟩)
  (fun x=>x.1<=l.length/\Fb x.2.1 (2*Sm.szs (l.drop x.1))/\x.2.1.plus (cB x.2.1.vars.length x.2.1.is.length x.2.1.sites.length (l.drop x.1))=b.plus (cB b.vars.length b.is.length b.sites.length l)) (fun x=>l.length-x.1) (0,b,[]) (by simp) ⟨by simp,by simpa using hb,by simp⟩ ?_
 rintro⟨k,b1,bx⟩ ⟨hk,f1,hp⟩ ih2
 simp only at hk f1 hp ih2
 by_cases hlt:k<l.length
 ·have hwr:IntKind.i64.wrap ((k:Int)+1)=((k+1:Nat):Int):=by rw[wrap64]<;>omega
  have hm:=List.getElem_mem hlt
  rw[List.drop_eq_getElem_cons hlt]at f1 hp
  simp only[Sm.szs]at f1
  have hcall:=ih _ hm b1 pre (hL _ hm) (f1.le (by omega))
  have hlo:=cS_lo l[k] (hL _ hm) b1.vars.length b1.is.length b1.sites.length
  have f2:=Fb.plus (f1.le (by omega:2*Sm.sz l[k]+2*Sm.szs (l.drop (k+1))<=_)) hlo
  rw[cB_cons]at hp
  unfold then3 at hp
  obtain⟨pv,pi,ps⟩:=plus_len b1 (cS b1.vars.length b1.is.length b1.sites.length l[k])
  obtain⟨e1,d1,l1⟩:isSl (esV l[k].es)=true/\isSl (ssV l[k].bd)=true/\isSl (ssV l[k].el)=true:=⟨isSl_esV,isSl_ssV,isSl_ssV⟩
  have e2:(esV l[k].es).view=esV l[k].es:=view_esV
  have d2:(ssV l[k].bd).view=ssV l[k].bd:=view_ssV
  have l2:(ssV l[k].el).view=ssV l[k].el:=view_ssV
  have gE:=Sm_get hlt
  have hlt':k<(Sm.rows l).length:=by omega
  have gE':=Sm_get' hlt hlt'
  have ih':=fun bx=>ih2 (k+1,b1.plus (cS b1.vars.length b1.is.length b1.sites.length l[k]),bx) ⟨by simp only;omega,f2,by
   simp only[pv,pi,ps]
   rw[<-hp,plus_app]⟩ (by simp only;omega)
  simp only at ih'
  rw[Sm.row_eq]at hcall gE gE'
  generalize cS b1.vars.length b1.is.length b1.sites.length l[k]=y at *
  generalize l[k]=x at *
  generalize esV x.es=xe at *
  generalize ssV x.bd=xb at *
  generalize ssV x.el=xl at *
  simp only[pB]at hcall
  simp[hlt,hlt',hwr,hz,hvw,hrE,gE',hcall,e1,e2,d1,d2,l1,l2,paste,AV.view]
  exact ih' _
 ·have hkl:k=l.length:=by omega
  rw[hkl,List.drop_length,cB_nil,plus_O0]at hp
  rw[<-hp]
  simp[hlt]
theorem stB_ex (b:Bl)(pre:Store)(h:b.is≠[]):stB b pre=.rows 0 12 [[b.recs,ownV 3 (b.glo.map T3.cells),ownV 7 (b.codes.map Cd.row),ownV 4 (b.sites.map Sd.row),.int .i64 b.main,
  .int .i64 b.params,ownV 3 (b.vars.map T3.cells),.bool b.has,.int .i64 b.res.b,.int .i64 b.res.r,.int .i64 b.res.d,.mu (pre.length+1) (b.is.length-1)]]::(pre++[.rows (b.is.length-1) 6 (b.is.map In.row)]):=by
 simp[stB,Bl.cells,insA,insO,h]
end U13
namespace U13
open Ax Go Code13 V7 Par Chk Low
def Bl.seti (b:Bl)(i:Nat)(a:In):Bl:={ b with is:=b.is.set i a }
structure Pt (b:Bl)(pre:Store)(st:Store)(H:List AV)(V:Nat)(R:List (List AV)):Prop where
 st:st=stB b pre
 eq:stB b pre=.rows 0 12 [H++[.mu (pre.length+1) V]]::(pre++[.rows V 6 R])
 len:R.length=b.is.length
 set:∀(i:Nat) (a:In),(.rows 0 12 [H++[.mu (pre.length+1) V]]::(pre++[.rows V 6 (R.set i (In.row a))]):Store)=stB (b.seti i a) pre
 get:∀(i:Nat) (a:In),b.is[i]?=some a->R[i]?=some a.row
theorem pt_of (b:Bl)(pre:Store)(h:b.is≠[]):∃r0 r1 r2 r3 r4 r5 r6 r7 r8 r9 r10 V R,Pt b pre (stB b pre) [r0,r1,r2,r3,r4,r5,r6,r7,r8,r9,r10] V R:=by
 refine⟨_,_,_,_,_,_,_,_,_,_,_,b.is.length-1,b.is.map In.row,rfl,stB_ex b pre h,by simp,fun i a=>?_,fun i a h=>by simp[h]⟩
 rw[stB_ex (b.seti i a) pre (by intro c;apply h;have:=congrArg List.length c;simp[Bl.seti]at this;exact this)]
 simp[Bl.seti,List.map_set]
theorem cIf_eq (b:Bl)(x:Int×Out)(y z:Out)(f g:Nat->Nat->Nat->Out)
  (hy:y=f (b.vars.length+x.2.vs.length) (b.is.length+x.2.is.length+1) (b.sites.length+x.2.ss.length))
  (hz:z=g (b.vars.length+x.2.vs.length+y.vs.length) (b.is.length+x.2.is.length+1+y.is.length+1) (b.sites.length+x.2.ss.length+y.ss.length)) :
  ((((((b.plus (x.2.app (ins1 ⟨17,x.1,0,0,((b.is.length+x.2.is.length+1:Nat):Int),[]⟩))).plus y).plus (ins1 ⟨16,0,0,0,0,[]⟩)).seti (b.is.length+x.2.is.length)
   ⟨17,x.1,0,((b.is.length+x.2.is.length+1+y.is.length+1:Nat):Int),((b.is.length+x.2.is.length+1:Nat):Int),[]⟩).plus z).seti (b.is.length+x.2.is.length+1+y.is.length)
   ⟨16,0,0,0,((b.is.length+x.2.is.length+1+y.is.length+1+z.is.length:Nat):Int),[]⟩)=b.plus (cIf b.vars.length b.is.length b.sites.length x f g):=by
 unfold cIf
 dsimp only
 rw[<-hy,<-hz]
 have e1:1+y.is.length=y.is.length+1:=by omega
 simp[Bl.plus,Bl.seti,Out.app,ins1,Nat.add_assoc,e1]
theorem cWh_eq (b:Bl)(x:Int×Out)(y:Out)(f:Nat->Nat->Nat->Out)
  (hy:y=f (b.vars.length+x.2.vs.length) (b.is.length+x.2.is.length+1) (b.sites.length+x.2.ss.length)) :
  ((((b.plus (x.2.app (ins1 ⟨17,x.1,0,0,((b.is.length+x.2.is.length+1:Nat):Int),[]⟩))).plus y).plus (ins1 ⟨16,0,0,0,(b.is.length:Int),[]⟩)).seti (b.is.length+x.2.is.length)
   ⟨17,x.1,0,((b.is.length+x.2.is.length+1+y.is.length+1:Nat):Int),((b.is.length+x.2.is.length+1:Nat):Int),[]⟩)=b.plus (cWh b.vars.length b.is.length b.sites.length x f):=by
 unfold cWh
 dsimp only
 rw[<-hy]
 simp[Bl.plus,Bl.seti,Out.app,ins1,Nat.add_assoc]
theorem choose_ok (s:Sm)(ih1:∀x∈s.bd,PS x)(ih2:∀x∈s.el,PS x)(b:Bl)(pre:Store)(h1:s.es.length=1)(hL:LL s.es)(hB:LB s.bd)(hE:LB s.el)(hb:Fb b (2*Sm.sz s)) :
  (orcL S).call 0 0 63 [pB,.agg s.row] (stB b pre)=some (.tup [],stB (b.plus (cIf b.vars.length b.is.length b.sites.length (cE b.vars.length b.sites.length (es0 s.es)) (fun nv at_ ns=>cB nv at_ ns s.bd) (fun nv at_ ns=>cB nv at_ ns s.el))) pre):=by
 obtain⟨e,he⟩:∃e,s.es=[e]:=⟨_,one_es h1⟩
 have h0:es0 s.es=e:=by rw[he];rfl
 have hsz:E.szs s.es=E.sz e:=by rw[he];simp[E.szs]
 have hss:=Sm.sz_eq s
 rw[h0]
 have hbr:=branch_ok b pre e ((LL_iff _).1 hL e (by rw[he];exact List.mem_cons_self)) (hb.le (by omega))
 have hlo:=cE_lo e b.vars.length b.sites.length
 obtain⟨y,hy⟩:∃y,y=cB (b.vars.length+(cE b.vars.length b.sites.length e).2.vs.length) (b.is.length+(cE b.vars.length b.sites.length e).2.is.length+1) (b.sites.length+(cE b.vars.length b.sites.length e).2.ss.length) s.bd:=⟨_,rfl⟩
 obtain⟨z,hz⟩:∃z,z=cB (b.vars.length+(cE b.vars.length b.sites.length e).2.vs.length+y.vs.length) (b.is.length+(cE b.vars.length b.sites.length e).2.is.length+1+y.is.length+1) (b.sites.length+(cE b.vars.length b.sites.length e).2.ss.length+y.ss.length) s.el:=⟨_,rfl⟩
 rw[<-cIf_eq b (cE b.vars.length b.sites.length e) y z _ _ hy hz]
 generalize cE b.vars.length b.sites.length e=x at *
 obtain⟨b1,hb1⟩:∃b1,b1=b.plus (x.2.app (ins1 ⟨17,x.1,0,0,((b.is.length+x.2.is.length+1:Nat):Int),[]⟩)):=⟨_,rfl⟩
 have l1:b1.vars.length=b.vars.length+x.2.vs.length/\b1.is.length=b.is.length+x.2.is.length+1/\b1.sites.length=b.sites.length+x.2.ss.length:=by
  rw[hb1];obtain⟨p,q,r⟩:=plus_len b (x.2.app (ins1 ⟨17,x.1,0,0,((b.is.length+x.2.is.length+1:Nat):Int),[]⟩));rw[p,q,r]
  simp[Out.app,ins1,Nat.add_assoc]
 have g1:b1.is[b.is.length+x.2.is.length]?=some ⟨17,x.1,0,0,((b.is.length+x.2.is.length+1:Nat):Int),[]⟩:=by
  rw[hb1];simp[Bl.plus,Out.app,ins1]
 rw[<-hb1]at hbr ⊢
 have f1:Fb b1 (2*Sm.szs s.bd+(2*Sm.szs s.el+1)):=by
  obtain⟨p1,p2,p3⟩:=hb
  obtain⟨q1,q2,q3⟩:=hlo
  obtain⟨r1,r2,r3⟩:=l1
  exact⟨by omega,by omega,by omega⟩
 have hbd:=block_ok s.bd ih1 b1 pre hB (f1.le (by omega))
 have hyl:=Lo_cB hB (b.vars.length+x.2.vs.length) (b.is.length+x.2.is.length+1) (b.sites.length+x.2.ss.length)
 rw[l1.1,l1.2.1,l1.2.2,<-hy]at hbd
 rw[<-hy]at hyl
 have f2:=f1.plus hyl
 obtain⟨m1,m2,m3⟩:=plus_len b1 y
 have g2:(b1.plus y).is[b.is.length+x.2.is.length]?=some ⟨17,x.1,0,0,((b.is.length+x.2.is.length+1:Nat):Int),[]⟩:=by
  show (b1.is++y.is)[_]?=_
  rw[List.getElem?_append_left (by omega)];exact g1
 have ha:=add_ok (b1.plus y) pre ⟨16,0,0,0,0,[]⟩ (by have:=f2.2.1;omega)
 rw[plus_is,m2,l1.2.1]at ha
 obtain⟨b3,hb3⟩:∃b3,b3=(b1.plus y).plus (ins1 ⟨16,0,0,0,0,[]⟩):=⟨_,rfl⟩
 rw[<-hb3]at ha ⊢
 have l3:b3.vars.length=b.vars.length+x.2.vs.length+y.vs.length/\b3.is.length=b.is.length+x.2.is.length+1+y.is.length+1/\b3.sites.length=b.sites.length+x.2.ss.length+y.ss.length:=by
  rw[hb3];obtain⟨p,q,r⟩:=plus_len (b1.plus y) (ins1 ⟨16,0,0,0,0,[]⟩);rw[p,q,r,m1,m2,m3,l1.1,l1.2.1,l1.2.2]
  simp[ins1]
 have g3:b3.is[b.is.length+x.2.is.length]?=some ⟨17,x.1,0,0,((b.is.length+x.2.is.length+1:Nat):Int),[]⟩:=by
  rw[hb3];show ((b1.plus y).is++_)[_]?=_
  rw[List.getElem?_append_left (by omega)];exact g2
 have g3j:b3.is[b.is.length+x.2.is.length+1+y.is.length]?=some ⟨16,0,0,0,0,[]⟩:=by
  rw[hb3];show ((b1.plus y).is++[_])[_]?=_
  rw[List.getElem?_append_right (by omega),m2,l1.2.1];simp
 have hlt3:b3.is.length<1000000000:=by have:=f2.2.1;omega
 have nx3:=fun li=>next_ok li b3 pre hlt3
 rw[l3.2.1]at nx3
 obtain⟨r0,r1,r2,r3,r4,r5,r6,r7,r8,r9,r10,V,R,P3⟩:=pt_of b3 pre (by intro c;rw[c]at l3;simp at l3)
 obtain⟨b4,hb4⟩:∃b4,b4=b3.seti (b.is.length+x.2.is.length) ⟨17,x.1,0,((b.is.length+x.2.is.length+1+y.is.length+1:Nat):Int),((b.is.length+x.2.is.length+1:Nat):Int),[]⟩:=⟨_,rfl⟩
 have s3:=P3.set (b.is.length+x.2.is.length) ⟨17,x.1,0,((b.is.length+x.2.is.length+1+y.is.length+1:Nat):Int),((b.is.length+x.2.is.length+1:Nat):Int),[]⟩
 rw[<-hb4]at s3 ⊢
 have l4:b4.vars.length=b3.vars.length/\b4.is.length=b3.is.length/\b4.sites.length=b3.sites.length:=by rw[hb4];simp[Bl.seti]
 have g4j:b4.is[b.is.length+x.2.is.length+1+y.is.length]?=some ⟨16,0,0,0,0,[]⟩:=by
  rw[hb4];show (b3.is.set _ _)[_]?=_
  rw[List.getElem?_set_ne (by omega)];exact g3j
 have f4:Fb b4 (2*Sm.szs s.el):=by
  obtain⟨p1,p2,p3⟩:=f2
  obtain⟨r1,r2,r3⟩:=l3
  obtain⟨q1,q2,q3⟩:=l4
  exact⟨by omega,by omega,by omega⟩
 have hel:=block_ok s.el ih2 b4 pre hE f4
 have hzl:=Lo_cB hE (b.vars.length+x.2.vs.length+y.vs.length) (b.is.length+x.2.is.length+1+y.is.length+1) (b.sites.length+x.2.ss.length+y.ss.length)
 rw[l4.1,l4.2.1,l4.2.2,l3.1,l3.2.1,l3.2.2,<-hz]at hel
 rw[<-hz]at hzl
 obtain⟨n1,n2,n3⟩:=plus_len b4 z
 have hlt5:(b4.plus z).is.length<1000000000:=by have:=f4.2.1;have:=hzl.2.1;omega
 have nx5:=fun li=>next_ok li (b4.plus z) pre hlt5
 rw[n2,l4.2.1,l3.2.1]at nx5
 have g5:(b4.plus z).is[b.is.length+x.2.is.length+1+y.is.length]?=some ⟨16,0,0,0,0,[]⟩:=by
  show (b4.is++z.is)[_]?=_
  rw[List.getElem?_append_left (by omega)];exact g4j
 obtain⟨t0,t1,t2,t3,t4,t5,t6,t7,t8,t9,t10,W,Q,P5⟩:=pt_of (b4.plus z) pre (by intro c;have:=n2;rw[c,List.length_nil]at this;omega)
 have s5:=P5.set (b.is.length+x.2.is.length+1+y.is.length) ⟨16,0,0,0,((b.is.length+x.2.is.length+1+y.is.length+1+z.is.length:Nat):Int),[]⟩
 have q3:=P3.get _ _ g3
 have q5:=P5.get _ _ g5
 have w3:b.is.length+x.2.is.length<R.length:=by rw[P3.len];omega
 have w5:b.is.length+x.2.is.length+1+y.is.length<Q.length:=by rw[P5.len];omega
 have hn:argV []=.nilSl:=rfl
 have e1:isSl (esV s.es)=true:=isSl_esV
 have e2:(esV s.es).view=esV s.es:=view_esV
 have e3:rowsL (esV s.es)=[e.row]:=by show rowsL (lstV _ _)=_;rw[rowsL_lstV,he];rfl
 have e4:isSz 11 (esV s.es)=true:=zE
 have d1:isSl (ssV s.bd)=true:=isSl_ssV
 have d2:(ssV s.bd).view=ssV s.bd:=view_ssV
 have u1:isSl (ssV s.el)=true:=isSl_ssV
 have u2:(ssV s.el).view=ssV s.el:=view_ssV
 have k1:isSl (esV e.kids)=true:=isSl_esV
 have k2:(esV e.kids).view=esV e.kids:=view_esV
 simp only[In.row,hn]at ha s3 s5 q3 q5
 simp only[pB,P3.eq,P5.eq,List.cons_append,List.nil_append]at hbr hbd ha nx3 nx5 s3 hel s5
 rw[E.row_eq]at hbr e3
 rw[Sm.row_eq]
 refine call_run (sf:=s63) rfl rfl rfl ?_
 generalize stB ((b4.plus z).seti (b.is.length+x.2.is.length+1+y.is.length) ⟨16,0,0,0,((b.is.length+x.2.is.length+1+y.is.length+1+z.is.length:Nat):Int),[]⟩) pre=st6 at *
 generalize b.is.length+x.2.is.length+1+y.is.length+1+z.is.length=N5 at *
 generalize b.is.length+x.2.is.length+1+y.is.length+1=N4 at *
 generalize b.is.length+x.2.is.length+1+y.is.length=N3 at *
 generalize b.is.length+x.2.is.length+1=N2 at *
 generalize b.is.length+x.2.is.length=N1 at *
 generalize stB b pre=st at *
 generalize stB b1 pre=st1 at *
 generalize stB (b1.plus y) pre=st2 at *
 generalize stB b4 pre=st4 at *
 generalize esV e.kids=KV at *
 generalize esV s.es=EV at *
 generalize ssV s.bd=DV at *
 generalize ssV s.el=LV at *
 have v3:=fun h:N1<R.length=>(List.getElem?_eq_some_iff.1 q3).2
 have v5:=fun h:N3<Q.length=>(List.getElem?_eq_some_iff.1 q5).2
 simp[s63,e1,e2,e3,e4,d1,d2,u1,k2,SOp.newBox,AV.view,pB,hbr,hbd,ha,cut,paste]
 rw[W_drawP]
 simp[evalRec,pairOk,readsSame,boxOk,SOp.newBox,nx3,w3,v3,mayWrite,AV.allPure,AV.isPure,cut,paste,AV.view]
 refine⟨_,_,⟨rfl,rfl⟩,?_⟩
 simp[Ent.same,AV.same,s3,hel,cut,AV.view,u2]
 rw[W_drawP]
 simp[evalRec,pairOk,readsSame,boxOk,SOp.newBox,nx5,w5,v5,mayWrite,AV.allPure,AV.isPure,cut,paste,AV.view]
 refine⟨_,_,⟨rfl,rfl⟩,?_⟩
 simp[Ent.same,AV.same,s5,cut,AV.view]
end U13
namespace U13
open Ax Go Code13 V7 Par Chk Low
theorem repeat_ok (s:Sm)(ih1:∀x∈s.bd,PS x)(b:Bl)(pre:Store)(h1:s.es.length=1)(hL:LL s.es)(hB:LB s.bd)(hb:Fb b (2*Sm.sz s)) :
  (orcL S).call 0 0 64 [pB,.agg s.row] (stB b pre)=some (.tup [],stB (b.plus (cWh b.vars.length b.is.length b.sites.length (cE b.vars.length b.sites.length (es0 s.es)) (fun nv at_ ns=>cB nv at_ ns s.bd))) pre):=by
 obtain⟨e,he⟩:∃e,s.es=[e]:=⟨_,one_es h1⟩
 have h0:es0 s.es=e:=by rw[he];rfl
 have hsz:E.szs s.es=E.sz e:=by rw[he];simp[E.szs]
 have hss:=Sm.sz_eq s
 rw[h0]
 have nx0:=fun li=>next_ok li b pre (by have:=hb.2.1;omega)
 have hbr:=branch_ok b pre e ((LL_iff _).1 hL e (by rw[he];exact List.mem_cons_self)) (hb.le (by omega))
 have hlo:=cE_lo e b.vars.length b.sites.length
 obtain⟨y,hy⟩:∃y,y=cB (b.vars.length+(cE b.vars.length b.sites.length e).2.vs.length) (b.is.length+(cE b.vars.length b.sites.length e).2.is.length+1) (b.sites.length+(cE b.vars.length b.sites.length e).2.ss.length) s.bd:=⟨_,rfl⟩
 rw[<-cWh_eq b (cE b.vars.length b.sites.length e) y _ hy]
 generalize cE b.vars.length b.sites.length e=x at *
 obtain⟨b1,hb1⟩:∃b1,b1=b.plus (x.2.app (ins1 ⟨17,x.1,0,0,((b.is.length+x.2.is.length+1:Nat):Int),[]⟩)):=⟨_,rfl⟩
 have l1:b1.vars.length=b.vars.length+x.2.vs.length/\b1.is.length=b.is.length+x.2.is.length+1/\b1.sites.length=b.sites.length+x.2.ss.length:=by
  rw[hb1];obtain⟨p,q,r⟩:=plus_len b (x.2.app (ins1 ⟨17,x.1,0,0,((b.is.length+x.2.is.length+1:Nat):Int),[]⟩));rw[p,q,r]
  simp[Out.app,ins1,Nat.add_assoc]
 have g1:b1.is[b.is.length+x.2.is.length]?=some ⟨17,x.1,0,0,((b.is.length+x.2.is.length+1:Nat):Int),[]⟩:=by
  rw[hb1];simp[Bl.plus,Out.app,ins1]
 rw[<-hb1]at hbr ⊢
 have f1:Fb b1 (2*Sm.szs s.bd+1):=by
  obtain⟨p1,p2,p3⟩:=hb
  obtain⟨q1,q2,q3⟩:=hlo
  obtain⟨r1,r2,r3⟩:=l1
  exact⟨by omega,by omega,by omega⟩
 have hbd:=block_ok s.bd ih1 b1 pre hB (f1.le (by omega))
 have hyl:=Lo_cB hB (b.vars.length+x.2.vs.length) (b.is.length+x.2.is.length+1) (b.sites.length+x.2.ss.length)
 rw[l1.1,l1.2.1,l1.2.2,<-hy]at hbd
 rw[<-hy]at hyl
 have f2:=f1.plus hyl
 obtain⟨m1,m2,m3⟩:=plus_len b1 y
 have g2:(b1.plus y).is[b.is.length+x.2.is.length]?=some ⟨17,x.1,0,0,((b.is.length+x.2.is.length+1:Nat):Int),[]⟩:=by
  show (b1.is++y.is)[_]?=_
  rw[List.getElem?_append_left (by omega)];exact g1
 have ha:=add_ok (b1.plus y) pre ⟨16,0,0,0,(b.is.length:Int),[]⟩ (by have:=f2.2.1;omega)
 rw[plus_is,m2,l1.2.1]at ha
 obtain⟨b3,hb3⟩:∃b3,b3=(b1.plus y).plus (ins1 ⟨16,0,0,0,(b.is.length:Int),[]⟩):=⟨_,rfl⟩
 rw[<-hb3]at ha ⊢
 have l3:b3.is.length=b.is.length+x.2.is.length+1+y.is.length+1:=by
  rw[hb3];obtain⟨p,q,r⟩:=plus_len (b1.plus y) (ins1 ⟨16,0,0,0,(b.is.length:Int),[]⟩);rw[q,m2,l1.2.1]
  simp[ins1]
 have g3:b3.is[b.is.length+x.2.is.length]?=some ⟨17,x.1,0,0,((b.is.length+x.2.is.length+1:Nat):Int),[]⟩:=by
  rw[hb3];show ((b1.plus y).is++_)[_]?=_
  rw[List.getElem?_append_left (by omega)];exact g2
 have hlt3:b3.is.length<1000000000:=by have:=f2.2.1;omega
 have nx3:=fun li=>next_ok li b3 pre hlt3
 rw[l3]at nx3
 obtain⟨r0,r1,r2,r3,r4,r5,r6,r7,r8,r9,r10,V,R,P3⟩:=pt_of b3 pre (by intro c;rw[c]at l3;simp at l3)
 have s3:=P3.set (b.is.length+x.2.is.length) ⟨17,x.1,0,((b.is.length+x.2.is.length+1+y.is.length+1:Nat):Int),((b.is.length+x.2.is.length+1:Nat):Int),[]⟩
 have q3:=P3.get _ _ g3
 have w3:b.is.length+x.2.is.length<R.length:=by rw[P3.len];omega
 have hn:argV []=.nilSl:=rfl
 have e1:isSl (esV s.es)=true:=isSl_esV
 have e2:(esV s.es).view=esV s.es:=view_esV
 have e3:rowsL (esV s.es)=[e.row]:=by show rowsL (lstV _ _)=_;rw[rowsL_lstV,he];rfl
 have e4:isSz 11 (esV s.es)=true:=zE
 have d1:isSl (ssV s.bd)=true:=isSl_ssV
 have d2:(ssV s.bd).view=ssV s.bd:=view_ssV
 have u1:isSl (ssV s.el)=true:=isSl_ssV
 have u2:(ssV s.el).view=ssV s.el:=view_ssV
 have k1:isSl (esV e.kids)=true:=isSl_esV
 have k2:(esV e.kids).view=esV e.kids:=view_esV
 simp only[In.row,hn]at ha s3 q3
 simp only[pB,P3.eq,List.cons_append,List.nil_append]at nx0 hbr hbd ha nx3 s3
 rw[E.row_eq]at hbr e3
 rw[Sm.row_eq]
 refine call_run (sf:=s64) rfl rfl rfl ?_
 generalize stB (b3.seti (b.is.length+x.2.is.length) ⟨17,x.1,0,((b.is.length+x.2.is.length+1+y.is.length+1:Nat):Int),((b.is.length+x.2.is.length+1:Nat):Int),[]⟩) pre=st6 at *
 generalize b.is.length+x.2.is.length+1+y.is.length+1=N4 at *
 generalize b.is.length+x.2.is.length+1+y.is.length=N3 at *
 generalize b.is.length+x.2.is.length+1=N2 at *
 generalize b.is.length+x.2.is.length=N1 at *
 generalize b.is.length=N0 at *
 generalize stB b pre=st at *
 generalize stB b1 pre=st1 at *
 generalize stB (b1.plus y) pre=st2 at *
 generalize esV e.kids=KV at *
 generalize esV s.es=EV at *
 generalize ssV s.bd=DV at *
 generalize ssV s.el=LV at *
 have v3:=fun h:N1<R.length=>(List.getElem?_eq_some_iff.1 q3).2
 simp[s64,e1,e2,e3,e4,d1,d2,u1,k2,SOp.newBox,AV.view,pB,nx0,hbr,hbd,ha,cut,paste]
 rw[W_drawP]
 simp[evalRec,pairOk,readsSame,boxOk,SOp.newBox,nx3,w3,v3,mayWrite,AV.allPure,AV.isPure,cut,paste,AV.view]
 refine⟨_,_,⟨rfl,rfl⟩,?_⟩
 simp[Ent.same,AV.same,s3,cut,AV.view]
theorem stmt_ok (s:Sm):PS s:=by
 induction s using Sm.ind with
 |_ s ih1 ih2=>
  intro b pre hL hb
  rw[LS_eq]at hL
  obtain⟨h1,h2,h3,h4,h5,h6⟩:=hL
  have hss:=Sm.sz_eq s
  have hn:argV []=.nilSl:=rfl
  have e1:isSl (esV s.es)=true:=isSl_esV
  have e2:(esV s.es).view=esV s.es:=view_esV
  have e4:isSz 11 (esV s.es)=true:=zE
  have d1:isSl (ssV s.bd)=true:=isSl_ssV
  have d2:(ssV s.bd).view=ssV s.bd:=view_ssV
  have u1:isSl (ssV s.el)=true:=isSl_ssV
  have u2:(ssV s.el).view=ssV s.el:=view_ssV
  rw[cS_eq]
  by_cases c:s.k=2\/s.k=3
  ·rw[if_pos c]
   have hx:=set_ok b pre s (h2 (by omega)) h1 (h4 c) (hb.le (by omega))
   generalize stB (b.plus ((cE b.vars.length b.sites.length (es0 s.es)).2.app (ins1 (setI s.ref (cE b.vars.length b.sites.length (es0 s.es)).1)))) pre=st1 at *
   rw[Sm.row_eq]at hx ⊢
   refine call_run (sf:=s46) rfl rfl rfl ?_
   generalize stB b pre=st at *
   generalize esV s.es=EV at *
   generalize ssV s.bd=DV at *
   generalize ssV s.el=LV at *
   simp only[pB]at hx
   rcases c with c|c<;>
   ·rw[c]at hx
    simp[s46,e1,e2,d1,d2,u1,u2,SOp.newBox,AV.view,pB,c,hx,cut]
  rw[if_neg c]
  by_cases c4:s.k=4
  ·rw[if_pos c4]
   have hx:=put_ok b pre s (h3 c4).1 h1 (h3 c4).2 (hb.le (by omega))
   generalize stB (b.plus (cPut b.vars.length b.sites.length (es0 s.es) (cEs b.vars.length b.sites.length (es0 s.es).kids) (fun nv ns=>cE nv ns (es1 s.es)))) pre=st1 at *
   rw[Sm.row_eq]at hx ⊢
   refine call_run (sf:=s46) rfl rfl rfl ?_
   generalize stB b pre=st at *
   generalize esV s.es=EV at *
   generalize ssV s.bd=DV at *
   generalize ssV s.el=LV at *
   simp only[pB]at hx
   rw[c4]at hx
   simp[s46,e1,e2,d1,d2,u1,u2,SOp.newBox,AV.view,pB,c4,hx,cut]
  rw[if_neg c4]
  by_cases c5:s.k=5
  ·rw[if_pos c5]
   have hx:=choose_ok s ih1 ih2 b pre (h2 (by omega)) h1 h5 h6 hb
   generalize stB (b.plus (cIf b.vars.length b.is.length b.sites.length (cE b.vars.length b.sites.length (es0 s.es)) (fun nv at_ ns=>cB nv at_ ns s.bd) (fun nv at_ ns=>cB nv at_ ns s.el))) pre=st1 at *
   rw[Sm.row_eq]at hx ⊢
   refine call_run (sf:=s46) rfl rfl rfl ?_
   generalize stB b pre=st at *
   generalize esV s.es=EV at *
   generalize ssV s.bd=DV at *
   generalize ssV s.el=LV at *
   simp only[pB]at hx
   rw[c5]at hx
   simp[s46,e1,e2,d1,d2,u1,u2,SOp.newBox,AV.view,pB,c5,hx,cut]
  rw[if_neg c5]
  by_cases c6:s.k=6
  ·rw[if_pos c6]
   have hx:=repeat_ok s ih1 b pre (h2 (by omega)) h1 h5 hb
   generalize stB (b.plus (cWh b.vars.length b.is.length b.sites.length (cE b.vars.length b.sites.length (es0 s.es)) (fun nv at_ ns=>cB nv at_ ns s.bd))) pre=st1 at *
   rw[Sm.row_eq]at hx ⊢
   refine call_run (sf:=s46) rfl rfl rfl ?_
   generalize stB b pre=st at *
   generalize esV s.es=EV at *
   generalize ssV s.bd=DV at *
   generalize ssV s.el=LV at *
   simp only[pB]at hx
   rw[c6]at hx
   simp[s46,e1,e2,d1,d2,u1,u2,SOp.newBox,AV.view,pB,c6,hx,cut]
  rw[if_neg c6]
  by_cases c7:s.k=7
  ·rw[if_pos c7]
   cases hes:s.es with
   |nil=>
    have ha:=add_ok b pre ⟨18,-1,0,0,0,[]⟩ (by have:=hb.2.1;omega)
    rw[plus_is]at ha
    simp only[In.row,hn]at ha
    have e3:rowsL (esV s.es)=[]:=by show rowsL (lstV _ _)=_;rw[rowsL_lstV,hes];rfl
    dsimp only
    generalize stB (b.plus (ins1 ⟨18,-1,0,0,0,[]⟩)) pre=st1 at *
    rw[Sm.row_eq]
    refine call_run (sf:=s46) rfl rfl rfl ?_
    generalize stB b pre=st at *
    generalize esV s.es=EV at *
    generalize ssV s.bd=DV at *
    generalize ssV s.el=LV at *
    simp only[pB]at ha
    simp[s46,e1,e2,e3,d1,u1,SOp.newBox,AV.view,pB,c7,ha,cut,paste]
   |cons e l=>
    have hsz:E.szs s.es=E.sz e+E.szs l:=by rw[hes];rfl
    have hx:=expr_ok e b pre ((LL_iff _).1 h1 e (by rw[hes];exact List.mem_cons_self)) (hb.le (by omega))
    have f1:=Fb.plus (hb.le (by omega:E.sz e+1<=_)) (cE_lo e b.vars.length b.sites.length)
    dsimp only
    generalize cE b.vars.length b.sites.length e=x at *
    have ha:=add_ok (b.plus x.2) pre ⟨18,x.1,0,0,0,[]⟩ (by have:=f1.2.1;omega)
    rw[plus_is2]at ha
    simp only[In.row,hn]at ha
    have e3:rowsL (esV s.es)=e.row::E.rows l:=by show rowsL (lstV _ _)=_;rw[rowsL_lstV,hes];rfl
    have k1:isSl (esV e.kids)=true:=isSl_esV
    have k2:(esV e.kids).view=esV e.kids:=view_esV
    generalize stB (b.plus (x.2.app (ins1 ⟨18,x.1,0,0,0,[]⟩))) pre=st2 at *
    rw[E.row_eq]at hx e3
    rw[Sm.row_eq]
    refine call_run (sf:=s46) rfl rfl rfl ?_
    generalize stB b pre=st at *
    generalize stB (b.plus x.2) pre=st1 at *
    generalize esV e.kids=KV at *
    generalize esV s.es=EV at *
    generalize ssV s.bd=DV at *
    generalize ssV s.el=LV at *
    simp only[pB]at ha hx
    simp[s46,e1,e2,e3,e4,d1,u1,k2,SOp.newBox,AV.view,pB,c7,hx,ha,cut,paste]
  rw[if_neg c7]
  have one:(s.k=8\/s.k=9)->∃e,s.es=[e]/\es0 s.es=e/\E.szs s.es=E.sz e/\rowsL (esV s.es)=[e.row]/\LE e:=fun h=>by
   obtain⟨e,he⟩:∃e,s.es=[e]:=⟨_,one_es (h2 (by omega))⟩
   exact⟨e,he,by rw[he];rfl,by rw[he];simp[E.szs],by show rowsL (lstV _ _)=_;rw[rowsL_lstV,he];rfl,(LL_iff _).1 h1 e (by rw[he];exact List.mem_cons_self)⟩
  by_cases c8:s.k=8
  ·rw[if_pos c8]
   obtain⟨e,hes,h0,hsz,e3,hLe⟩:=one (.inl c8)
   rw[h0]
   have hx:=expr_ok e b pre hLe (hb.le (by omega))
   have f1:=Fb.plus (hb.le (by omega:E.sz e+1<=_)) (cE_lo e b.vars.length b.sites.length)
   generalize cE b.vars.length b.sites.length e=x at *
   have ha:=add_ok (b.plus x.2) pre ⟨15,x.1,0,0,0,[]⟩ (by have:=f1.2.1;omega)
   rw[plus_is2]at ha
   simp only[In.row,hn]at ha
   have k1:isSl (esV e.kids)=true:=isSl_esV
   have k2:(esV e.kids).view=esV e.kids:=view_esV
   generalize stB (b.plus (x.2.app (ins1 ⟨15,x.1,0,0,0,[]⟩))) pre=st2 at *
   rw[E.row_eq]at hx e3
   rw[Sm.row_eq]
   refine call_run (sf:=s46) rfl rfl rfl ?_
   generalize stB b pre=st at *
   generalize stB (b.plus x.2) pre=st1 at *
   generalize esV e.kids=KV at *
   generalize esV s.es=EV at *
   generalize ssV s.bd=DV at *
   generalize ssV s.el=LV at *
   simp only[pB]at ha hx
   simp[s46,e1,e2,e3,e4,d1,u1,k2,SOp.newBox,AV.view,pB,c8,hx,ha,cut,paste]
  rw[if_neg c8]
  by_cases c9:s.k=9
  ·rw[if_pos c9]
   obtain⟨e,hes,h0,hsz,e3,hLe⟩:=one (.inr c9)
   rw[h0]
   have hx:=expr_ok e b pre hLe (hb.le (by omega))
   generalize cE b.vars.length b.sites.length e=x at *
   have k1:isSl (esV e.kids)=true:=isSl_esV
   have k2:(esV e.kids).view=esV e.kids:=view_esV
   rw[E.row_eq]at hx e3
   rw[Sm.row_eq]
   refine call_run (sf:=s46) rfl rfl rfl ?_
   generalize stB b pre=st at *
   generalize stB (b.plus x.2) pre=st1 at *
   generalize esV e.kids=KV at *
   generalize esV s.es=EV at *
   generalize ssV s.bd=DV at *
   generalize ssV s.el=LV at *
   simp only[pB]at hx
   simp[s46,e1,e2,e3,e4,d1,u1,k2,SOp.newBox,AV.view,pB,c9,hx,cut]
  rw[if_neg c9,plus_O0,Sm.row_eq]
  refine call_run (sf:=s46) rfl rfl rfl ?_
  generalize stB b pre=st at *
  generalize esV s.es=EV at *
  generalize ssV s.bd=DV at *
  generalize ssV s.el=LV at *
  have c2:¬s.k=2:=fun h=>c (.inl h)
  have c3:¬s.k=3:=fun h=>c (.inr h)
  simp[s46,e1,d1,u1,SOp.newBox,AV.view,pB,c2,c3,c4,c5,c6,c7,c8,c9,cut]
end U13
