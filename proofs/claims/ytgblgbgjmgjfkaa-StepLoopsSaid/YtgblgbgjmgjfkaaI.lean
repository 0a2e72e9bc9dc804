/-
  Programs in codes, as those who run see them.
-/
import Derived.Test.YtgblgbgjmgjfkaaA6

namespace IrV
open Ax Go
def notOwn:AV->Bool
 |.own _ _=>false
 |_=>true
theorem view_notOwn {v:AV}(h:notOwn v=true)(hs:isSl v=true):v.view=v:=by cases v<;>simp_all [notOwn,isSl,AV.view]
@[simp] theorem notOwn_view (v:AV):notOwn v.view=true:=by cases v<;>simp[notOwn,AV.view]
def isRows (sz:Nat)(p:List AV->Bool)(v:AV):Bool:=notOwn v&&isSz sz v&&(rowsL v).all p
theorem isRows_sz {sz:Nat}{p:List AV->Bool}{v:AV}(h:isRows sz p v=true):isSz sz v=true:=by simp only[isRows,Bool.and_eq_true]at h;exact h.1.2
theorem isRows_all {sz:Nat}{p:List AV->Bool}{v:AV}(h:isRows sz p v=true):∀r∈rowsL v,p r=true:=by simp only[isRows,Bool.and_eq_true,List.all_eq_true]at h;exact h.2
theorem isRows_vw {sz:Nat}{p:List AV->Bool}{v:AV}(h:isRows sz p v=true):v.view=v:=by
 have h2:=isSl_sz (isRows_sz h)
 simp only[isRows,Bool.and_eq_true]at h
 exact view_notOwn h.1.1 h2
theorem rows_map {α:Type}{sz:Nat}{p:List AV->Bool}{d:List AV->α}{e:α->List AV}{v:AV}(h:isRows sz p v=true)(he:∀r,p r=true->r=e (d r)):rowsL v=((rowsL v).map d).map e:=by
 rw[List.map_map]
 conv=>lhs;rw[<-List.map_id (rowsL v)]
 exact List.map_congr_left fun r hr=>he r (isRows_all h r hr)
def inR (n:Int):Bool:=decide (-9223372036854775808<=n)&&decide (n<=9223372036854775807)
structure T3 where
 b:Int
 r:Int
 d:Int
 deriving DecidableEq
abbrev T0:T3:=⟨0,0,0⟩
@[simp] def T3.cells (t:T3):List AV:=[.int .i64 t.b,.int .i64 t.r,.int .i64 t.d]
def tyRow (r:List AV):Bool:=match r with | [.int .i64 a,.int .i64 b,.int .i64 c]=>inR a&&inR b&&inR c|_=>false
def dT (r:List AV):T3:=match r with | [.int .i64 a,.int .i64 b,.int .i64 c]=>⟨a,b,c⟩|_=>T0
theorem tyRow_eq (r:List AV)(h:tyRow r=true):r=(dT r).cells:=by
 unfold tyRow at h
 split at h
 ·rfl
 ·cases h
def isTs (v:AV):Bool:=isRows 3 tyRow v
def dTs (v:AV):List T3:=(rowsL v).map dT
theorem rowsL_T {v:AV}(h:isTs v=true):rowsL v=(dTs v).map T3.cells:=rows_map h tyRow_eq
theorem isTs_vw {v:AV}(h:isTs v=true):v.view=v:=isRows_vw h
@[simp] theorem dTs_view (v:AV):dTs v.view=dTs v:=by simp[dTs]
@[simp] theorem isSz_T {v:AV} (h:isTs v=true):isSz 3 v=true:=isRows_sz h
@[simp] theorem isSl_T {v:AV} (h:isTs v=true):isSl v=true:=isSl_sz (isSz_T h)
structure FD where
 name:List UInt8
 t:T3
def FD.cells (f:FD):List AV:=[.str f.name,.int .i64 f.t.b,.int .i64 f.t.r,.int .i64 f.t.d]
def fdRow (r:List AV):Bool:=match r with | [.str _,.int .i64 a,.int .i64 b,.int .i64 c]=>inR a&&inR b&&inR c|_=>false
def dF (r:List AV):FD:=match r with | [.str s,.int .i64 a,.int .i64 b,.int .i64 c]=>⟨s,a,b,c⟩|_=>⟨[],T0⟩
theorem fdRow_eq (r:List AV)(h:fdRow r=true):r=(dF r).cells:=by
 unfold fdRow at h
 split at h
 ·rfl
 ·cases h
def isFs (v:AV):Bool:=isRows 4 fdRow v
def dFs (v:AV):List FD:=(rowsL v).map dF
theorem rowsL_F {v:AV}(h:isFs v=true):rowsL v=(dFs v).map FD.cells:=rows_map h fdRow_eq
theorem isFs_vw {v:AV}(h:isFs v=true):v.view=v:=isRows_vw h
@[simp] theorem dFs_view (v:AV):dFs v.view=dFs v:=by simp[dFs]
@[simp] theorem isSz_F {v:AV} (h:isFs v=true):isSz 4 v=true:=isRows_sz h
@[simp] theorem isSl_F {v:AV} (h:isFs v=true):isSl v=true:=isSl_sz (isSz_F h)
structure RD where
 name:List UInt8
 fields:AV
def RD.cells (r:RD):List AV:=[.str r.name,r.fields]
def rdRow (r:List AV):Bool:=match r with | [.str _,f]=>isFs f|_=>false
def dR (r:List AV):RD:=match r with | [.str s,f]=>⟨s,f⟩|_=>⟨[],.nilSl⟩
theorem rdRow_eq (r:List AV)(h:rdRow r=true):r=(dR r).cells:=by
 unfold rdRow at h
 split at h
 ·rfl
 ·cases h
def isRs (v:AV):Bool:=isRows 2 rdRow v
def dRs (v:AV):List RD:=(rowsL v).map dR
theorem rowsL_R {v:AV}(h:isRs v=true):rowsL v=(dRs v).map RD.cells:=rows_map h rdRow_eq
theorem isRs_get {v:AV}(h:isRs v=true):∀r∈dRs v,isFs r.fields=true:=by
 intro r hr
 obtain⟨x,hx,rfl⟩:=List.mem_map.1 hr
 have:=isRows_all h x hx
 unfold rdRow at this
 unfold dR
 split at this
 ·exact this
 ·cases this
theorem isRs_vw {v:AV}(h:isRs v=true):v.view=v:=isRows_vw h
@[simp] theorem dRs_view (v:AV):dRs v.view=dRs v:=by simp[dRs]
@[simp] theorem isSz_R {v:AV} (h:isRs v=true):isSz 2 v=true:=isRows_sz h
@[simp] theorem isSl_R {v:AV} (h:isRs v=true):isSl v=true:=isSl_sz (isSz_R h)
structure ID where
 op:Int
 a:Int
 b:Int
 c:Int
 n:Int
 args:AV
def ID.cells (i:ID):List AV:=[.int .i64 i.op,.int .i64 i.a,.int .i64 i.b,.int .i64 i.c,.int .i64 i.n,i.args]
def idRow (r:List AV):Bool:=match r with | [.int .i64 a,.int .i64 b,.int .i64 c,.int .i64 d,.int .i64 e,v]=>inR a&&inR b&&inR c&&inR d&&inR e&&notOwn v&&isI v|_=>false
def dN (r:List AV):ID:=match r with | [.int .i64 a,.int .i64 b,.int .i64 c,.int .i64 d,.int .i64 e,v]=>⟨a,b,c,d,e,v⟩|_=>⟨0,0,0,0,0,.nilSl⟩
theorem idRow_eq (r:List AV)(h:idRow r=true):r=(dN r).cells:=by
 unfold idRow at h
 split at h
 ·rfl
 ·cases h
def isNs (v:AV):Bool:=isRows 6 idRow v
def dNs (v:AV):List ID:=(rowsL v).map dN
theorem rowsL_N {v:AV}(h:isNs v=true):rowsL v=(dNs v).map ID.cells:=rows_map h idRow_eq
theorem isNs_get {v:AV}(h:isNs v=true):∀r∈dNs v,notOwn r.args=true/\isI r.args=true:=by
 intro r hr
 obtain⟨x,hx,rfl⟩:=List.mem_map.1 hr
 have:=isRows_all h x hx
 unfold idRow at this
 unfold dN
 split at this
 ·simp only[Bool.and_eq_true]at this;exact⟨this.1.2,this.2⟩
 ·cases this
theorem isNs_vw {v:AV}(h:isNs v=true):v.view=v:=isRows_vw h
@[simp] theorem dNs_view (v:AV):dNs v.view=dNs v:=by simp[dNs]
@[simp] theorem isSz_N {v:AV} (h:isNs v=true):isSz 6 v=true:=isRows_sz h
@[simp] theorem isSl_N {v:AV} (h:isNs v=true):isSl v=true:=isSl_sz (isSz_N h)
structure CD where
 params:Int
 vars:AV
 has:Bool
 res:T3
 ins:AV
def CD.cells (c:CD):List AV:=[.int .i64 c.params,c.vars,.bool c.has,.int .i64 c.res.b,.int .i64 c.res.r,.int .i64 c.res.d,c.ins]
def cdRow (r:List AV):Bool:=match r with | [.int .i64 p,v,.bool _,.int .i64 a,.int .i64 b,.int .i64 c,i]=>inR p&&inR a&&inR b&&inR c&&isTs v&&isNs i|_=>false
def dC (r:List AV):CD:=match r with | [.int .i64 p,v,.bool h,.int .i64 a,.int .i64 b,.int .i64 c,i]=>⟨p,v,h,⟨a,b,c⟩,i⟩|_=>⟨0,.nilSl,false,T0,.nilSl⟩
theorem cdRow_eq (r:List AV)(h:cdRow r=true):r=(dC r).cells:=by
 unfold cdRow at h
 split at h
 ·rfl
 ·cases h
def isCs (v:AV):Bool:=isRows 7 cdRow v
def dCs (v:AV):List CD:=(rowsL v).map dC
theorem rowsL_C {v:AV}(h:isCs v=true):rowsL v=(dCs v).map CD.cells:=rows_map h cdRow_eq
theorem isCs_get {v:AV}(h:isCs v=true):∀r∈dCs v,isTs r.vars=true/\isNs r.ins=true:=by
 intro r hr
 obtain⟨x,hx,rfl⟩:=List.mem_map.1 hr
 have:=isRows_all h x hx
 unfold cdRow at this
 unfold dC
 split at this
 ·simp only[Bool.and_eq_true]at this;exact⟨this.1.2,this.2⟩
 ·cases this
theorem isCs_vw {v:AV}(h:isCs v=true):v.view=v:=isRows_vw h
@[simp] theorem dCs_view (v:AV):dCs v.view=dCs v:=by simp[dCs]
@[simp] theorem isSz_C {v:AV} (h:isCs v=true):isSz 7 v=true:=isRows_sz h
@[simp] theorem isSl_C {v:AV} (h:isCs v=true):isSl v=true:=isSl_sz (isSz_C h)
structure SD where
 fn:Int
 t:T3
def SD.cells (s:SD):List AV:=[.int .i64 s.fn,.int .i64 s.t.b,.int .i64 s.t.r,.int .i64 s.t.d]
def sdRow (r:List AV):Bool:=match r with | [.int .i64 f,.int .i64 a,.int .i64 b,.int .i64 c]=>inR f&&inR a&&inR b&&inR c|_=>false
def dS (r:List AV):SD:=match r with | [.int .i64 f,.int .i64 a,.int .i64 b,.int .i64 c]=>⟨f,a,b,c⟩|_=>⟨0,T0⟩
theorem sdRow_eq (r:List AV)(h:sdRow r=true):r=(dS r).cells:=by
 unfold sdRow at h
 split at h
 ·rfl
 ·cases h
def isSs (v:AV):Bool:=isRows 4 sdRow v
def dSs (v:AV):List SD:=(rowsL v).map dS
theorem rowsL_S {v:AV}(h:isSs v=true):rowsL v=(dSs v).map SD.cells:=rows_map h sdRow_eq
theorem isSs_vw {v:AV}(h:isSs v=true):v.view=v:=isRows_vw h
@[simp] theorem dSs_view (v:AV):dSs v.view=dSs v:=by simp[dSs]
@[simp] theorem isSz_S {v:AV} (h:isSs v=true):isSz 4 v=true:=isRows_sz h
@[simp] theorem isSl_S {v:AV} (h:isSs v=true):isSl v=true:=isSl_sz (isSz_S h)
structure XD where
 recs:AV
 globals:AV
 codes:AV
 sites:AV
 main:Int
def XD.cells (x:XD):List AV:=[x.recs,x.globals,x.codes,x.sites,.int .i64 x.main]
structure XD.ok (x:XD):Prop where
 recs:isRs x.recs=true
 globals:isTs x.globals=true
 codes:isCs x.codes=true
 sites:isSs x.sites=true
theorem inR_T {v:AV}(h:isTs v=true):∀t∈dTs v,inR t.b=true/\inR t.r=true/\inR t.d=true:=by
 intro r hr
 obtain⟨x,hx,rfl⟩:=List.mem_map.1 hr
 have:=isRows_all h x hx
 unfold tyRow at this
 unfold dT
 split at this
 ·simp only[Bool.and_eq_true]at this;exact⟨this.1.1,this.1.2,this.2⟩
 ·cases this
def ofT (vars:List T3)(n:Int):T3:=if 0<=n then vars.getD n.toNat T0 else T0
def isT (vars:List T3)(t:T3)(l:List Int):Bool:=l.all (fun n=>decide (ofT vars n=t))&&decide (t≠T0)
def tInt:T3:=⟨1,0,0⟩
def tBool:T3:=⟨2,0,0⟩
end IrV
namespace Mach
open Ax Go IrV
structure Fr where
 f:Nat
 at_:Int
 to:Int
 vs:List Int
structure Ms where
 inp:List Int
 s:List (List Int)
 g:List Int
 l:List Fr
 e:Int
 code:Int
 out:List Int
 steps:Nat
structure MP where
 codes:List CD
 cells:List Nat
 ng:Nat
def flagI (b:Bool):Int:=if b then 1 else 0
def binI (op a b:Int):Int×Int:=
 if op=14 then (IntKind.i64.wrap (a+b),0)
 else if op=15 then (IntKind.i64.wrap (a-b),0)
 else if op=16 then (IntKind.i64.wrap (a*b),0)
 else if op=17 then (if b=0 then (0,3) else (IntKind.i64.wrap (a.tdiv b),0))
 else if op=18 then (if b=0 then (0,3) else (a.tmod b,0))
 else if op=19 then (flagI (decide (a<b)),0)
 else if op=20 then (flagI (decide (a<=b)),0)
 else if op=21 then (flagI (decide (a=b)),0)
 else if op=22 then (flagI (decide (a≠b)),0)
 else if op=23 then (flagI (decide (a≠0)&&decide (b≠0)),0)
 else if op=24 then (flagI (decide (a≠0)||decide (b≠0)),0)
 else (0,0)
def unI (op a:Int):Int:=if op=12 then IntKind.i64.wrap (0-a) else if op=13 then flagI (decide (a=0)) else 0
def lenS (T:List (List Int))(r:Int):Int×Int:=if 1<=r/\r<=(T.length:Int) then (((T.getD (r-1).toNat []).length:Int),0) else (0,1)
def trapS (T:List (List Int))(r i:Int):Int:=if 1<=r/\r<=(T.length:Int) then (if 0<=i/\i<((T.getD (r-1).toNat []).length:Int) then 0 else 2) else 1
def loadS (T:List (List Int))(r i:Int):Int×Int:=if trapS T r i=0 then ((T.getD (r-1).toNat []).getD i.toNat 0,0) else (0,trapS T r i)
def putS (T:List (List Int))(r i x:Int):List (List Int):=if trapS T r i=0 then T.set (r-1).toNat ((T.getD (r-1).toNat []).set i.toNat x) else T
def clampN (n:Int):Nat:=if n<0 then 0 else if 8<n then 8 else n.toNat
def vAt (v:List Int)(n:Int):Int:=v.getD n.toNat 0
def trapM (m:Ms)(c:Int):Ms:=if c=0 then m else { m with e:=2,code:=c }
def setM (m:Ms)(n v:Int):Ms:=match m.l with
 |f::l=>{ m with l:={ f with vs:=f.vs.set n.toNat v }::l }
 |[]=>m
def gotM (m:Ms)(n:Int)(x:Int×Int):Ms:=if x.2=0 then setM m n x.1 else trapM m x.2
def jumpM (m:Ms)(n:Int):Ms:=match m.l with
 |f::l=>{ m with l:={ f with at_:=n }::l }
 |[]=>m
def C0:CD:=⟨0,.nilSl,false,T0,.nilSl⟩
def nvOf (X:MP)(c:Nat):Nat:=(dTs (X.codes.getD c C0).vars).length
def enterM (X:MP)(m:Ms)(c to:Int)(args:List Int):Ms:={ m with l:=⟨c.toNat,0,to,args++List.replicate (nvOf X c.toNat-args.length) 0⟩::m.l }
def leaveM (m:Ms)(v:Int):Ms:=match m.l with
 |f::g::l=>{ m with l:=(if 0<=f.to then { g with vs:=g.vs.set f.to.toNat v } else g)::l }
 |_=>{ m with l:=[],e:=1 }
def readM (m:Ms)(a:Int):Ms:=match m.inp with
 |[]=>trapM m 5
 |n::r=>setM { m with inp:=r } a n
def callM (X:MP)(m:Ms)(v:List Int)(i:ID):Ms:=if 40<=m.l.length then trapM m 6 else enterM X m i.c i.a ((dI i.args).map (vAt v))
def doI (X:MP)(m:Ms)(v:List Int)(i:ID):Ms:=
 if i.op=1 then setM m i.a i.n
 else if i.op=2 then setM m i.a 0
 else if i.op=3 then setM m i.a (vAt v i.b)
 else if i.op=4 then gotM m i.a (binI i.n (vAt v i.b) (vAt v i.c))
 else if i.op=5 then setM m i.a (unI i.n (vAt v i.b))
 else if i.op=6 then gotM m i.a (loadS m.s (vAt v i.b) i.c)
 else if i.op=7 then trapM { m with s:=putS m.s (vAt v i.a) i.c (vAt v i.b) } (trapS m.s (vAt v i.a) i.c)
 else if i.op=8 then gotM m i.a (loadS m.s (vAt v i.b) (vAt v i.c))
 else if i.op=9 then trapM { m with s:=putS m.s (vAt v i.a) (vAt v i.b) (vAt v i.c) } (trapS m.s (vAt v i.a) (vAt v i.b))
 else if i.op=10 then gotM m i.a (lenS m.s (vAt v i.b))
 else if i.op=11 then setM { m with s:=m.s++[List.replicate (clampN (X.cells.getD i.n.toNat 0:Nat)) 0] } i.a ((m.s.length:Int)+1)
 else if i.op=12 then (if vAt v i.b<0\/50<vAt v i.b then trapM m 4 else setM { m with s:=m.s++[List.replicate (vAt v i.b).toNat 0] } i.a ((m.s.length:Int)+1))
 else if i.op=13 then callM X m v i
 else if i.op=14 then readM m i.a
 else if i.op=15 then { m with out:=m.out++[vAt v i.a] }
 else if i.op=16 then jumpM m i.n
 else if i.op=17 then jumpM m (if vAt v i.a≠0 then i.n else i.c)
 else if i.op=18 then leaveM m (if i.a<0 then 0 else vAt v i.a)
 else if i.op=19 then setM m i.a (vAt m.g i.n)
 else if i.op=20 then { m with g:=m.g.set i.n.toNat (vAt v i.a) }
 else m
def I0:ID:=⟨0,0,0,0,0,.nilSl⟩
def insAt (X:MP)(f:Fr):ID:=(dNs (X.codes.getD f.f C0).ins).getD f.at_.toNat I0
def stepM (X:MP)(m:Ms):Ms:=match m.l with
 |f::l=>doI X { m with l:={ f with at_:=f.at_+1 }::l } f.vs (insAt X f)
 |[]=>m
def runM (X:MP):Nat->Ms->Ms
 |0,m=>if m.e=0 then { m with e:=3 } else m
 |n+1,m=>if m.e=0 then runM X n (stepM X { m with steps:=m.steps+1 }) else m
def m0 (X:MP)(main:Nat)(inp:List Int):Ms:=⟨inp,[],List.replicate X.ng 0,[⟨main,0,-1,List.replicate (nvOf X main) 0⟩],0,0,[],0⟩
def inV (nv:Nat)(n:Int):Prop:=0<=n/\n<nv
structure Fit (X:MP)(nv ni:Nat)(i:ID):Prop where
 op:1<=i.op/\i.op<=20
 a:i.op≠13->i.op≠16->i.op≠18->inV nv i.a
 a2:i.op=13\/i.op=18->i.a = -1\/inV nv i.a
 b:i.op=3\/i.op=4\/i.op=5\/i.op=6\/i.op=7\/i.op=8\/i.op=9\/i.op=10\/i.op=12->inV nv i.b
 c:i.op=4\/i.op=8\/i.op=9->inV nv i.c
 site:i.op=11->0<=i.n/\i.n<X.cells.length
 glob:i.op=19\/i.op=20->0<=i.n/\i.n<X.ng
 jmp:i.op=16\/i.op=17->0<=i.n/\i.n<ni
 jmp2:i.op=17->0<=i.c/\i.c<ni
 call:i.op=13->0<=i.c/\i.c<X.codes.length/\(dI i.args).length<=nvOf X i.c.toNat/\∀n∈dI i.args,inV nv n
 bin:i.op=4->14<=i.n/\i.n<=24
 un:i.op=5->i.n=12\/i.n=13
def niOf (X:MP)(c:Nat):Nat:=(dNs (X.codes.getD c C0).ins).length
structure XOk (X:MP):Prop where
 fit:∀c,c<X.codes.length->∀k (h:k<(dNs (X.codes.getD c C0).ins).length),Fit X (nvOf X c) (niOf X c) (dNs (X.codes.getD c C0).ins)[k]/\
  ((dNs (X.codes.getD c C0).ins)[k].op≠16->(dNs (X.codes.getD c C0).ins)[k].op≠17->(dNs (X.codes.getD c C0).ins)[k].op≠18->k+1<niOf X c)
 ne:∀c,c<X.codes.length->0<niOf X c
structure FrOk (X:MP)(f:Fr):Prop where
 fo:f.f<X.codes.length
 ao:0<=f.at_/\f.at_<niOf X f.f
 vo:f.vs.length=nvOf X f.f
def FrsOk (X:MP):List Fr->Prop
 |[]=>True
 |[f]=>FrOk X f
 |f::g::l=>FrOk X f/\(f.to = -1\/inV (nvOf X g.f) f.to)/\FrsOk X (g::l)
structure MsOk (X:MP)(m:Ms):Prop where
 g:m.g.length=X.ng
 l:FrsOk X m.l
 e:m.e=0->m.l≠[]
 d:m.l.length<=40
 s:m.s.length<=m.steps
 o:m.out.length<=m.steps
theorem ins_get {X:MP}{f:Fr}(h:FrOk X f):∃k,∃hk:k<(dNs (X.codes.getD f.f C0).ins).length,f.at_=(k:Int)/\insAt X f=(dNs (X.codes.getD f.f C0).ins)[k]:=by
 obtain⟨h1,h2⟩:=h.ao
 refine⟨f.at_.toNat,by unfold niOf at h2;omega,by omega,?_⟩
 unfold insAt
 rw[List.getD_eq_getElem?_getD,List.getElem?_eq_getElem (by unfold niOf at h2;omega)]
 rfl
def topTo (X:MP)(to:Int):List Fr->Prop
 |[]=>True
 |g::l=>(to = -1\/inV (nvOf X g.f) to)/\FrsOk X (g::l)
theorem frs_cons {X:MP}{f:Fr}{l:List Fr}:FrsOk X (f::l)↔FrOk X f/\topTo X f.to l:=by
 cases l with
 |nil=>simp[FrsOk,topTo]
 |cons g l=>simp[FrsOk,topTo]
structure Mid (X:MP)(m:Ms)(f:Fr)(l:List Fr):Prop where
 ml:m.l=f::l
 fo:f.f<X.codes.length
 vo:f.vs.length=nvOf X f.f
 tl:topTo X f.to l
 g:m.g.length=X.ng
 d:m.l.length<=40
 s:m.s.length+1<=m.steps
 o:m.out.length+1<=m.steps
variable {X:MP}{m:Ms}{f:Fr}{l:List Fr}
theorem Mid.ok (h:Mid X m f l)(ha:0<=f.at_/\f.at_<niOf X f.f):MsOk X m:=
 ⟨h.g,by rw[h.ml,frs_cons];exact⟨⟨h.fo,ha,h.vo⟩,h.tl⟩,fun _=>by rw[h.ml];simp,h.d,by have:=h.s;omega,by have:=h.o;omega⟩
theorem Mid.set (h:Mid X m f l)(n v:Int):Mid X (setM m n v) { f with vs:=f.vs.set n.toNat v } l:=by
 have e:setM m n v={ m with l:={ f with vs:=f.vs.set n.toNat v }::l }:=by unfold setM;rw[h.ml]
 rw[e]
 exact⟨rfl,h.fo,by simp[h.vo],h.tl,h.g,by have:=h.d;rw[h.ml]at this;simpa using this,h.s,h.o⟩
theorem Mid.trap (h:Mid X m f l)(ha:0<=f.at_/\f.at_<niOf X f.f)(c:Int):MsOk X (trapM m c):=by
 unfold trapM
 split
 ·exact h.ok ha
 ·have:=h.ok ha
  exact⟨this.g,this.l,fun e=>by simp at e,this.d,this.s,this.o⟩
theorem Mid.got (h:Mid X m f l)(ha:0<=f.at_/\f.at_<niOf X f.f)(n:Int)(x:Int×Int):MsOk X (gotM m n x):=by
 unfold gotM
 split
 ·exact(h.set n x.1).ok ha
 ·exact h.trap ha x.2
theorem put_len {T:List (List Int)}{r i x:Int}:(putS T r i x).length=T.length:=by unfold putS;split<;>simp
theorem FrsOk.tail {f:Fr}(h:FrsOk X (f::l)):FrsOk X l:=by
 cases l with
 |nil=>trivial
 |cons g l=>exact h.2.2
theorem step_ok (hX:XOk X)(h:MsOk X m)(he:m.e=0):MsOk X (stepM X { m with steps:=m.steps+1 }):=by
 unfold stepM
 cases hl:m.l with
 |nil=>exact absurd hl (h.e he)
 |cons f l=>
  dsimp only
  have hfl:=h.l
  rw[hl,frs_cons]at hfl
  obtain⟨hf,ht⟩:=hfl
  obtain⟨k,hk,hka,hi⟩:=ins_get hf
  obtain⟨hfit,hnx⟩:=hX.fit f.f hf.fo k hk
  rw[<-hi]at hfit hnx
  generalize insAt X f=i at *
  have hd:=h.d
  rw[hl]at hd
  simp only[List.length_cons]at hd
  have hM:Mid X { m with steps:=m.steps+1,l:={ f with at_:=f.at_+1 }::l } { f with at_:=f.at_+1 } l:=
   ⟨rfl,hf.fo,hf.vo,ht,h.g,by simpa using hd,by have:=h.s;simp only;omega,by have:=h.o;simp only;omega⟩
  have ha:i.op≠16->i.op≠17->i.op≠18->0<=f.at_+1/\f.at_+1<niOf X f.f:=fun a b c=>by have:=hnx a b c;omega
  generalize hm:({ m with steps:=m.steps+1,l:={ f with at_:=f.at_+1 }::l }:Ms)=m1 at *
  have hml:m1.l={ f with at_:=f.at_+1 }::l:=hM.ml
  have hjmp:∀n:Int,0<=n/\n<niOf X f.f->MsOk X (jumpM m1 n):=fun n hn=>by
   have e:jumpM m1 n={ m1 with l:={ f with at_:=n }::l }:=by unfold jumpM;rw[hml]
   rw[e]
   exact⟨hM.g,by rw[frs_cons];exact⟨⟨hf.fo,hn,hf.vo⟩,ht⟩,fun _=>by simp,by simpa using hd,by have:=hM.s;simp only;omega,by have:=hM.o;simp only;omega⟩
  have hS:∀T:List (List Int),T.length<=m1.s.length+1->i.op≠16->i.op≠17->i.op≠18->∀n v,MsOk X (setM { m1 with s:=T } n v)/\MsOk X { m1 with s:=T }:=fun T hT a b c n v=>by
   have e:setM { m1 with s:=T } n v={ setM m1 n v with s:=T }:=by unfold setM;rw[hml]
   have h1:=(hM.set n v).ok (ha a b c)
   have h2:=hM.ok (ha a b c)
   have h3:=hM.s
   have h4:(setM m1 n v).steps=m1.steps:=by unfold setM;rw[hml]
   rw[e]
   exact⟨⟨h1.g,h1.l,h1.e,h1.d,by simp only[h4];omega,h1.o⟩,⟨h2.g,h2.l,h2.e,h2.d,by simp only;omega,h2.o⟩⟩
  have hP:∀(T:List (List Int)) (c:Int),T.length<=m1.s.length+1->i.op≠16->i.op≠17->i.op≠18->MsOk X (trapM { m1 with s:=T } c):=fun T c hT a b d=>by
   have:=(hS T hT a b d 0 0).2
   unfold trapM
   split
   ·exact this
   ·exact⟨this.g,this.l,fun e=>by simp at e,this.d,this.s,this.o⟩
  unfold doI
  by_cases h1:i.op=1
  ·rw[if_pos h1]
   exact(hM.set _ _).ok (ha (by omega) (by omega) (by omega))
  rw[if_neg h1]
  by_cases h2:i.op=2
  ·rw[if_pos h2]
   exact(hM.set _ _).ok (ha (by omega) (by omega) (by omega))
  rw[if_neg h2]
  by_cases h3:i.op=3
  ·rw[if_pos h3]
   exact(hM.set _ _).ok (ha (by omega) (by omega) (by omega))
  rw[if_neg h3]
  by_cases h4:i.op=4
  ·rw[if_pos h4]
   exact hM.got (ha (by omega) (by omega) (by omega)) _ _
  rw[if_neg h4]
  by_cases h5:i.op=5
  ·rw[if_pos h5]
   exact(hM.set _ _).ok (ha (by omega) (by omega) (by omega))
  rw[if_neg h5]
  by_cases h6:i.op=6
  ·rw[if_pos h6]
   exact hM.got (ha (by omega) (by omega) (by omega)) _ _
  rw[if_neg h6]
  by_cases h7:i.op=7
  ·rw[if_pos h7]
   exact hP _ _ (by rw[put_len];omega) (by omega) (by omega) (by omega)
  rw[if_neg h7]
  by_cases h8:i.op=8
  ·rw[if_pos h8]
   exact hM.got (ha (by omega) (by omega) (by omega)) _ _
  rw[if_neg h8]
  by_cases h9:i.op=9
  ·rw[if_pos h9]
   exact hP _ _ (by rw[put_len];omega) (by omega) (by omega) (by omega)
  rw[if_neg h9]
  by_cases h10:i.op=10
  ·rw[if_pos h10]
   exact hM.got (ha (by omega) (by omega) (by omega)) _ _
  rw[if_neg h10]
  by_cases h11:i.op=11
  ·rw[if_pos h11]
   exact(hS _ (by simp) (by omega) (by omega) (by omega) _ _).1
  rw[if_neg h11]
  by_cases h12:i.op=12
  ·rw[if_pos h12]
   split
   ·exact hM.trap (ha (by omega) (by omega) (by omega)) _
   ·exact(hS _ (by simp) (by omega) (by omega) (by omega) _ _).1
  rw[if_neg h12]
  by_cases h13:i.op=13
  ·rw[if_pos h13]
   obtain⟨c1,c2,c3,c4⟩:=hfit.call h13
   unfold callM
   split
   ·exact hM.trap (ha (by omega) (by omega) (by omega)) _
   ·rename_i hdp
    unfold enterM
    refine⟨hM.g,?_,fun _=>by simp,by simp only[List.length_cons];omega,by have:=hM.s;simp only;omega,by have:=hM.o;simp only;omega⟩
    simp only
    rw[frs_cons]
    refine⟨⟨by simp only;omega,⟨by simp,?_⟩,by simp;omega⟩,?_⟩
    ·have:=hX.ne i.c.toNat (by omega)
     simp only;omega
    ·rw[hml]
     refine⟨?_,?_⟩
     ·exact hfit.a2 (.inl h13)
     ·rw[frs_cons]
      exact⟨⟨hf.fo,ha (by omega) (by omega) (by omega),hf.vo⟩,ht⟩
  rw[if_neg h13]
  by_cases h14:i.op=14
  ·rw[if_pos h14]
   unfold readM
   split
   ·exact hM.trap (ha (by omega) (by omega) (by omega)) _
   ·rename_i n r hr
    have e:setM { m1 with inp:=r } i.a n={ setM m1 i.a n with inp:=r }:=by unfold setM;rw[hml]
    have h1:=(hM.set i.a n).ok (ha (by omega) (by omega) (by omega))
    rw[e]
    exact⟨h1.g,h1.l,h1.e,h1.d,h1.s,h1.o⟩
  rw[if_neg h14]
  by_cases h15:i.op=15
  ·rw[if_pos h15]
   have h1:=hM.ok (ha (by omega) (by omega) (by omega))
   exact⟨h1.g,h1.l,h1.e,h1.d,h1.s,by have:=hM.o;simp only[List.length_append,List.length_cons,List.length_nil];omega⟩
  rw[if_neg h15]
  by_cases h16:i.op=16
  ·rw[if_pos h16]
   exact hjmp _ (hfit.jmp (by omega))
  rw[if_neg h16]
  by_cases h17:i.op=17
  ·rw[if_pos h17]
   split
   ·exact hjmp _ (hfit.jmp (by omega))
   ·exact hjmp _ (hfit.jmp2 (by omega))
  rw[if_neg h17]
  by_cases h18:i.op=18
  ·rw[if_pos h18]
   unfold leaveM
   rw[hml]
   split
   ·rename_i f' g l' heq
    simp only[List.cons.injEq]at heq
    obtain⟨rfl,rfl⟩:=heq
    have hg:=ht.2
    rw[frs_cons]at hg
    refine⟨hM.g,?_,fun _=>by simp,by simp only[List.length_cons]at hd ⊢;omega,by have:=hM.s;simp only;omega,by have:=hM.o;simp only;omega⟩
    simp only
    split
    ·rw[frs_cons]
     exact⟨⟨hg.1.fo,hg.1.ao,by simp[hg.1.vo]⟩,hg.2⟩
    ·rw[frs_cons];exact hg
   ·exact⟨hM.g,trivial,fun e=>by simp at e,by simp,by have:=hM.s;simp only;omega,by have:=hM.o;simp only;omega⟩
  rw[if_neg h18]
  by_cases h19:i.op=19
  ·rw[if_pos h19]
   exact(hM.set _ _).ok (ha (by omega) (by omega) (by omega))
  rw[if_neg h19]
  by_cases h20:i.op=20
  ·rw[if_pos h20]
   have h1:=hM.ok (ha (by omega) (by omega) (by omega))
   exact⟨by simp[h1.g],h1.l,h1.e,h1.d,h1.s,h1.o⟩
  rw[if_neg h20]
  have:=hfit.op
  omega
theorem m0_ok (hX:XOk X){main:Nat}(hm:main<X.codes.length)(inp:List Int):MsOk X (m0 X main inp):=by
 refine⟨by simp[m0],?_,fun _=>by simp[m0],by simp[m0],by simp[m0],by simp[m0]⟩
 simp only[m0]
 rw[frs_cons]
 refine⟨⟨hm,⟨by simp,?_⟩,by simp⟩,trivial⟩
 have:=hX.ne main hm
 simp only;omega
end Mach
namespace Mach
open Ax Go IrV
variable {X:MP}{m:Ms}
def tick (m:Ms):Ms:={ m with steps:=m.steps+1 }
def runR (X:MP):Nat->Ms->Ms
 |0,m=>m
 |n+1,m=>if m.e=0 then runR X n (stepM X (tick m)) else m
def mark (m:Ms):Ms:=if m.e=0 then { m with e:=3 } else m
theorem run_mark:∀(n:Nat)(m:Ms),runM X n m=mark (runR X n m)
 |0,_=>rfl
 |n+1,m=>by
  unfold runM runR
  by_cases h:m.e=0
  ·rw[if_pos h,if_pos h];exact run_mark n _
  ·rw[if_neg h,if_neg h];unfold mark;rw[if_neg h]
theorem runR_end {m:Ms}(h:m.e≠0):∀n,runR X n m=m
 |0=>rfl
 |n+1=>by unfold runR;rw[if_neg h]
theorem runR_add (k:Nat):∀(n:Nat)(m:Ms),runR X (n+k) m=runR X k (runR X n m)
 |0,m=>by rw[Nat.zero_add];rfl
 |n+1,m=>by
  rw[Nat.add_right_comm]
  by_cases h:m.e=0
  ·show (if m.e=0 then runR X (n+k) (stepM X (tick m)) else m)=runR X k (if m.e=0 then runR X n (stepM X (tick m)) else m)
   rw[if_pos h,if_pos h];exact runR_add k n _
  ·show (if m.e=0 then _ else m)=runR X k (if m.e=0 then _ else m)
   rw[if_neg h,if_neg h,runR_end h]
structure On (m m':Ms):Prop where
 st:m'.steps=m.steps
 out:∃l,m'.out=m.out++l
 e:m.e=0->m'.e=0\/m'.e=1\/m'.e=2
theorem On.rfl' (m:Ms):On m m:=⟨rfl,⟨[],by simp⟩,fun h=>.inl h⟩
theorem set_on (n v:Int):On m (setM m n v):=by unfold setM;split<;>exact⟨rfl,⟨[],by simp⟩,fun h=>.inl h⟩
theorem trap_on (c:Int):On m (trapM m c):=by
 unfold trapM
 split
 ·exact On.rfl' m
 ·exact⟨rfl,⟨[],by simp⟩,fun _=>.inr (.inr rfl)⟩
theorem got_on (n:Int)(x:Int×Int):On m (gotM m n x):=by
 unfold gotM
 split
 ·exact set_on _ _
 ·exact trap_on _
theorem jump_on (n:Int):On m (jumpM m n):=by unfold jumpM;split<;>exact⟨rfl,⟨[],by simp⟩,fun h=>.inl h⟩
theorem On.of {a b c:Ms}(h:On b c)(h1:b.steps=a.steps)(h2:b.out=a.out)(h3:b.e=a.e):On a c:=⟨by rw[h.st,h1],by rw[<-h2];exact h.out,fun e=>h.e (by rw[h3];exact e)⟩
theorem do_on (v:List Int)(i:ID):On m (doI X m v i):=by
 unfold doI
 by_cases h1:i.op=1
 ·rw[if_pos h1];exact set_on _ _
 rw[if_neg h1]
 by_cases h2:i.op=2
 ·rw[if_pos h2];exact set_on _ _
 rw[if_neg h2]
 by_cases h3:i.op=3
 ·rw[if_pos h3];exact set_on _ _
 rw[if_neg h3]
 by_cases h4:i.op=4
 ·rw[if_pos h4];exact got_on _ _
 rw[if_neg h4]
 by_cases h5:i.op=5
 ·rw[if_pos h5];exact set_on _ _
 rw[if_neg h5]
 by_cases h6:i.op=6
 ·rw[if_pos h6];exact got_on _ _
 rw[if_neg h6]
 by_cases h7:i.op=7
 ·rw[if_pos h7];exact(trap_on _).of rfl rfl rfl
 rw[if_neg h7]
 by_cases h8:i.op=8
 ·rw[if_pos h8];exact got_on _ _
 rw[if_neg h8]
 by_cases h9:i.op=9
 ·rw[if_pos h9];exact(trap_on _).of rfl rfl rfl
 rw[if_neg h9]
 by_cases h10:i.op=10
 ·rw[if_pos h10];exact got_on _ _
 rw[if_neg h10]
 by_cases h11:i.op=11
 ·rw[if_pos h11];exact(set_on _ _).of rfl rfl rfl
 rw[if_neg h11]
 by_cases h12:i.op=12
 ·rw[if_pos h12]
  split
  ·exact trap_on _
  ·exact(set_on _ _).of rfl rfl rfl
 rw[if_neg h12]
 by_cases h13:i.op=13
 ·rw[if_pos h13]
  unfold callM
  split
  ·exact trap_on _
  ·unfold enterM;exact⟨rfl,⟨[],by simp⟩,fun h=>.inl h⟩
 rw[if_neg h13]
 by_cases h14:i.op=14
 ·rw[if_pos h14]
  unfold readM
  split
  ·exact trap_on _
  ·exact(set_on _ _).of rfl rfl rfl
 rw[if_neg h14]
 by_cases h15:i.op=15
 ·rw[if_pos h15];exact⟨rfl,⟨_,rfl⟩,fun h=>.inl h⟩
 rw[if_neg h15]
 by_cases h16:i.op=16
 ·rw[if_pos h16];exact jump_on _
 rw[if_neg h16]
 by_cases h17:i.op=17
 ·rw[if_pos h17];exact jump_on _
 rw[if_neg h17]
 by_cases h18:i.op=18
 ·rw[if_pos h18]
  unfold leaveM
  split
  ·exact⟨rfl,⟨[],by simp⟩,fun h=>.inl h⟩
  ·exact⟨rfl,⟨[],by simp⟩,fun _=>.inr (.inl rfl)⟩
 rw[if_neg h18]
 by_cases h19:i.op=19
 ·rw[if_pos h19];exact set_on _ _
 rw[if_neg h19]
 by_cases h20:i.op=20
 ·rw[if_pos h20];exact⟨rfl,⟨[],by simp⟩,fun h=>.inl h⟩
 rw[if_neg h20]
 exact On.rfl' m
theorem step_on:On m (stepM X m):=by
 unfold stepM
 split
 ·exact(do_on _ _).of rfl rfl rfl
 ·exact On.rfl' m
theorem runR_on:∀(n:Nat)(m:Ms),m.e=0->(∃l,(runR X n m).out=m.out++l)/\m.steps<=(runR X n m).steps/\(runR X n m).steps<=m.steps+n/\((runR X n m).e=0\/(runR X n m).e=1\/(runR X n m).e=2)/\((runR X n m).e=0->(runR X n m).steps=m.steps+n)
 |0,m,h=>⟨⟨[],by simp[runR]⟩,Nat.le_refl _,Nat.le_refl _,.inl h,fun _=>rfl⟩
 |n+1,m,h=>by
  have e:runR X (n+1) m=runR X n (stepM X (tick m)):=by
   show (if m.e=0 then _ else _)=_
   rw[if_pos h]
  rw[e]
  have ho:On (tick m) (stepM X (tick m)):=step_on
  have h1:(tick m).steps=m.steps+1:=rfl
  have h2:(tick m).out=m.out:=rfl
  obtain⟨l1,hl1⟩:=ho.out
  rw[h2]at hl1
  have hs:=ho.st
  by_cases hz:(stepM X (tick m)).e=0
  ·obtain⟨⟨l2,a1⟩,a2,a3,a4,a5⟩:=runR_on n _ hz
   refine⟨⟨l1++l2,by rw[a1,hl1];simp⟩,by omega,by omega,a4,fun e=>by have:=a5 e;omega⟩
  ·rw[runR_end hz]
   exact⟨⟨l1,hl1⟩,by omega,by omega,ho.e h,fun e=>absurd e hz⟩
theorem run_more (n k:Nat)(m:Ms)(h:m.e=0)(h0:m.steps=0) :
  ((runM X n m).e=3/\(runM X n m).steps=n/\n<=(runM X (n+k) m).steps/\∃l,(runM X (n+k) m).out=(runM X n m).out++l)\/
  ((runM X n m).e≠3/\runM X (n+k) m=runM X n m/\(runM X n m).steps<=n):=by
 rw[run_mark,run_mark,runR_add]
 obtain⟨_,_,a3,a4,a5⟩:=runR_on (X:=X) n m h
 generalize runR X n m=r at *
 by_cases hz:r.e=0
 ·left
  obtain⟨⟨l,b1⟩,b2,_,b4,_⟩:=runR_on (X:=X) k r hz
  have hm:∀q:Ms,(mark q).out=q.out/\(mark q).steps=q.steps:=fun q=>by unfold mark;split<;>exact⟨rfl,rfl⟩
  refine⟨by unfold mark;rw[if_pos hz],by rw[(hm r).2,a5 hz,h0];omega,by rw[(hm _).2];have:=a5 hz;omega,l,by rw[(hm _).1,(hm _).1,b1]⟩
 ·right
  have hm:mark r=r:=by unfold mark;rw[if_neg hz]
  rw[runR_end hz,hm]
  exact⟨by omega,rfl,by omega⟩
end Mach
