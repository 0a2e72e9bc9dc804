/-
  Lists of texts, types, as those who run see them.
-/
import Derived.Test.YtachcambnjecnaaA6

namespace V7
open Ax Go
def notOwn:AV->Bool
 |.own _ _=>false
 |_=>true
theorem view_notOwn {v:AV}(h:notOwn v=true)(hs:isSl v=true):v.view=v:=by cases v<;>simp_all [notOwn,isSl,AV.view]
@[simp] theorem notOwn_view (v:AV):notOwn v.view=true:=by cases v<;>simp[notOwn,AV.view]
def isRows (sz:Nat)(p:List AV->Bool)(v:AV):Bool:=notOwn v&&isSz sz v&&(rowsL v).all p
theorem isRows_sz {sz:Nat}{p:List AV->Bool}{v:AV}(h:isRows sz p v=true):isSz sz v=true:=by simp only[isRows,Bool.and_eq_true]at h;exact h.1.2
theorem isRows_all {sz:Nat}{p:List AV->Bool}{v:AV}(h:isRows sz p v=true):∀r∈rowsL v,p r=true:=by simp only[isRows,Bool.and_eq_true,List.all_eq_true]at h;exact h.2
theorem isRows_vw {sz:Nat}{p:List AV->Bool}{v:AV}(h:isRows sz p v=true):v.view=v:=by
 have h2:=isSl_sz (isRows_sz h)
 simp only[isRows,Bool.and_eq_true]at h
 exact view_notOwn h.1.1 h2
theorem rows_map {α:Type}{sz:Nat}{p:List AV->Bool}{d:List AV->α}{e:α->List AV}{v:AV}(h:isRows sz p v=true)(he:∀r,p r=true->r=e (d r)):rowsL v=((rowsL v).map d).map e:=by
 rw[List.map_map]
 conv=>lhs;rw[<-List.map_id (rowsL v)]
 exact List.map_congr_left fun r hr=>he r (isRows_all h r hr)
def inR (n:Int):Bool:=decide (-9223372036854775808<=n)&&decide (n<=9223372036854775807)
structure T3 where
 b:Int
 r:Int
 d:Int
 deriving DecidableEq
abbrev T0:T3:=⟨0,0,0⟩
@[simp] def T3.cells (t:T3):List AV:=[.int .i64 t.b,.int .i64 t.r,.int .i64 t.d]
def tyRow (r:List AV):Bool:=match r with | [.int .i64 a,.int .i64 b,.int .i64 c]=>inR a&&inR b&&inR c|_=>false
def dT (r:List AV):T3:=match r with | [.int .i64 a,.int .i64 b,.int .i64 c]=>⟨a,b,c⟩|_=>T0
def isTs (v:AV):Bool:=isRows 3 tyRow v
def dTs (v:AV):List T3:=(rowsL v).map dT
@[simp] theorem dTs_view (v:AV):dTs v.view=dTs v:=by simp[dTs]
@[simp] theorem isSz_T {v:AV} (h:isTs v=true):isSz 3 v=true:=isRows_sz h
@[simp] theorem isSl_T {v:AV} (h:isTs v=true):isSl v=true:=isSl_sz (isSz_T h)
def stRow (r:List AV):Bool:=match r with | [.str _]=>true|_=>false
def dSt (r:List AV):List UInt8:=match r with | [.str s]=>s|_=>[]
def isSts (v:AV):Bool:=isRows 1 stRow v
def dSts (v:AV):List (List UInt8):=(rowsL v).map dSt
theorem stRow_eq (r:List AV)(h:stRow r=true):r=[.str (dSt r)]:=by
 unfold stRow at h
 split at h
 ·rfl
 ·cases h
theorem rowsL_St {v:AV}(h:isSts v=true):rowsL v=(dSts v).map fun s=>[.str s]:=rows_map h stRow_eq
theorem isSts_vw {v:AV}(h:isSts v=true):v.view=v:=isRows_vw h
@[simp] theorem dSts_view (v:AV):dSts v.view=dSts v:=by simp[dSts]
@[simp] theorem isSz_St {v:AV} (h:isSts v=true):isSz 1 v=true:=isRows_sz h
@[simp] theorem isSl_St {v:AV} (h:isSts v=true):isSl v=true:=isSl_sz (isSz_St h)
def nope {α:Type}(p:α->Bool)(l:List α)(k:Nat):Prop:=∀j (h:j<l.length),j<k->p l[j]=false
theorem nope_zero {α:Type}{p:α->Bool}{l:List α}:nope p l 0:=fun _ _ h=>absurd h (by omega)
theorem nope_succ {α:Type}{p:α->Bool}{l:List α}{k:Nat}(h:nope p l k)(h1:k<l.length)(hp:p l[k]=false):nope p l (k+1):=by
 intro j j1 hj
 rcases Nat.lt_or_ge j k with hjk|hjk
 ·exact h j j1 hjk
 ·have:j=k:=by omega
  subst this;exact hp
def idxS (l:List (List UInt8))(s:List UInt8):Int:=match l.findIdx? fun x=>decide (x=s) with
 |some k=>k
 |none=>-1
theorem idxS_at {l:List (List UInt8)}{s:List UInt8}{k:Nat}(h:nope (fun x=>decide (x=s)) l k)(hk:k<l.length)(e:l[k]=s):idxS l s=k:=by
 have:l.findIdx? (fun x=>decide (x=s))=some k:=by
  rw[List.findIdx?_eq_some_iff_getElem]
  refine⟨hk,by simpa using e,fun j hj=>?_⟩
  have:=h j (by omega) hj
  simpa using this
 unfold idxS
 rw[this]
theorem idxS_none {l:List (List UInt8)}{s:List UInt8}(h:nope (fun x=>decide (x=s)) l l.length):idxS l s = -1:=by
 have:l.findIdx? (fun x=>decide (x=s))=none:=by
  rw[List.findIdx?_eq_none_iff]
  intro x hx
  obtain⟨j,hj,rfl⟩:=List.mem_iff_getElem.1 hx
  exact h j hj hj
 unfold idxS
 rw[this]
theorem idxS_ge (l:List (List UInt8))(s:List UInt8):idxS l s = -1\/∃k:Nat,idxS l s=k/\k<l.length:=by
 unfold idxS
 cases e:l.findIdx? fun x=>decide (x=s) with
 |none=>exact .inl rfl
 |some k=>exact .inr ⟨k,rfl,(List.findIdx?_eq_some_iff_getElem.1 e).1⟩
def typeT (l:List (List UInt8))(s:List UInt8)(d:Int):T3×Bool:=
 if d<0\/3<d then (T0,false) else
 if s=[105,110,116] then (⟨1,0,d⟩,true) else
 if s=[98,111,111,108] then (⟨2,0,d⟩,true) else
 if idxS l s<0 then (T0,false) else (⟨3,idxS l s,d⟩,true)
def refT (t:T3):Bool:=decide (t.b=3)||decide (0<t.d)
structure PD where
 name:List UInt8
 on:List UInt8
 od:Int
 at_:Int
def PD.cells (p:PD):List AV:=[.str p.name,.str p.on,.int .i64 p.od,.int .i64 p.at_]
def pdRow (r:List AV):Bool:=match r with | [.str _,.str _,.int .i64 d,.int .i64 a]=>inR d&&inR a|_=>false
def dP (r:List AV):PD:=match r with | [.str n,.str o,.int .i64 d,.int .i64 a]=>⟨n,o,d,a⟩|_=>⟨[],[],0,0⟩
theorem pdRow_eq (r:List AV)(h:pdRow r=true):r=(dP r).cells:=by
 unfold pdRow at h
 split at h
 ·rfl
 ·cases h
def isPs (v:AV):Bool:=isRows 4 pdRow v
def dPs (v:AV):List PD:=(rowsL v).map dP
theorem rowsL_P {v:AV}(h:isPs v=true):rowsL v=(dPs v).map PD.cells:=rows_map h pdRow_eq
theorem isPs_vw {v:AV}(h:isPs v=true):v.view=v:=isRows_vw h
@[simp] theorem dPs_view (v:AV):dPs v.view=dPs v:=by simp[dPs]
@[simp] theorem isSz_P {v:AV} (h:isPs v=true):isSz 4 v=true:=isRows_sz h
@[simp] theorem isSl_P {v:AV} (h:isPs v=true):isSl v=true:=isSl_sz (isSz_P h)
structure CR where
 name:List UInt8
 fields:AV
 at_:Int
def CR.cells (r:CR):List AV:=[.str r.name,r.fields,.int .i64 r.at_]
def crRow (r:List AV):Bool:=match r with | [.str _,f,.int .i64 a]=>isPs f&&inR a|_=>false
def dCR (r:List AV):CR:=match r with | [.str s,f,.int .i64 a]=>⟨s,f,a⟩|_=>⟨[],.nilSl,0⟩
theorem crRow_eq (r:List AV)(h:crRow r=true):r=(dCR r).cells:=by
 unfold crRow at h
 split at h
 ·rfl
 ·cases h
def isCRs (v:AV):Bool:=isRows 3 crRow v
def dCRs (v:AV):List CR:=(rowsL v).map dCR
theorem rowsL_CR {v:AV}(h:isCRs v=true):rowsL v=(dCRs v).map CR.cells:=rows_map h crRow_eq
theorem isCRs_get {v:AV}(h:isCRs v=true):∀r∈dCRs v,isPs r.fields=true:=by
 intro r hr
 obtain⟨x,hx,rfl⟩:=List.mem_map.1 hr
 have:=isRows_all h x hx
 unfold crRow at this
 unfold dCR
 split at this
 ·simp only[Bool.and_eq_true]at this;exact this.1
 ·cases this
theorem isCRs_vw {v:AV}(h:isCRs v=true):v.view=v:=isRows_vw h
@[simp] theorem dCRs_view (v:AV):dCRs v.view=dCRs v:=by simp[dCRs]
@[simp] theorem isSz_CR {v:AV} (h:isCRs v=true):isSz 3 v=true:=isRows_sz h
@[simp] theorem isSl_CR {v:AV} (h:isCRs v=true):isSl v=true:=isSl_sz (isSz_CR h)
structure FN where
 name:List UInt8
 params:AV
 has:Bool
 on:List UInt8
 od:Int
 body:AV
 at_:Int
def FN.cells (f:FN):List AV:=[.str f.name,f.params,.bool f.has,.str f.on,.int .i64 f.od,f.body,.int .i64 f.at_]
def fnRow (r:List AV):Bool:=match r with | [.str _,p,.bool _,.str _,.int .i64 d,b,.int .i64 a]=>isPs p&&notOwn b&&isSl b&&inR d&&inR a|_=>false
def dFN (r:List AV):FN:=match r with | [.str n,p,.bool h,.str o,.int .i64 d,b,.int .i64 a]=>⟨n,p,h,o,d,b,a⟩|_=>⟨[],.nilSl,false,[],0,.nilSl,0⟩
theorem fnRow_eq (r:List AV)(h:fnRow r=true):r=(dFN r).cells:=by
 unfold fnRow at h
 split at h
 ·rfl
 ·cases h
def isFNs (v:AV):Bool:=isRows 7 fnRow v
def dFNs (v:AV):List FN:=(rowsL v).map dFN
theorem rowsL_FN {v:AV}(h:isFNs v=true):rowsL v=(dFNs v).map FN.cells:=rows_map h fnRow_eq
theorem isFNs_get {v:AV}(h:isFNs v=true):∀r∈dFNs v,isPs r.params=true/\notOwn r.body=true/\isSl r.body=true:=by
 intro r hr
 obtain⟨x,hx,rfl⟩:=List.mem_map.1 hr
 have:=isRows_all h x hx
 unfold fnRow at this
 unfold dFN
 split at this
 ·simp only[Bool.and_eq_true]at this;exact⟨this.1.1.1.1,this.1.1.1.2,this.1.1.2⟩
 ·cases this
theorem isFNs_vw {v:AV}(h:isFNs v=true):v.view=v:=isRows_vw h
@[simp] theorem dFNs_view (v:AV):dFNs v.view=dFNs v:=by simp[dFNs]
@[simp] theorem isSz_FN {v:AV} (h:isFNs v=true):isSz 7 v=true:=isRows_sz h
@[simp] theorem isSl_FN {v:AV} (h:isFNs v=true):isSl v=true:=isSl_sz (isSz_FN h)
structure GD where
 recs:AV
 globals:AV
 funcs:AV
def GD.cells (p:GD):List AV:=[p.recs,p.globals,p.funcs]
structure GD.ok (p:GD):Prop where
 recs:isCRs p.recs=true
 globals:isPs p.globals=true
 funcs:isFNs p.funcs=true
def recN (l:List CR):List (List UInt8):=l.map (·.name)
def fldRow (rs:List (List UInt8))(p:PD):List AV:=.str p.name::(typeT rs p.on p.od).1.cells
def fldRows (rs:List (List UInt8))(l:List PD):List (List AV):=l.map (fldRow rs)
def orF (a b:Option Int):Option Int:=match a with|some x=>some x|none=>b
def badP (rs:List (List UInt8))(before:List PD)(p:PD):Option Int:=if before.any (fun q=>decide (q.name=p.name)) || !(typeT rs p.on p.od).2 then some p.at_ else none
def firstB {α:Type}(bad:List α->α->Option Int)(l:List α):Nat->Option Int
 |0=>none
 |k+1=>orF (firstB bad l k) (match l[k]? with|some x=>bad (l.take k) x|none=>none)
end V7
namespace Par
open Ax Go V7
structure Tk where
 k:Int
 t:List UInt8
 n:Int
 a:Int
def Tk.cells (x:Tk):List AV:=[.int .i64 x.k,.str x.t,.int .i64 x.n,.int .i64 x.a]
abbrev Tk0:Tk:=⟨0,[],0,0⟩
structure TL (l:AV)(T:List Tk):Prop where
 sz:isSz 4 l=true
 rows:rowsL l=T.map Tk.cells
 len:T.length<1000000000
theorem TL.sl {l:AV}{T:List Tk}(h:TL l T):isSl l=true:=isSl_sz h.sz
structure RQ where
 at_:Nat
 op:Int
 fe:Int
 fa:Int
def RQ.obj (l:AV)(q:RQ):AObj:=.rows 0 5 [[l,.int .i64 q.at_,.int .i64 q.op,.int .i64 q.fe,.int .i64 q.fa]]
def cur (T:List Tk)(q:RQ):Tk:=T.getD q.at_ Tk0
def failQ (T:List Tk)(q:RQ)(e:Int):RQ:=if q.fe=0 then ⟨q.at_,q.op,e,(cur T q).a⟩ else q
def kindOf (s:List UInt8):Int:=match s with|c::_=>if 97<=c.toNat/\c.toNat<=122 then 3 else 4 | []=>4
def isQ (T:List Tk)(q:RQ)(s:List UInt8):Bool:=decide (q.fe=0)&&decide ((cur T q).k=kindOf s)&&decide ((cur T q).t=s)
def stepQ (q:RQ):RQ:=⟨q.at_+1,q.op,q.fe,q.fa⟩
def takeQ (T:List Tk)(q:RQ)(s:List UInt8):RQ:=if isQ T q s then stepQ q else failQ T q 2
def bumpQ (q:RQ)(d:Int):RQ:=⟨q.at_,IntKind.i64.wrap (q.op+d),q.fe,q.fa⟩
def opensQ (T:List Tk)(q:RQ)(s:List UInt8):RQ:=if isQ T q s&&decide (50<=q.op) then failQ T q 4 else bumpQ (takeQ T q s) 1
def closesQ (T:List Tk)(q:RQ)(s:List UInt8):RQ:=bumpQ (takeQ T q s) (-1)
def nameQ (T:List Tk)(q:RQ):List UInt8×RQ:=if q.fe=0/\(cur T q).k=1 then ((cur T q).t,stepQ q) else ([],failQ T q 2)
def takesQ (T:List Tk)(q:RQ)(s:List UInt8):Nat->RQ
 |0=>q
 |k+1=>takeQ T (takesQ T q s k) s
def ofL (T:List Tk):Nat->Nat->RQ->Nat×RQ
 |0,d,q=>(d,q)
 |k+1,d,q=>if isQ T q [91] then ofL T k (d+1) (stepQ q) else (d,q)
def ofN (T:List Tk)(q:RQ):List UInt8×RQ:=if isQ T q [105,110,116]||isQ T q [98,111,111,108] then ((cur T q).t,stepQ q) else nameQ T q
def ofQ (T:List Tk)(q:RQ):(List UInt8×Int)×RQ:=
 if isQ T (ofL T 3 0 q).2 [91] then (([],0),failQ T (ofL T 3 0 q).2 4)
 else (((ofN T (ofL T 3 0 q).2).1,((ofL T 3 0 q).1:Int)),takesQ T (ofN T (ofL T 3 0 q).2).2 [93] (ofL T 3 0 q).1)
def lstV (sz:Nat)(rows:List (List AV)):AV:=(mkL sz rows).view
inductive E where
 |mk (k n:Int) (nm on:List UInt8) (od:Int) (kids:List E) (a:Int) (ty:T3) (ref:Int)
def E.k:E->Int|.mk k _ _ _ _ _ _ _ _=>k
def E.n:E->Int|.mk _ n _ _ _ _ _ _ _=>n
def E.nm:E->List UInt8|.mk _ _ nm _ _ _ _ _ _=>nm
def E.on:E->List UInt8|.mk _ _ _ on _ _ _ _ _=>on
def E.od:E->Int|.mk _ _ _ _ od _ _ _ _=>od
def E.kids:E->List E|.mk _ _ _ _ _ kids _ _ _=>kids
def E.a:E->Int|.mk _ _ _ _ _ _ a _ _=>a
def E.ty:E->T3|.mk _ _ _ _ _ _ _ ty _=>ty
def E.ref:E->Int|.mk _ _ _ _ _ _ _ _ ref=>ref
mutual
def E.row:E->List AV
 |.mk k n nm on od kids a ty ref=>[.int .i64 k,.int .i64 n,.str nm,.str on,.int .i64 od,lstV 11 (E.rows kids),.int .i64 a,.int .i64 ty.b,.int .i64 ty.r,.int .i64 ty.d,.int .i64 ref]
def E.rows:List E->List (List AV)
 |[]=>[]
 |e::l=>e.row::E.rows l
end
def Em (k n:Int)(nm on:List UInt8)(od:Int)(kids:List E)(a:Int):E:=.mk k n nm on od kids a T0 0
def esV (l:List E):AV:=lstV 11 (E.rows l)
inductive Sm where
 |mk (k:Int) (nm on:List UInt8) (od:Int) (es:List E) (bd el:List Sm) (a ref:Int)
def Sm.k:Sm->Int|.mk k _ _ _ _ _ _ _ _=>k
def Sm.nm:Sm->List UInt8|.mk _ nm _ _ _ _ _ _ _=>nm
def Sm.on:Sm->List UInt8|.mk _ _ on _ _ _ _ _ _=>on
def Sm.od:Sm->Int|.mk _ _ _ od _ _ _ _ _=>od
def Sm.es:Sm->List E|.mk _ _ _ _ es _ _ _ _=>es
def Sm.bd:Sm->List Sm|.mk _ _ _ _ _ bd _ _ _=>bd
def Sm.el:Sm->List Sm|.mk _ _ _ _ _ _ el _ _=>el
def Sm.a:Sm->Int|.mk _ _ _ _ _ _ _ a _=>a
def Sm.ref:Sm->Int|.mk _ _ _ _ _ _ _ _ ref=>ref
mutual
def Sm.row:Sm->List AV
 |.mk k nm on od es bd el a ref=>[.int .i64 k,.str nm,.str on,.int .i64 od,esV es,lstV 9 (Sm.rows bd),lstV 9 (Sm.rows el),.int .i64 a,.int .i64 ref]
def Sm.rows:List Sm->List (List AV)
 |[]=>[]
 |s::l=>s.row::Sm.rows l
end
def ssV (l:List Sm):AV:=lstV 9 (Sm.rows l)
structure Rc where
 name:List UInt8
 fields:List PD
 a:Int
def Rc.row (r:Rc):List AV:=[.str r.name,lstV 4 (r.fields.map PD.cells),.int .i64 r.a]
structure Fc where
 name:List UInt8
 params:List PD
 has:Bool
 on:List UInt8
 od:Int
 body:List Sm
 a:Int
def Fc.row (f:Fc):List AV:=[.str f.name,lstV 4 (f.params.map PD.cells),.bool f.has,.str f.on,.int .i64 f.od,ssV f.body,.int .i64 f.a]
structure Pg where
 recs:List Rc
 globals:List PD
 funcs:List Fc
def Pg.row (p:Pg):List AV:=[lstV 3 (p.recs.map Rc.row),lstV 4 (p.globals.map PD.cells),lstV 7 (p.funcs.map Fc.row)]
@[simp] theorem isSl_lstV {sz:Nat} {r:List (List AV)}:isSl (lstV sz r)=true:=by simp[lstV]
@[simp] theorem rowsL_lstV {sz:Nat} {r:List (List AV)}:rowsL (lstV sz r)=r:=by simp[lstV]
@[simp] theorem view_lstV {sz:Nat} {r:List (List AV)}:(lstV sz r).view=lstV sz r:=by
 unfold lstV mkL;split<;>simp[AV.view]
@[simp] theorem cell_lstV {sz:Nat} {r:List (List AV)}:(lstV sz r).isCell=true:=isCell_sl isSl_lstV
@[simp] theorem pure_lstV {sz:Nat} {r:List (List AV)}:(lstV sz r).isPure=true:=pure_sl isSl_lstV
@[simp] theorem isSl_esV {l:List E}:isSl (esV l)=true:=isSl_lstV
@[simp] theorem view_esV {l:List E}:(esV l).view=esV l:=view_lstV
@[simp] theorem cell_esV {l:List E}:(esV l).isCell=true:=cell_lstV
@[simp] theorem pure_esV {l:List E}:(esV l).isPure=true:=pure_lstV
@[simp] theorem isSl_ssV {l:List Sm}:isSl (ssV l)=true:=isSl_lstV
@[simp] theorem view_ssV {l:List Sm}:(ssV l).view=ssV l:=view_lstV
@[simp] theorem cell_ssV {l:List Sm}:(ssV l).isCell=true:=cell_lstV
@[simp] theorem pure_ssV {l:List Sm}:(ssV l).isPure=true:=pure_lstV
@[simp] theorem lstV_nil {sz:Nat}:lstV sz []=.nilSl:=rfl
@[simp] theorem lstV_cons {sz:Nat} {r:List AV} {l:List (List AV)}:lstV sz (r::l)=.lst sz (r::l):=rfl
theorem Erows_map:∀l:List E,E.rows l=l.map E.row
 |[]=>by simp[E.rows]
 |e::l=>by simp[E.rows,Erows_map l]
theorem Smrows_map:∀l:List Sm,Sm.rows l=l.map Sm.row
 |[]=>by simp[Sm.rows]
 |e::l=>by simp[Sm.rows,Smrows_map l]
theorem esV_nil:esV []=.nilSl:=by simp[esV,E.rows,lstV,mkL_nil,AV.view]
theorem E.row_eq (e:E):e.row=[.int .i64 e.k,.int .i64 e.n,.str e.nm,.str e.on,.int .i64 e.od,esV e.kids,.int .i64 e.a,.int .i64 e.ty.b,.int .i64 e.ty.r,.int .i64 e.ty.d,.int .i64 e.ref]:=by
 cases e;simp[E.row,E.k,E.n,E.nm,E.on,E.od,E.kids,E.a,E.ty,E.ref,esV]
theorem Sm.row_eq (s:Sm):s.row=[.int .i64 s.k,.str s.nm,.str s.on,.int .i64 s.od,esV s.es,ssV s.bd,ssV s.el,.int .i64 s.a,.int .i64 s.ref]:=by
 cases s;simp[Sm.row,Sm.k,Sm.nm,Sm.on,Sm.od,Sm.es,Sm.bd,Sm.el,Sm.a,Sm.ref,ssV]
def signsT:Nat->List (List UInt8×Int)
 |0=>[([124,124],24)]
 |1=>[([38,38],23)]
 |2=>[([60],19),([60,61],20),([61,61],21),([33,61],22)]
 |3=>[([43],14),([45],15)]
 |_=>[([42],16),([47],17),([37],18)]
def findT:List (List UInt8×Int)->List UInt8->Int
 |[],_=>0
 |(s,k)::r,t=>if s=t then k else findT r t
def levelT (n:Nat)(c:Tk):Int:=if c.k=4 then findT (signsT n) c.t else 0
mutual
def pExpr (T:List Tk):Nat->Nat->RQ->Option (E×RQ)
 |0,_,_=>none
 |f+1,n,q=>if n=5 then pUnary T f q else (pExpr T f (n+1) q).bind fun x=>pSigns T f n x.1 x.2
def pSigns (T:List Tk):Nat->Nat->E->RQ->Option (E×RQ)
 |0,_,_,_=>none
 |f+1,n,a,q=>if q.fe=0/\levelT n (cur T q)≠0 then
   (pExpr T f (n+1) (stepQ q)).bind fun x=>pSigns T f n (Em (levelT n (cur T q)) 0 [] [] 0 [a,x.1] (cur T q).a) x.2
  else some (a,q)
def pUnary (T:List Tk):Nat->RQ->Option (E×RQ)
 |0,_=>none
 |f+1,q=>if isQ T q [45]||isQ T q [33] then
   (pExpr T f 5 (opensQ T q (cur T q).t)).bind fun x=>some (Em (if isQ T q [45] then 12 else 13) 0 [] [] 0 [x.1] (cur T q).a,bumpQ x.2 (-1))
  else (pFirst T f q).bind fun x=>pBehind T f x.1 x.2
def pBehind (T:List Tk):Nat->E->RQ->Option (E×RQ)
 |0,_,_=>none
 |f+1,a,q=>if isQ T q [46] then pBehind T f (Em 5 0 (nameQ T (stepQ q)).1 [] 0 [a] (cur T q).a) (nameQ T (stepQ q)).2
  else if isQ T q [91] then (pExpr T f 0 (opensQ T q [91])).bind fun x=>pBehind T f (Em 6 0 [] [] 0 [a,x.1] (cur T q).a) (closesQ T x.2 [93])
  else some (a,q)
def pInner (T:List Tk):Nat->RQ->Option (E×RQ)
 |0,_=>none
 |f+1,q=>(pExpr T f 0 (opensQ T q [40])).bind fun x=>some (x.1,closesQ T x.2 [41])
def pFirst (T:List Tk):Nat->RQ->Option (E×RQ)
 |0,_=>none
 |f+1,q=>
  if q.fe=0/\(cur T q).k=2 then some (Em 1 (cur T q).n [] [] 0 [] (cur T q).a,stepQ q)
  else if isQ T q [116,114,117,101]||isQ T q [102,97,108,115,101] then some (Em 2 (if (cur T q).t=[116,114,117,101] then 1 else 0) [] [] 0 [] (cur T q).a,stepQ q)
  else if isQ T q [110,117,108,108] then some (Em 3 0 [] (ofQ T (stepQ q)).1.1 (ofQ T (stepQ q)).1.2 [] (cur T q).a,(ofQ T (stepQ q)).2)
  else if isQ T q [110,101,119] then pFresh T f (cur T q).a (stepQ q)
  else if isQ T q [108,101,110] then (pInner T f (stepQ q)).bind fun x=>some (Em 10 0 [] [] 0 [x.1] (cur T q).a,x.2)
  else if isQ T q [114,101,97,100] then some (Em 11 0 [] [] 0 [] (cur T q).a,closesQ T (opensQ T (stepQ q) [40]) [41])
  else if isQ T q [40] then pInner T f q
  else if isQ T (nameQ T q).2 [40] then (pArgs T f (nameQ T q).2).bind fun x=>some (Em 7 0 (nameQ T q).1 [] 0 x.1 (cur T q).a,x.2)
  else some (Em 4 0 (nameQ T q).1 [] 0 [] (cur T q).a,(nameQ T q).2)
def pFresh (T:List Tk):Nat->Int->RQ->Option (E×RQ)
 |0,_,_=>none
 |f+1,a,q=>if isQ T q [91] then
   (pInner T f (takeQ T (ofQ T (stepQ q)).2 [93])).bind fun x=>some (Em 9 0 [] (ofQ T (stepQ q)).1.1 (ofQ T (stepQ q)).1.2 [x.1] a,x.2)
  else some (Em 8 0 [] (nameQ T q).1 0 [] a,(nameQ T q).2)
def pArgs (T:List Tk):Nat->RQ->Option (List E×RQ)
 |0,_=>none
 |f+1,q=>if isQ T (opensQ T q [40]) [41] then some ([],closesQ T (opensQ T q [40]) [41])
  else (pExpr T f 0 (opensQ T q [40])).bind fun x=>pMore T f [x.1] x.2
def pMore (T:List Tk):Nat->List E->RQ->Option (List E×RQ)
 |0,_,_=>none
 |f+1,l,q=>if isQ T q [44] then (pExpr T f 0 (stepQ q)).bind fun x=>pMore T f (l++[x.1]) x.2
  else some (l,closesQ T q [41])
end
def pPlain (T:List Tk)(f:Nat)(a:Int)(q:RQ):Option (Sm×RQ):=
 (pExpr T f 0 q).bind fun x=>if isQ T x.2 [61] then
   (pExpr T f 0 (takeQ T (if x.1.k=4\/x.1.k=5\/x.1.k=6 then x.2 else failQ T x.2 2) [61])).bind fun y=>
    some (if x.1.k=4 then .mk 3 x.1.nm [] 0 [y.1] [] [] a 0 else .mk 4 [] [] 0 [x.1,y.1] [] [] a 0,takeQ T y.2 [59])
  else some (.mk 9 [] [] 0 [x.1] [] [] a 0,takeQ T (if isQ T x.2 [59]=true/\x.1.k≠7 then failQ T x.2 2 else x.2) [59])
def paramQ (T:List Tk)(q:RQ):PD×RQ:=
 (⟨(nameQ T q).1,(ofQ T (takeQ T (nameQ T q).2 [58])).1.1,(ofQ T (takeQ T (nameQ T q).2 [58])).1.2,(cur T q).a⟩,(ofQ T (takeQ T (nameQ T q).2 [58])).2)
mutual
def pStmt (T:List Tk):Nat->RQ->Option (Sm×RQ)
 |0,_=>none
 |f+1,q=>
  if isQ T q [118,97,114] then
   some (.mk 1 (paramQ T (stepQ q)).1.name (paramQ T (stepQ q)).1.on (paramQ T (stepQ q)).1.od [] [] [] (cur T q).a 0,takeQ T (paramQ T (stepQ q)).2 [59])
  else if isQ T q [108,101,116] then (pExpr T f 0 (takeQ T (paramQ T (stepQ q)).2 [61])).bind fun x=>
   some (.mk 2 (paramQ T (stepQ q)).1.name (paramQ T (stepQ q)).1.on (paramQ T (stepQ q)).1.od [x.1] [] [] (cur T q).a 0,takeQ T x.2 [59])
  else if isQ T q [105,102] then (pExpr T f 0 (stepQ q)).bind fun x=>(pBlock T f x.2).bind fun y=>
   if isQ T y.2 [101,108,115,101] then (pBlock T f (stepQ y.2)).bind fun z=>some (.mk 5 [] [] 0 [x.1] y.1 z.1 (cur T q).a 0,z.2)
   else some (.mk 5 [] [] 0 [x.1] y.1 [] (cur T q).a 0,y.2)
  else if isQ T q [119,104,105,108,101] then (pExpr T f 0 (stepQ q)).bind fun x=>(pBlock T f x.2).bind fun y=>
   some (.mk 6 [] [] 0 [x.1] y.1 [] (cur T q).a 0,y.2)
  else if isQ T q [114,101,116,117,114,110] then
   if isQ T (stepQ q) [59] then some (.mk 7 [] [] 0 [] [] [] (cur T q).a 0,takeQ T (stepQ q) [59])
   else (pExpr T f 0 (stepQ q)).bind fun x=>some (.mk 7 [] [] 0 [x.1] [] [] (cur T q).a 0,takeQ T x.2 [59])
  else if isQ T q [112,114,105,110,116] then (pExpr T f 0 (stepQ q)).bind fun x=>some (.mk 8 [] [] 0 [x.1] [] [] (cur T q).a 0,takeQ T x.2 [59])
  else pPlain T f (cur T q).a q
def pBlock (T:List Tk):Nat->RQ->Option (List Sm×RQ)
 |0,_=>none
 |f+1,q=>pStmts T f [] (opensQ T q [123])
def pStmts (T:List Tk):Nat->List Sm->RQ->Option (List Sm×RQ)
 |0,_,_=>none
 |f+1,l,q=>if q.fe=0/\isQ T q [125]=false then (pStmt T f q).bind fun x=>pStmts T f (l++[x.1]) x.2
  else some (l,closesQ T q [125])
end
end Par
namespace Par
open Ax Go V7
structure Good (T:List Tk)(q r:RQ):Prop where
 le:q.at_<=r.at_
 ub:q.at_<=T.length->r.at_<=T.length
 bad:q.fe≠0->r.fe=q.fe/\r.at_=q.at_
theorem Good.refl (T:List Tk)(q:RQ):Good T q q:=⟨Nat.le_refl _,id,fun _=>⟨rfl,rfl⟩⟩
theorem Good.trans {T:List Tk}{q r s:RQ}(h:Good T q r)(k:Good T r s):Good T q s:=
 ⟨Nat.le_trans h.le k.le,fun u=>k.ub (h.ub u),fun b=>by
  obtain⟨a1,a2⟩:=h.bad b
  obtain⟨b1,b2⟩:=k.bad (by rw[a1];exact b)
  exact⟨b1.trans a1,b2.trans a2⟩⟩
theorem cur_in {T:List Tk}{q:RQ}(h:(cur T q).k≠0):q.at_<T.length:=by
 apply Classical.byContradiction
 intro hn
 rw[cur,List.getD,List.getElem?_eq_none (by omega)]at h
 exact h rfl
theorem kindOf_ne (s:List UInt8):kindOf s≠0:=by
 unfold kindOf
 split
 ·split<;>decide
 ·decide
theorem isQ_in {T:List Tk}{q:RQ}{s:List UInt8}(h:isQ T q s=true):q.fe=0/\q.at_<T.length:=by
 simp only[isQ,Bool.and_eq_true,decide_eq_true_eq]at h
 exact⟨h.1.1,cur_in (by rw[h.1.2];exact kindOf_ne s)⟩
theorem isQ_t {T:List Tk}{q:RQ}{s:List UInt8}(h:isQ T q s=true):(cur T q).t=s:=by
 simp only[isQ,Bool.and_eq_true,decide_eq_true_eq]at h
 exact h.2
theorem isQ_bad {T:List Tk}{q:RQ}{s:List UInt8}(h:q.fe≠0):isQ T q s=false:=by simp[isQ,h]
theorem level_in {T:List Tk}{q:RQ}{n:Nat}(h:levelT n (cur T q)≠0):q.at_<T.length:=cur_in (by
 unfold levelT at h
 split at h
 ·rename_i e;rw[e];decide
 ·exact absurd rfl h)
theorem good_step {T:List Tk}{q:RQ}(h:q.fe=0)(h2:q.at_<T.length):Good T q (stepQ q):=⟨Nat.le_succ _,fun _=>h2,fun b=>absurd h b⟩
theorem good_fail {T:List Tk}{q:RQ}{e:Int}:Good T q (failQ T q e):=by
 unfold failQ
 split
 ·rename_i h;exact⟨Nat.le_refl _,id,fun b=>absurd h b⟩
 ·exact Good.refl T q
theorem good_bump {T:List Tk}{q:RQ}{d:Int}:Good T q (bumpQ q d):=⟨Nat.le_refl _,id,fun _=>⟨rfl,rfl⟩⟩
theorem good_take {T:List Tk}{q:RQ}{s:List UInt8}:Good T q (takeQ T q s):=by
 unfold takeQ
 split
 ·rename_i h;exact good_step (isQ_in h).1 (isQ_in h).2
 ·exact good_fail
theorem good_opens {T:List Tk}{q:RQ}{s:List UInt8}:Good T q (opensQ T q s):=by
 unfold opensQ
 split
 ·exact good_fail
 ·exact good_take.trans good_bump
theorem good_closes {T:List Tk}{q:RQ}{s:List UInt8}:Good T q (closesQ T q s):=good_take.trans good_bump
theorem good_name {T:List Tk}{q:RQ}:Good T q (nameQ T q).2:=by
 unfold nameQ
 split
 ·rename_i h;exact good_step h.1 (cur_in (by rw[h.2];decide))
 ·exact good_fail
theorem good_takes {T:List Tk}{q:RQ}{s:List UInt8}:∀k,Good T q (takesQ T q s k)
 |0=>Good.refl T q
 |k+1=>(good_takes k).trans good_take
theorem good_ofL {T:List Tk}:∀(k d:Nat)(q:RQ),Good T q (ofL T k d q).2/\(ofL T k d q).1<=d+k/\d<=(ofL T k d q).1
 |0,d,q=>⟨Good.refl T q,Nat.le_refl _,Nat.le_refl _⟩
 |k+1,d,q=>by
  unfold ofL
  split
  ·rename_i h
   obtain⟨h1,h2,h3⟩:=good_ofL (T:=T) k (d+1) (stepQ q)
   exact⟨(good_step (isQ_in h).1 (isQ_in h).2).trans h1,by omega,by omega⟩
  ·exact⟨Good.refl T q,by simp,Nat.le_refl _⟩
theorem good_ofN {T:List Tk}{q:RQ}:Good T q (ofN T q).2:=by
 unfold ofN
 split
 ·rename_i h
  rw[Bool.or_eq_true]at h
  rcases h with h|h<;>exact good_step (isQ_in h).1 (isQ_in h).2
 ·exact good_name
theorem good_of {T:List Tk}{q:RQ}:Good T q (ofQ T q).2:=by
 unfold ofQ
 have h:=(good_ofL (T:=T) 3 0 q).1
 split
 ·exact h.trans good_fail
 ·exact(h.trans good_ofN).trans (good_takes _)
theorem good_param {T:List Tk}{q:RQ}:Good T q (paramQ T q).2:=(good_name.trans good_take).trans good_of
def mu (T:List Tk)(q:RQ):Nat:=if q.fe=0 then T.length-q.at_+1 else 0
def Went (T:List Tk)(q r:RQ):Prop:=r.fe≠0\/q.at_<T.length/\q.at_<r.at_
theorem fail_bad {T:List Tk}{q:RQ}{e:Int}(he:e≠0):(failQ T q e).fe≠0:=by
 unfold failQ
 split
 ·exact he
 ·assumption
theorem went_step {T:List Tk}{q:RQ}(h:q.at_<T.length):Went T q (stepQ q):=.inr ⟨h,Nat.lt_succ_self _⟩
theorem went_take {T:List Tk}{q:RQ}{s:List UInt8}:Went T q (takeQ T q s):=by
 unfold takeQ
 split
 ·rename_i h;exact went_step (isQ_in h).2
 ·exact .inl (fail_bad (by decide))
theorem went_opens {T:List Tk}{q:RQ}{s:List UInt8}:Went T q (opensQ T q s):=by
 unfold opensQ
 split
 ·exact .inl (fail_bad (by decide))
 ·exact went_take
theorem Went.trans {T:List Tk}{q r s:RQ}(w:Went T q r)(h:Good T r s):Went T q s:=by
 rcases w with w|⟨w,v⟩
 ·exact .inl (by rw[(h.bad w).1];exact w)
 ·exact .inr ⟨w,Nat.lt_of_lt_of_le v h.le⟩
theorem Good.went {T:List Tk}{q r s:RQ}(h:Good T q r)(w:Went T r s):Went T q s:=by
 rcases w with w|⟨w,v⟩
 ·exact .inl w
 ·exact .inr ⟨Nat.lt_of_le_of_lt h.le w,Nat.lt_of_le_of_lt h.le v⟩
theorem good_all (T:List Tk):∀f:Nat,(∀n q e r,pExpr T f n q=some (e,r)->Good T q r)/\(∀n a q e r,pSigns T f n a q=some (e,r)->Good T q r)/\
  (∀q e r,pUnary T f q=some (e,r)->Good T q r)/\(∀a q e r,pBehind T f a q=some (e,r)->Good T q r)/\(∀q e r,pInner T f q=some (e,r)->Good T q r)/\
  (∀q e r,pFirst T f q=some (e,r)->Good T q r)/\(∀a q e r,pFresh T f a q=some (e,r)->Good T q r)/\(∀q e r,pArgs T f q=some (e,r)->Good T q r)/\
  (∀l q e r,pMore T f l q=some (e,r)->Good T q r)
 |0=>by simp[pExpr,pSigns,pUnary,pBehind,pInner,pFirst,pFresh,pArgs,pMore]
 |f+1=>by
  obtain⟨hE,hS,hU,hB,hI,hF,hN,hA,hM⟩:=good_all T f
  refine⟨fun n q e r h=>?_,fun n a q e r h=>?_,fun q e r h=>?_,fun a q e r h=>?_,fun q e r h=>?_,fun q e r h=>?_,fun a q e r h=>?_,fun q e r h=>?_,fun l q e r h=>?_⟩
  ·unfold pExpr at h
   split at h
   ·exact hU _ _ _ h
   ·obtain⟨⟨x1,x2⟩,h1,h2⟩:=Option.bind_eq_some_iff.1 h
    exact(hE _ _ _ _ h1).trans (hS _ _ _ _ _ h2)
  ·unfold pSigns at h
   split at h
   ·rename_i c
    obtain⟨⟨x1,x2⟩,h1,h2⟩:=Option.bind_eq_some_iff.1 h
    exact((good_step c.1 (level_in c.2)).trans (hE _ _ _ _ h1)).trans (hS _ _ _ _ _ h2)
   ·cases h;exact Good.refl _ _
  ·unfold pUnary at h
   split at h
   ·obtain⟨⟨x1,x2⟩,h1,h2⟩:=Option.bind_eq_some_iff.1 h
    cases h2
    exact(good_opens.trans (hE _ _ _ _ h1)).trans good_bump
   ·obtain⟨⟨x1,x2⟩,h1,h2⟩:=Option.bind_eq_some_iff.1 h
    exact(hF _ _ _ h1).trans (hB _ _ _ _ h2)
  ·unfold pBehind at h
   split at h
   ·rename_i c
    exact((good_step (isQ_in c).1 (isQ_in c).2).trans good_name).trans (hB _ _ _ _ h)
   ·split at h
    ·obtain⟨⟨x1,x2⟩,h1,h2⟩:=Option.bind_eq_some_iff.1 h
     exact((good_opens.trans (hE _ _ _ _ h1)).trans good_closes).trans (hB _ _ _ _ h2)
    ·cases h;exact Good.refl _ _
  ·unfold pInner at h
   obtain⟨⟨x1,x2⟩,h1,h2⟩:=Option.bind_eq_some_iff.1 h
   cases h2
   exact(good_opens.trans (hE _ _ _ _ h1)).trans good_closes
  ·unfold pFirst at h
   split at h
   ·rename_i c;cases h;exact good_step c.1 (cur_in (by rw[c.2];decide))
   split at h
   ·rename_i c;cases h
    rw[Bool.or_eq_true]at c
    rcases c with c|c<;>exact good_step (isQ_in c).1 (isQ_in c).2
   split at h
   ·rename_i c;cases h;exact(good_step (isQ_in c).1 (isQ_in c).2).trans good_of
   split at h
   ·rename_i c;exact(good_step (isQ_in c).1 (isQ_in c).2).trans (hN _ _ _ _ h)
   split at h
   ·rename_i c
    obtain⟨⟨x1,x2⟩,h1,h2⟩:=Option.bind_eq_some_iff.1 h
    cases h2
    exact(good_step (isQ_in c).1 (isQ_in c).2).trans (hI _ _ _ h1)
   split at h
   ·rename_i c;cases h;exact((good_step (isQ_in c).1 (isQ_in c).2).trans good_opens).trans good_closes
   split at h
   ·exact hI _ _ _ h
   split at h
   ·obtain⟨⟨x1,x2⟩,h1,h2⟩:=Option.bind_eq_some_iff.1 h
    cases h2
    exact good_name.trans (hA _ _ _ h1)
   ·cases h;exact good_name
  ·unfold pFresh at h
   split at h
   ·rename_i c
    obtain⟨⟨x1,x2⟩,h1,h2⟩:=Option.bind_eq_some_iff.1 h
    cases h2
    exact(((good_step (isQ_in c).1 (isQ_in c).2).trans good_of).trans good_take).trans (hI _ _ _ h1)
   ·cases h;exact good_name
  ·unfold pArgs at h
   split at h
   ·cases h;exact good_opens.trans good_closes
   ·obtain⟨⟨x1,x2⟩,h1,h2⟩:=Option.bind_eq_some_iff.1 h
    exact(good_opens.trans (hE _ _ _ _ h1)).trans (hM _ _ _ _ h2)
  ·unfold pMore at h
   split at h
   ·rename_i c
    obtain⟨⟨x1,x2⟩,h1,h2⟩:=Option.bind_eq_some_iff.1 h
    exact((good_step (isQ_in c).1 (isQ_in c).2).trans (hE _ _ _ _ h1)).trans (hM _ _ _ _ h2)
   ·cases h;exact good_closes
theorem good_expr {T:List Tk}{f n:Nat}{q r:RQ}{e:E}(h:pExpr T f n q=some (e,r)):Good T q r:=(good_all T f).1 _ _ _ _ h
theorem bind_some {α β:Type}{x:Option α}{g:α->Option β}(h1:∃a,x=some a)(h2:∀a,x=some a->∃b,g a=some b):∃b,x.bind g=some b:=by
 obtain⟨a,ha⟩:=h1
 obtain⟨b,hb⟩:=h2 a ha
 exact⟨b,by rw[ha];exact hb⟩
theorem good_plain {T:List Tk}{f:Nat}{a:Int}{q r:RQ}{s:Sm}(h:pPlain T f a q=some (s,r)):Good T q r/\Went T q r:=by
 unfold pPlain at h
 obtain⟨⟨x1,x2⟩,h1,h2⟩:=Option.bind_eq_some_iff.1 h
 have g1:=good_expr h1
 dsimp only at h2
 split at h2
 ·obtain⟨⟨y1,y2⟩,h3,h4⟩:=Option.bind_eq_some_iff.1 h2
  cases h4
  have g2:Good T x2 (takeQ T (if x1.k=4\/x1.k=5\/x1.k=6 then x2 else failQ T x2 2) [61]):=by
   refine Good.trans ?_ good_take
   split
   ·exact Good.refl _ _
   ·exact good_fail
  have g3:=(g1.trans g2).trans (good_expr h3)
  exact⟨g3.trans good_take,g3.went went_take⟩
 ·cases h2
  have g2:Good T x2 (if isQ T x2 [59]=true/\x1.k≠7 then failQ T x2 2 else x2):=by
   split
   ·exact good_fail
   ·exact Good.refl _ _
  exact⟨(g1.trans g2).trans good_take,(g1.trans g2).went went_take⟩
theorem good_stall (T:List Tk):∀f:Nat,(∀q s r,pStmt T f q=some (s,r)->Good T q r/\Went T q r)/\(∀q s r,pBlock T f q=some (s,r)->Good T q r/\Went T q r)/\
  (∀l q s r,pStmts T f l q=some (s,r)->Good T q r)
 |0=>by simp[pStmt,pBlock,pStmts]
 |f+1=>by
  obtain⟨hS,hB,hL⟩:=good_stall T f
  refine⟨fun q s r h=>?_,fun q s r h=>?_,fun l q s r h=>?_⟩
  ·unfold pStmt at h
   split at h
   ·rename_i c;cases h
    have g:=(good_step (isQ_in c).1 (isQ_in c).2).trans good_param
    exact⟨g.trans good_take,g.went went_take⟩
   split at h
   ·rename_i c
    obtain⟨⟨x1,x2⟩,h1,h2⟩:=Option.bind_eq_some_iff.1 h
    cases h2
    have g:=(((good_step (isQ_in c).1 (isQ_in c).2).trans good_param).trans good_take).trans (good_expr h1)
    exact⟨g.trans good_take,g.went went_take⟩
   split at h
   ·rename_i c
    obtain⟨⟨x1,x2⟩,h1,h2⟩:=Option.bind_eq_some_iff.1 h
    obtain⟨⟨y1,y2⟩,h3,h4⟩:=Option.bind_eq_some_iff.1 h2
    have g1:=(good_step (isQ_in c).1 (isQ_in c).2).trans (good_expr h1)
    have g:=g1.trans (hB _ _ _ h3).1
    have w:=g1.went (hB _ _ _ h3).2
    dsimp only at h4
    split at h4
    ·rename_i d
     obtain⟨⟨z1,z2⟩,h5,h6⟩:=Option.bind_eq_some_iff.1 h4
     cases h6
     have g2:=(good_step (isQ_in d).1 (isQ_in d).2).trans (hB _ _ _ h5).1
     exact⟨g.trans g2,w.trans g2⟩
    ·cases h4;exact⟨g,w⟩
   split at h
   ·rename_i c
    obtain⟨⟨x1,x2⟩,h1,h2⟩:=Option.bind_eq_some_iff.1 h
    obtain⟨⟨y1,y2⟩,h3,h4⟩:=Option.bind_eq_some_iff.1 h2
    cases h4
    have g1:=(good_step (isQ_in c).1 (isQ_in c).2).trans (good_expr h1)
    exact⟨g1.trans (hB _ _ _ h3).1,g1.went (hB _ _ _ h3).2⟩
   split at h
   ·rename_i c
    have g1:=good_step (isQ_in c).1 (isQ_in c).2
    split at h
    ·cases h;exact⟨g1.trans good_take,g1.went went_take⟩
    ·obtain⟨⟨x1,x2⟩,h1,h2⟩:=Option.bind_eq_some_iff.1 h
     cases h2
     have g:=g1.trans (good_expr h1)
     exact⟨g.trans good_take,g.went went_take⟩
   split at h
   ·rename_i c
    obtain⟨⟨x1,x2⟩,h1,h2⟩:=Option.bind_eq_some_iff.1 h
    cases h2
    have g:=(good_step (isQ_in c).1 (isQ_in c).2).trans (good_expr h1)
    exact⟨g.trans good_take,g.went went_take⟩
   ·exact good_plain h
  ·unfold pBlock at h
   have g:=hL _ _ _ _ h
   exact⟨good_opens.trans g,went_opens.trans g⟩
  ·unfold pStmts at h
   split at h
   ·obtain⟨⟨x1,x2⟩,h1,h2⟩:=Option.bind_eq_some_iff.1 h
    exact(hS _ _ _ h1).1.trans (hL _ _ _ _ h2)
   ·cases h;exact good_closes
end Par
namespace Par
open Ax Go V7
def PDin (N:Int)(p:PD):Prop:=0<=p.od/\p.od<=3/\0<=p.at_/\p.at_<=N
structure Rc.In (N:Int)(r:Rc):Prop where
 a:0<=r.a/\r.a<=N
 len:r.fields.length<=9
 f:∀p∈r.fields,PDin N p
structure Fc.In (N:Int)(r:Fc):Prop where
 a:0<=r.a/\r.a<=N
 len:r.params.length<=7
 f:∀p∈r.params,PDin N p
 od:0<=r.od/\r.od<=3
structure Pg.In (N:Int)(p:Pg):Prop where
 r:p.recs.length<=12/\∀x∈p.recs,Rc.In N x
 g:p.globals.length<=8/\∀x∈p.globals,PDin N x
 f:p.funcs.length<=16/\∀x∈p.funcs,Fc.In N x
def Pg.few (p:Pg):Prop:=(∀x∈p.recs,x.fields.length<=8)/\∀x∈p.funcs,x.params.length<=6
end Par
namespace Chk
open Ax Go V7 Par
abbrev tI:T3:=⟨1,0,0⟩
abbrev tB:T3:=⟨2,0,0⟩
structure Vd where
 nm:List UInt8
 ty:T3
 deriving DecidableEq
structure Sg where
 nm:List UInt8
 ps:List Vd
 has:Bool
 res:T3
structure Hd where
 rs:List (List UInt8)
 shapes:List (List UInt8×List Vd)
 globals:List Vd
 sigs:List Sg
def fdsOf (rs:List (List UInt8))(l:List PD):List Vd:=l.map fun q=>⟨q.name,(typeT rs q.on q.od).1⟩
def namesOf (p:Pg):List (List UInt8):=p.recs.map (·.name)
def sgOf (rs:List (List UInt8))(f:Fc):Sg:=⟨f.name,fdsOf rs f.params,f.has,if f.has then (typeT rs f.on f.od).1 else T0⟩
def hdOf (p:Pg):Hd:=⟨namesOf p,p.recs.map fun r=>(r.name,fdsOf (namesOf p) r.fields),fdsOf (namesOf p) p.globals,p.funcs.map (sgOf (namesOf p))⟩
def lookF (s:List UInt8):Nat->List Vd->Option (Nat×T3)
 |_,[]=>none
 |i,f::l=>if f.nm=s then some (i,f.ty) else lookF s (i+1) l
def varT (H:Hd)(V:List Vd)(s:List UInt8):Option (T3×Int):=match lookF s 0 V with
 |some (k,t)=>some (t,(k:Int))
 |none=>match lookF s 0 H.globals with
  |some (k,t)=>some (t,-1-(k:Int))
  |none=>none
def lookS (s:List UInt8):Nat->List Sg->Option (Nat×Sg)
 |_,[]=>none
 |i,g::l=>if g.nm=s then some (i,g) else lookS s (i+1) l
def sameTs:List Vd->List E->Bool
 |[],[]=>true
 |f::l,e::r=>decide (e.ty=f.ty)&&sameTs l r
 |_,_=>false
def kindsT (k n:Int)(m:Nat):Bool:=
 if k=1\/k=3\/k=4\/k=8\/k=11 then decide (m=0)
 else if k=2 then decide (m=0)&&(decide (n=0)||decide (n=1))
 else if k=7 then true
 else if k=5\/k=9\/k=10\/k=12\/k=13 then decide (m=1)
 else (decide (k=6)||decide (14<=k)&&decide (k<=24))&&decide (m=2)
def ty1 (ks:List E):T3:=match ks with|e::_=>e.ty | []=>T0
def ty2 (ks:List E):T3:=match ks with|_::e::_=>e.ty|_=>T0
def keptN (k n:Int):Int:=if k=1\/k=2 then n else 0
def keptNm (k:Int)(nm:List UInt8):List UInt8:=if k=4\/k=5\/k=7 then nm else []
def keptOn (k:Int)(on:List UInt8):List UInt8:=if k=3\/k=8\/k=9 then on else []
def keptOd (k:Int)(od:Int):Int:=if k=3\/k=8\/k=9 then od else 0
def okT (b:Bool)(t:T3):Option (T3×Int):=if b then some (t,0) else none
def fieldT (H:Hd)(t:T3)(nm:List UInt8):Option (T3×Int):=if t.b=3/\t.d=0 then match H.shapes[t.r.toNat]? with
  |some s=>match lookF nm 0 s.2 with
   |some (i,u)=>some (u,(i:Int))
   |none=>none
  |none=>none
 else none
def callT (H:Hd)(nm:List UInt8)(ks:List E):Option (T3×Int):=match lookS nm 0 H.sigs with
 |some (i,s)=>if sameTs s.ps ks then some (s.res,(i:Int)) else none
 |none=>none
def twoT (k:Int)(a b:T3):Option (T3×Int):=
 if k=14\/k=15\/k=16\/k=17\/k=18 then okT (decide (a=tI)&&decide (b=tI)) tI
 else if k=19\/k=20 then okT (decide (a=tI)&&decide (b=tI)) tB
 else if k=21\/k=22 then okT (decide (a=b)) tB
 else okT (decide (a=tB)&&decide (b=tB)) tB
def typE (H:Hd)(V:List Vd)(k:Int)(nm on:List UInt8)(od:Int)(ks:List E):Option (T3×Int):=
 if k=1\/k=11 then some (tI,0)
 else if k=2 then some (tB,0)
 else if k=3 then okT ((typeT H.rs on od).2&&refT (typeT H.rs on od).1) (typeT H.rs on od).1
 else if k=4 then varT H V nm
 else if k=5 then fieldT H (ty1 ks) nm
 else if k=6 then okT (decide (0<(ty1 ks).d)&&decide (ty2 ks=tI)) ⟨(ty1 ks).b,(ty1 ks).r,(ty1 ks).d-1⟩
 else if k=7 then callT H nm ks
 else if k=8 then okT ((typeT H.rs on od).2&&decide ((typeT H.rs on od).1.b=3)&&decide ((typeT H.rs on od).1.d=0)) (typeT H.rs on od).1
 else if k=9 then okT ((typeT H.rs on od).2&&decide ((typeT H.rs on od).1.d<3)&&decide (ty1 ks=tI)) ⟨(typeT H.rs on od).1.b,(typeT H.rs on od).1.r,(typeT H.rs on od).1.d+1⟩
 else if k=10 then okT (decide (0<(ty1 ks).d)) tI
 else if k=12 then okT (decide (ty1 ks=tI)) tI
 else if k=13 then okT (decide (ty1 ks=tB)) tB
 else twoT k (ty1 ks) (ty2 ks)
mutual
def ckE (H:Hd)(V:List Vd):E->Except Int E
 |.mk k n nm on od kids a _ _=>if kindsT k n kids.length then
   match ckV H V kids with
   |.error x=>.error x
   |.ok ks=>match typE H V k nm on od ks with
    |none=>.error a
    |some (t,r)=>.ok (.mk k (keptN k n) (keptNm k nm) (keptOn k on) (keptOd k od) ks a t r)
  else .error a
def ckV (H:Hd)(V:List Vd):List E->Except Int (List E)
 |[]=>.ok []
 |e::l=>match ckE H V e with
  |.error x=>.error x
  |.ok y=>if y.ty=T0 then .error y.a else match ckV H V l with
   |.error x=>.error x
   |.ok ys=>.ok (y::ys)
end
def formT (has:Bool)(k:Int)(es:List E):Bool:=
 if k=1 then decide (es.length=0)
 else if k=4 then match es with | [e,_]=>decide (e.k=5)||decide (e.k=6)|_=>false
 else if k=7 then decide (es.length=1)&&has||decide (es.length=0) && !has
 else if k=9 then match es with | [e]=>decide (e.k=7)|_=>false
 else if k=2\/k=3\/k=5\/k=6\/k=8 then decide (es.length=1)
 else false
def fitT (H:Hd)(res:T3)(V:List Vd)(k:Int)(nm:List UInt8)(es:List E)(t:T3):Option (Int×List Vd):=
 if k=1 then (match lookF nm 0 V with|some _=>none|none=>some ((V.length:Int),V++[⟨nm,t⟩]))
 else if k=2 then (if ty1 es=t then match lookF nm 0 V with|some _=>none|none=>some ((V.length:Int),V++[⟨nm,t⟩]) else none)
 else if k=3 then (match varT H V nm with|some (u,r)=>if u=ty1 es then some (r,V) else none|none=>none)
 else if k=4 then (if ty1 es=ty2 es then some (0,V) else none)
 else if k=5\/k=6 then (if ty1 es=tB then some (0,V) else none)
 else if k=7 then (if es.length=0\/ty1 es=res then some (0,V) else none)
 else if k=8 then (if ty1 es=tI then some (0,V) else none)
 else some (0,V)
def declT (H:Hd)(k:Int)(on:List UInt8)(od:Int):Option T3:=if k=1\/k=2 then (if (typeT H.rs on od).2 then some (typeT H.rs on od).1 else none) else some T0
def esT (H:Hd)(V:List Vd)(k:Int)(es:List E):Except Int (List E):=if k=9 then match es with
  |e::_=>match ckE H V e with
   |.error x=>.error x
   |.ok y=>.ok [y]
  |[]=>.ok []
 else ckV H V es
def keptS (k:Int)(nm:List UInt8):List UInt8:=if k=1\/k=2\/k=3 then nm else []
def keptSn (k:Int)(on:List UInt8):List UInt8:=if k=1\/k=2 then on else []
def keptSd (k:Int)(od:Int):Int:=if k=1\/k=2 then od else 0
mutual
def ckS (H:Hd)(has:Bool)(res:T3):List Vd->Sm->Except Int (Sm×List Vd)
 |V,.mk k nm on od es bd el a _=>if formT has k es then
   match declT H k on od with
   |none=>.error a
   |some t=>match esT H V k es with
    |.error x=>.error x
    |.ok ys=>match fitT H res V k nm ys t with
     |none=>.error a
     |some (r,W)=>if k=5 then
       match ckB H has res W bd with
       |.error x=>.error x
       |.ok (b,W1)=>match ckB H has res W1 el with
        |.error x=>.error x
        |.ok (c,W2)=>.ok (.mk k (keptS k nm) (keptSn k on) (keptSd k od) ys b c a r,W2)
      else if k=6 then
       match ckB H has res W bd with
       |.error x=>.error x
       |.ok (b,W1)=>.ok (.mk k (keptS k nm) (keptSn k on) (keptSd k od) ys b [] a r,W1)
      else .ok (.mk k (keptS k nm) (keptSn k on) (keptSd k od) ys [] [] a r,W)
  else .error a
def ckB (H:Hd)(has:Bool)(res:T3):List Vd->List Sm->Except Int (List Sm×List Vd)
 |V,[]=>.ok ([],V)
 |V,s::l=>match ckS H has res V s with
  |.error x=>.error x
  |.ok (y,W)=>match ckB H has res W l with
   |.error x=>.error x
   |.ok (ys,X)=>.ok (y::ys,X)
end
structure Bd where
 vars:List Vd
 code:List Sm
 a:Int
def ckF (H:Hd):List Sg->List Fc->Except Int (List Bd)
 |s::ss,f::fs=>match ckB H s.has s.res s.ps f.body with
  |.error x=>.error x
  |.ok (c,W)=>match ckF H ss fs with
   |.error x=>.error x
   |.ok l=>.ok (⟨W,c,f.a⟩::l)
 |_,_=>.ok []
def Vd.row (f:Vd):List AV:=.str f.nm::f.ty.cells
def fdsV (l:List Vd):AV:=lstV 4 (l.map Vd.row)
def Sg.row (s:Sg):List AV:=[.str s.nm,fdsV s.ps,.bool s.has,.int .i64 s.res.b,.int .i64 s.res.r,.int .i64 s.res.d]
def shRow (s:List UInt8×List Vd):List AV:=[.str s.1,fdsV s.2]
def Bd.row (b:Bd):List AV:=[fdsV b.vars,ssV b.code,.int .i64 b.a]
end Chk
namespace Chk
open Ax Go V7 Par
theorem E.ind {P:E->Prop}(h:∀e,(∀x∈e.kids,P x)->P e)(e:E):P e:=h e fun x _=>E.ind h x
termination_by sizeOf e
decreasing_by
 have hx:x∈e.kids:=by assumption
 cases e
 simp only[E.kids]at hx
 have:=List.sizeOf_lt_of_mem hx
 simp only[E.mk.sizeOf_spec]
 omega
theorem Sm.ind {P:Sm->Prop}(h:∀s,(∀x∈s.bd,P x)->(∀x∈s.el,P x)->P s)(s:Sm):P s:=h s (fun x _=>Sm.ind h x) fun x _=>Sm.ind h x
termination_by sizeOf s
decreasing_by
 all_goals
  rename_i hx
  cases s
  simp only[Sm.bd,Sm.el]at hx
  have:=List.sizeOf_lt_of_mem hx
  simp only[Sm.mk.sizeOf_spec]
  omega
mutual
def E.sz:E->Nat
 |.mk _ _ _ _ _ kids _ _ _=>1+E.szs kids
def E.szs:List E->Nat
 |[]=>0
 |e::l=>E.sz e+E.szs l
end
theorem E.sz_pos (e:E):0<E.sz e:=by cases e;simp only[E.sz];omega
theorem E.szs_len:∀l:List E,l.length<=E.szs l
 |[]=>Nat.le_refl _
 |e::l=>by
  have:=E.szs_len l
  have:=E.sz_pos e
  simp only[E.szs,List.length_cons]
  omega
theorem E.szs_mem:∀{l:List E}{e:E},e∈l->E.sz e<=E.szs l
 |[],_,h=>by cases h
 |x::l,e,h=>by
  rcases List.mem_cons.1 h with h|h
  ·subst h;simp only[E.szs];omega
  ·have:=E.szs_mem h
   simp only[E.szs];omega
theorem E.sz_kids (e:E):E.sz e=1+E.szs e.kids:=by cases e;rfl
def WT (n:Nat)(t:T3):Prop:=0<=t.d/\t.d<=3/\(t.b=3->0<=t.r/\t.r<n)
structure Hd.ok (H:Hd):Prop where
 rs:H.rs.length=H.shapes.length
 shapes:∀s∈H.shapes,∀f∈s.2,WT H.rs.length f.ty
 globals:∀f∈H.globals,WT H.rs.length f.ty
 sigs:∀s∈H.sigs,WT H.rs.length s.res/\∀f∈s.ps,WT H.rs.length f.ty
theorem WT_0 {n:Nat}:WT n T0:=⟨Int.le_refl _,by decide,fun h=>by cases h⟩
theorem WT_I {n:Nat}:WT n tI:=⟨Int.le_refl _,by decide,fun h=>by cases h⟩
theorem WT_B {n:Nat}:WT n tB:=⟨Int.le_refl _,by decide,fun h=>by cases h⟩
theorem type_wt (l:List (List UInt8))(s:List UInt8)(d:Int):WT l.length (typeT l s d).1:=by
 unfold typeT
 split
 ·exact WT_0
 ·rename_i h
  have hd:0<=d/\d<=3:=by omega
  split
  ·exact⟨hd.1,hd.2,fun h=>by cases h⟩
  split
  ·exact⟨hd.1,hd.2,fun h=>by cases h⟩
  split
  ·exact WT_0
  ·rename_i h
   refine⟨hd.1,hd.2,fun _=>?_⟩
   rcases idxS_ge l s with e|⟨k,e,hk⟩
   ·rw[e]at h;exact absurd (by decide) h
   ·simp only;rw[e];omega
theorem look_mem {s:List UInt8}:∀{l:List Vd}{i k:Nat}{t:T3},lookF s i l=some (k,t)->∃f∈l,f.ty=t
 |[],_,_,_,h=>by cases h
 |f::l,i,k,t,h=>by
  unfold lookF at h
  split at h
  ·cases h;exact⟨f,List.mem_cons_self,rfl⟩
  ·obtain⟨g,h1,h2⟩:=look_mem h
   exact⟨g,List.mem_cons_of_mem _ h1,h2⟩
theorem looks_mem {s:List UInt8}:∀{l:List Sg}{i k:Nat}{t:Sg},lookS s i l=some (k,t)->t∈l
 |[],_,_,_,h=>by cases h
 |f::l,i,k,t,h=>by
  unfold lookS at h
  split at h
  ·cases h;exact List.mem_cons_self
  ·exact List.mem_cons_of_mem _ (looks_mem h)
theorem okT_wt {n:Nat}{b:Bool}{t u:T3}{r:Int}(h:okT b t=some (u,r))(ht:b=true->WT n t):WT n u:=by
 cases b with
 |false=>cases h
 |true=>cases h;exact ht rfl
theorem var_wt {H:Hd}{V:List Vd}{s:List UInt8}{t:T3}{r:Int}(hH:H.ok)(hV:∀f∈V,WT H.rs.length f.ty)(h:varT H V s=some (t,r)):WT H.rs.length t:=by
 unfold varT at h
 split at h
 ·rename_i k u e
  cases h
  obtain⟨f,h1,h2⟩:=look_mem e
  rw[<-h2];exact hV f h1
 ·split at h
  ·rename_i k u e
   cases h
   obtain⟨f,h1,h2⟩:=look_mem e
   rw[<-h2];exact hH.globals f h1
  ·cases h
theorem typ_wt {H:Hd}{V:List Vd}{k:Int}{nm on:List UInt8}{od:Int}{ks:List E}{t:T3}{r:Int}(hH:H.ok)(hV:∀f∈V,WT H.rs.length f.ty)(hk:∀e∈ks,WT H.rs.length e.ty)(h:typE H V k nm on od ks=some (t,r)):WT H.rs.length t:=by
 have h1:WT H.rs.length (ty1 ks):=by
  unfold ty1
  split
  ·exact hk _ List.mem_cons_self
  ·exact WT_0
 have hty:=type_wt H.rs on od
 unfold typE at h
 by_cases c1:k=1\/k=11
 ·rw[if_pos c1]at h;cases h;exact WT_I
 rw[if_neg c1]at h
 by_cases c2:k=2
 ·rw[if_pos c2]at h;cases h;exact WT_B
 rw[if_neg c2]at h
 by_cases c3:k=3
 ·rw[if_pos c3]at h;exact okT_wt h fun _=>hty
 rw[if_neg c3]at h
 by_cases c4:k=4
 ·rw[if_pos c4]at h;exact var_wt hH hV h
 rw[if_neg c4]at h
 by_cases c5:k=5
 ·rw[if_pos c5]at h
  unfold fieldT at h
  split at h
  ·split at h
   ·rename_i s hs
    split at h
    ·rename_i i u e
     cases h
     obtain⟨f,h2,h3⟩:=look_mem e
     rw[<-h3]
     exact hH.shapes _ (List.mem_of_getElem? hs) f h2
    ·cases h
   ·cases h
  ·cases h
 rw[if_neg c5]at h
 by_cases c6:k=6
 ·rw[if_pos c6]at h
  refine okT_wt h fun hb=>?_
  simp only[Bool.and_eq_true,decide_eq_true_eq]at hb
  exact⟨by simp only;omega,by have:=h1.2.1;simp only;omega,h1.2.2⟩
 rw[if_neg c6]at h
 by_cases c7:k=7
 ·rw[if_pos c7]at h
  unfold callT at h
  split at h
  ·rename_i i s e
   split at h
   ·cases h;exact(hH.sigs s (looks_mem e)).1
   ·cases h
  ·cases h
 rw[if_neg c7]at h
 by_cases c8:k=8
 ·rw[if_pos c8]at h;exact okT_wt h fun _=>hty
 rw[if_neg c8]at h
 by_cases c9:k=9
 ·rw[if_pos c9]at h
  refine okT_wt h fun hb=>?_
  simp only[Bool.and_eq_true,decide_eq_true_eq]at hb
  exact⟨by have:=hty.1;simp only;omega,by simp only;omega,hty.2.2⟩
 rw[if_neg c9]at h
 by_cases c10:k=10
 ·rw[if_pos c10]at h;exact okT_wt h fun _=>WT_I
 rw[if_neg c10]at h
 by_cases c12:k=12
 ·rw[if_pos c12]at h;exact okT_wt h fun _=>WT_I
 rw[if_neg c12]at h
 by_cases c13:k=13
 ·rw[if_pos c13]at h;exact okT_wt h fun _=>WT_B
 rw[if_neg c13]at h
 unfold twoT at h
 split at h
 ·exact okT_wt h fun _=>WT_I
 split at h
 ·exact okT_wt h fun _=>WT_B
 split at h
 ·exact okT_wt h fun _=>WT_B
 ·exact okT_wt h fun _=>WT_B
theorem ckV_cons {H:Hd}{V:List Vd}{e:E}{l:List E}{ys:List E}(h:ckV H V (e::l)=.ok ys):∃y zs,ckE H V e=.ok y/\y.ty≠T0/\ckV H V l=.ok zs/\ys=y::zs:=by
 unfold ckV at h
 split at h
 ·cases h
 ·rename_i y hy
  split at h
  ·cases h
  ·rename_i ht
   split at h
   ·cases h
   ·rename_i zs hz
    cases h
    exact⟨y,zs,hy,ht,hz,rfl⟩
theorem ckV_mem {H:Hd}{V:List Vd}{P:E->Prop}:∀{l ys:List E},ckV H V l=.ok ys->(∀e∈l,∀y,ckE H V e=.ok y->P y)->∀y∈ys,P y
 |[],ys,h,_=>by
  unfold ckV at h
  cases h
  simp
 |e::l,ys,h,hp=>by
  obtain⟨y,zs,h1,_,h2,rfl⟩:=ckV_cons h
  intro z hz
  rcases List.mem_cons.1 hz with e1|e1
  ·subst e1;exact hp e List.mem_cons_self _ h1
  ·exact ckV_mem h2 (fun e he=>hp e (List.mem_cons_of_mem _ he)) z e1
theorem ckE_ok {H:Hd}{V:List Vd}{e y:E}(h:ckE H V e=.ok y):∃ks t r,kindsT e.k e.n e.kids.length=true/\ckV H V e.kids=.ok ks/\typE H V e.k e.nm e.on e.od ks=some (t,r)/\y=.mk e.k (keptN e.k e.n) (keptNm e.k e.nm) (keptOn e.k e.on) (keptOd e.k e.od) ks e.a t r:=by
 obtain⟨k,n,nm,on,od,kids,a,ty,ref⟩:=e
 unfold ckE at h
 split at h
 ·rename_i hk
  split at h
  ·cases h
  ·rename_i ks hks
   split at h
   ·cases h
   ·rename_i t r ht
    cases h
    exact⟨ks,t,r,hk,hks,ht,rfl⟩
 ·cases h
theorem ckE_wt {H:Hd}{V:List Vd}(hH:H.ok)(hV:∀f∈V,WT H.rs.length f.ty)(e:E):∀y,ckE H V e=.ok y->WT H.rs.length y.ty:=by
 induction e using E.ind with
 |_ e ih=>
  intro y h
  obtain⟨ks,t,r,_,h2,h3,rfl⟩:=ckE_ok h
  exact typ_wt hH hV (ckV_mem h2 ih) h3
theorem ckV_len {H:Hd}{V:List Vd}:∀{l ys:List E},ckV H V l=.ok ys->ys.length=l.length
 |[],ys,h=>by unfold ckV at h;cases h;rfl
 |e::l,ys,h=>by
  obtain⟨y,zs,_,_,h2,rfl⟩:=ckV_cons h
  simp[ckV_len h2]
theorem kinds_kept {k n:Int}{m:Nat}(h:kindsT k n m=true):kindsT k (keptN k n) m=true:=by
 unfold kindsT keptN at *
 split
 ·rename_i c;rw[if_pos c]at h;exact h
 ·rename_i c
  rw[if_neg c]at h
  split
  ·rename_i c2;rw[if_pos c2]at h;rw[if_pos (.inr c2)];exact h
  ·rename_i c2;rw[if_neg c2]at h;exact h
theorem typ_kept {H:Hd}{V:List Vd}{k:Int}{nm on:List UInt8}{od:Int}{ks:List E}:typE H V k (keptNm k nm) (keptOn k on) (keptOd k od) ks=typE H V k nm on od ks:=by
 unfold typE
 by_cases c3:k=3
 ·simp[keptOn,keptOd,c3]
 by_cases c4:k=4
 ·simp[keptNm,c4]
 by_cases c5:k=5
 ·simp[keptNm,c5]
 by_cases c7:k=7
 ·simp[keptNm,c7]
 by_cases c8:k=8
 ·simp[keptOn,keptOd,c8]
 by_cases c9:k=9
 ·simp[keptOn,keptOd,c9]
 simp only[if_neg c3,if_neg c4,if_neg c5,if_neg c7,if_neg c8,if_neg c9]
end Chk
namespace Chk
open Ax Go V7 Par
mutual
def Sm.sz:Sm->Nat
 |.mk _ _ _ _ es bd el _ _=>1+E.szs es+Sm.szs bd+Sm.szs el
def Sm.szs:List Sm->Nat
 |[]=>0
 |s::l=>Sm.sz s+Sm.szs l
end
theorem Sm.sz_pos (s:Sm):0<Sm.sz s:=by cases s;simp only[Sm.sz];omega
theorem Sm.szs_len:∀l:List Sm,l.length<=Sm.szs l
 |[]=>Nat.le_refl _
 |e::l=>by
  have:=Sm.szs_len l
  have:=Sm.sz_pos e
  simp only[Sm.szs,List.length_cons]
  omega
theorem Sm.szs_mem:∀{l:List Sm}{e:Sm},e∈l->Sm.sz e<=Sm.szs l
 |[],_,h=>by cases h
 |x::l,e,h=>by
  rcases List.mem_cons.1 h with h|h
  ·subst h;simp only[Sm.szs];omega
  ·have:=Sm.szs_mem h
   simp only[Sm.szs];omega
theorem Sm.sz_eq (s:Sm):Sm.sz s=1+E.szs s.es+Sm.szs s.bd+Sm.szs s.el:=by cases s;rfl
theorem ckS_mk (H:Hd)(has:Bool)(res:T3)(V:List Vd)(k:Int)(nm on:List UInt8)(od:Int)(es:List E)(bd el:List Sm)(a ref:Int):ckS H has res V (.mk k nm on od es bd el a ref)=if formT has k es then
   match declT H k on od with
   |none=>.error a
   |some t=>match esT H V k es with
    |.error x=>.error x
    |.ok ys=>match fitT H res V k nm ys t with
     |none=>.error a
     |some (r,W)=>if k=5 then
       match ckB H has res W bd with
       |.error x=>.error x
       |.ok (b,W1)=>match ckB H has res W1 el with
        |.error x=>.error x
        |.ok (c,W2)=>.ok (.mk k (keptS k nm) (keptSn k on) (keptSd k od) ys b c a r,W2)
      else if k=6 then
       match ckB H has res W bd with
       |.error x=>.error x
       |.ok (b,W1)=>.ok (.mk k (keptS k nm) (keptSn k on) (keptSd k od) ys b [] a r,W1)
      else .ok (.mk k (keptS k nm) (keptSn k on) (keptSd k od) ys [] [] a r,W)
  else .error a:=by
 (conv=>lhs;unfold ckS)<;>rfl
theorem ckS_eq (H:Hd)(has:Bool)(res:T3)(V:List Vd)(s:Sm):ckS H has res V s=if formT has s.k s.es then
   match declT H s.k s.on s.od with
   |none=>.error s.a
   |some t=>match esT H V s.k s.es with
    |.error x=>.error x
    |.ok ys=>match fitT H res V s.k s.nm ys t with
     |none=>.error s.a
     |some (r,W)=>if s.k=5 then
       match ckB H has res W s.bd with
       |.error x=>.error x
       |.ok (b,W1)=>match ckB H has res W1 s.el with
        |.error x=>.error x
        |.ok (c,W2)=>.ok (.mk s.k (keptS s.k s.nm) (keptSn s.k s.on) (keptSd s.k s.od) ys b c s.a r,W2)
      else if s.k=6 then
       match ckB H has res W s.bd with
       |.error x=>.error x
       |.ok (b,W1)=>.ok (.mk s.k (keptS s.k s.nm) (keptSn s.k s.on) (keptSd s.k s.od) ys b [] s.a r,W1)
      else .ok (.mk s.k (keptS s.k s.nm) (keptSn s.k s.on) (keptSd s.k s.od) ys [] [] s.a r,W)
  else .error s.a:=by
 obtain⟨k,nm,on,od,es,bd,el,a,ref⟩:=s
 exact ckS_mk H has res V k nm on od es bd el a ref
theorem ckS_ok {H:Hd}{has:Bool}{res:T3}{V X:List Vd}{s y:Sm}(h:ckS H has res V s=.ok (y,X)):∃t ys r W,formT has s.k s.es=true/\declT H s.k s.on s.od=some t/\esT H V s.k s.es=.ok ys/\fitT H res V s.k s.nm ys t=some (r,W)/\
  (s.k=5/\(∃b W1 c,ckB H has res W s.bd=.ok (b,W1)/\ckB H has res W1 s.el=.ok (c,X)/\y=.mk s.k (keptS s.k s.nm) (keptSn s.k s.on) (keptSd s.k s.od) ys b c s.a r)\/
   s.k=6/\(∃b,ckB H has res W s.bd=.ok (b,X)/\y=.mk s.k (keptS s.k s.nm) (keptSn s.k s.on) (keptSd s.k s.od) ys b [] s.a r)\/
   s.k≠5/\s.k≠6/\X=W/\y=.mk s.k (keptS s.k s.nm) (keptSn s.k s.on) (keptSd s.k s.od) ys [] [] s.a r):=by
 rw[ckS_eq]at h
 split at h
 ·rename_i hf
  split at h
  ·cases h
  ·rename_i t ht
   split at h
   ·cases h
   ·rename_i ys hys
    split at h
    ·cases h
    ·rename_i r W hfit
     refine⟨t,ys,r,W,hf,ht,hys,hfit,?_⟩
     split at h
     ·rename_i h5
      split at h
      ·cases h
      ·rename_i b W1 hb
       split at h
       ·cases h
       ·rename_i c W2 hc
        cases h
        exact .inl ⟨h5,b,W1,c,hb,hc,rfl⟩
     ·rename_i h5
      split at h
      ·rename_i h6
       split at h
       ·cases h
       ·rename_i b W1 hb
        cases h
        exact .inr (.inl ⟨h6,b,hb,rfl⟩)
      ·rename_i h6
       cases h
       exact .inr (.inr ⟨h5,h6,rfl,rfl⟩)
 ·cases h
theorem ckB_cons {H:Hd}{has:Bool}{res:T3}{V X:List Vd}{s:Sm}{l:List Sm}{zs:List Sm}(h:ckB H has res V (s::l)=.ok (zs,X)):∃y W ys,ckS H has res V s=.ok (y,W)/\ckB H has res W l=.ok (ys,X)/\zs=y::ys:=by
 unfold ckB at h
 split at h
 ·cases h
 ·rename_i y W hy
  split at h
  ·cases h
  ·rename_i ys X' hz
   cases h
   exact⟨y,W,ys,hy,hz,rfl⟩
theorem fit_W {H:Hd}{res:T3}{V W:List Vd}{k:Int}{nm:List UInt8}{es:List E}{t:T3}{r:Int}(h:fitT H res V k nm es t=some (r,W)):W=V\/(k=1\/k=2)/\W=V++[⟨nm,t⟩]:=by
 unfold fitT at h
 split at h
 ·rename_i c
  split at h
  ·cases h
  ·cases h;exact .inr ⟨.inl c,rfl⟩
 split at h
 ·rename_i c
  split at h
  ·split at h
   ·cases h
   ·cases h;exact .inr ⟨.inr c,rfl⟩
  ·cases h
 all_goals left
 split at h
 ·split at h
  ·split at h<;>cases h;rfl
  ·cases h
 split at h
 ·split at h<;>cases h;rfl
 split at h
 ·split at h<;>cases h;rfl
 split at h
 ·split at h<;>cases h;rfl
 split at h
 ·split at h<;>cases h;rfl
 ·cases h;rfl
theorem decl_wt {H:Hd}{k:Int}{on:List UInt8}{od:Int}{t:T3}(h:declT H k on od=some t):WT H.rs.length t:=by
 unfold declT at h
 split at h
 ·split at h<;>cases h;exact type_wt _ _ _
 ·cases h;exact WT_0
theorem ckB_wt0 {H:Hd}{has:Bool}{res:T3}:∀{l ys:List Sm}{V X:List Vd},(∀s∈l,∀V y W,(∀f∈V,WT H.rs.length f.ty)->ckS H has res V s=.ok (y,W)->(∀f∈W,WT H.rs.length f.ty)/\W.length<=V.length+Sm.sz s)->
  (∀f∈V,WT H.rs.length f.ty)->ckB H has res V l=.ok (ys,X)->(∀f∈X,WT H.rs.length f.ty)/\X.length<=V.length+Sm.szs l
 |[],ys,V,X,_,hV,h=>by unfold ckB at h;cases h;exact⟨hV,by simp[Sm.szs]⟩
 |s::l,ys,V,X,hp,hV,h=>by
  obtain⟨y,W,zs,h1,h2,rfl⟩:=ckB_cons h
  obtain⟨a1,a2⟩:=hp s List.mem_cons_self V y W hV h1
  obtain⟨b1,b2⟩:=ckB_wt0 (fun s hs=>hp s (List.mem_cons_of_mem _ hs)) a1 h2
  exact⟨b1,by simp only[Sm.szs];omega⟩
theorem ckS_wt {H:Hd}{has:Bool}{res:T3}(s:Sm):∀V y W,(∀f∈V,WT H.rs.length f.ty)->ckS H has res V s=.ok (y,W)->(∀f∈W,WT H.rs.length f.ty)/\W.length<=V.length+Sm.sz s:=by
 induction s using Sm.ind with
 |_ s ih1 ih2=>
  intro V y X hV h
  obtain⟨t,ys,r,W,hf,ht,hys,hfit,hh⟩:=ckS_ok h
  have hW:(∀f∈W,WT H.rs.length f.ty)/\W.length<=V.length+1:=by
   rcases fit_W hfit with e|⟨_,e⟩
   ·subst e;exact⟨hV,by omega⟩
   ·subst e
    refine⟨fun f hf=>?_,by simp⟩
    rcases List.mem_append.1 hf with h|h
    ·exact hV f h
    ·rw[List.mem_singleton.1 h];exact decl_wt ht
  have hz:=Sm.sz_eq s
  rcases hh with⟨_,b,W1,c,hb,hc,_⟩|⟨_,b,hb,_⟩|⟨_,_,rfl,_⟩
  ·obtain⟨a1,a2⟩:=ckB_wt0 ih1 hW.1 hb
   obtain⟨b1,b2⟩:=ckB_wt0 ih2 a1 hc
   exact⟨b1,by omega⟩
  ·obtain⟨a1,a2⟩:=ckB_wt0 ih1 hW.1 hb
   exact⟨a1,by omega⟩
  ·exact⟨hW.1,by omega⟩
theorem ckB_wt {H:Hd}{has:Bool}{res:T3}{l ys:List Sm}{V X:List Vd}(hV:∀f∈V,WT H.rs.length f.ty)(h:ckB H has res V l=.ok (ys,X)):(∀f∈X,WT H.rs.length f.ty)/\X.length<=V.length+Sm.szs l:=
 ckB_wt0 (fun s _=>ckS_wt s) hV h
theorem ckE_k {H:Hd}{V:List Vd}{e y:E}(h:ckE H V e=.ok y):y.k=e.k:=by
 obtain⟨ks,t,r,_,_,_,rfl⟩:=ckE_ok h;rfl
theorem ckV_form {H:Hd}{V:List Vd}{has:Bool}{k:Int}{l ys:List E}(h:ckV H V l=.ok ys)(hf:formT has k l=true):formT has k ys=true:=by
 have hl:=ckV_len h
 unfold formT at hf ⊢
 rw[hl]
 match l,hl,hf,h with
 |[],hl,hf,_=>rw[List.length_nil]at hl;rw[List.eq_nil_of_length_eq_zero hl];exact hf
 |[e],hl,hf,h=>
  obtain⟨y,zs,h1,_,h2,rfl⟩:=ckV_cons h
  unfold ckV at h2;cases h2
  simpa [ckE_k h1] using hf
 |[e,e2],hl,hf,h=>
  obtain⟨y,zs,h1,_,h2,rfl⟩:=ckV_cons h
  obtain⟨y2,zs2,h3,_,h4,rfl⟩:=ckV_cons h2
  unfold ckV at h4;cases h4
  simpa [ckE_k h1] using hf
 |e::e2::e3::l,hl,hf,h=>
  obtain⟨y,zs,h1,_,h2,rfl⟩:=ckV_cons h
  obtain⟨y2,zs2,h3,_,h4,rfl⟩:=ckV_cons h2
  obtain⟨y3,zs3,h5,_,h6,rfl⟩:=ckV_cons h4
  simp at hf
theorem esT_ne {H:Hd}{V:List Vd}{k:Int}{es:List E}(h:k≠9):esT H V k es=ckV H V es:=by unfold esT;rw[if_neg h]
theorem esT_9 {H:Hd}{V:List Vd}{e:E}:esT H V 9 [e]=match ckE H V e with|.error x=>.error x|.ok y=>.ok [y]:=by unfold esT;rfl
theorem form_9 {has:Bool}{es:List E}(h:formT has 9 es=true):∃e,es=[e]/\e.k=7:=by
 unfold formT at h
 match es,h with
 |[],h=>cases h
 |[e],h=>exact⟨e,rfl,by simpa using h⟩
 |_::_::_,h=>cases h
theorem esT_form {H:Hd}{V:List Vd}{has:Bool}{k:Int}{l ys:List E}(h:esT H V k l=.ok ys)(hf:formT has k l=true):formT has k ys=true:=by
 by_cases h9:k=9
 ·subst h9
  obtain⟨e,rfl,he⟩:=form_9 hf
  rw[esT_9]at h
  split at h
  ·cases h
  ·rename_i y hy
   cases h
   unfold formT
   simpa [ckE_k hy] using he
 ·rw[esT_ne h9]at h;exact ckV_form h hf
theorem fit_kept {H:Hd}{res:T3}{V:List Vd}{k:Int}{nm:List UInt8}{es:List E}{t:T3}:fitT H res V k (keptS k nm) es t=fitT H res V k nm es t:=by
 unfold fitT
 by_cases h1:k=1
 ·simp[keptS,h1]
 by_cases h2:k=2
 ·simp[keptS,h2]
 by_cases h3:k=3
 ·simp[keptS,h3]
 simp only[if_neg h1,if_neg h2,if_neg h3]
theorem ckF_len {H:Hd}:∀{ss:List Sg}{fs:List Fc}{bs:List Bd},ss.length=fs.length->ckF H ss fs=.ok bs->bs.length=fs.length
 |[],[],bs,_,h=>by unfold ckF at h;cases h;rfl
 |s::ss,f::fs,bs,hl,h=>by
  unfold ckF at h
  split at h
  ·cases h
  ·split at h
   ·cases h
   ·rename_i l hl2
    cases h
    simp[ckF_len (by simpa using hl) hl2]
 |[],_::_,_,hl,_=>by cases hl
 |_::_,[],_,hl,_=>by cases hl
end Chk
namespace Chk
open Ax Go V7 Par
end Chk
namespace Chk
open Ax Go V7 Par
def orO (a b:Option Int):Option Int:=match a with
 |some x=>some x
 |none=>b
theorem orO_none {a:Option Int}:orO a none=a:=by cases a<;>rfl
theorem orO_assoc {a b c:Option Int}:orO (orO a b) c=orO a (orO b c):=by cases a<;>rfl
mutual
def askE (su:List Bool):E->Option Int
 |.mk k _ _ _ _ kids a _ ref=>orO (askL su kids) (if k=4/\0<=ref/\su[ref.toNat]?=some false then some a else none)
def askL (su:List Bool):List E->Option Int
 |[]=>none
 |e::l=>orO (askE su e) (askL su l)
end
mutual
def surS:List Bool->Sm->List Bool×Option Int
 |su,.mk k _ _ _ es bd el _ ref=>
  if k=1 then (su.set ref.toNat false,askL su es)
  else if k=2\/k=3 then (if 0<=ref then su.set ref.toNat true else su,askL su es)
  else if k=7 then (su.map fun _=>true,askL su es)
  else if k=6 then (su,orO (askL su es) (surB su bd).2)
  else if k=5 then (List.zipWith (fun a b=>a&&b) (surB su bd).1 (surB su el).1,orO (askL su es) (orO (surB su bd).2 (surB su el).2))
  else (su,askL su es)
def surB:List Bool->List Sm->List Bool×Option Int
 |su,[]=>(su,none)
 |su,s::l=>((surB (surS su s).1 l).1,orO (surS su s).2 (surB (surS su s).1 l).2)
end
theorem askE_eq (su:List Bool)(e:E):askE su e=orO (askL su e.kids) (if e.k=4/\0<=e.ref/\su[e.ref.toNat]?=some false then some e.a else none):=by
 obtain⟨k,n,nm,on,od,kids,a,ty,ref⟩:=e
 (conv=>lhs;unfold askE)<;>rfl
theorem askL_cons (su:List Bool)(e:E)(l:List E):askL su (e::l)=orO (askE su e) (askL su l):=by
 (conv=>lhs;unfold askL)<;>rfl
theorem surS_eq (su:List Bool)(s:Sm):surS su s =
  if s.k=1 then (su.set s.ref.toNat false,askL su s.es)
  else if s.k=2\/s.k=3 then (if 0<=s.ref then su.set s.ref.toNat true else su,askL su s.es)
  else if s.k=7 then (su.map fun _=>true,askL su s.es)
  else if s.k=6 then (su,orO (askL su s.es) (surB su s.bd).2)
  else if s.k=5 then (List.zipWith (fun a b=>a&&b) (surB su s.bd).1 (surB su s.el).1,orO (askL su s.es) (orO (surB su s.bd).2 (surB su s.el).2))
  else (su,askL su s.es):=by
 obtain⟨k,nm,on,od,es,bd,el,a,ref⟩:=s
 (conv=>lhs;unfold surS)<;>rfl
theorem surB_cons (su:List Bool)(s:Sm)(l:List Sm):surB su (s::l)=((surB (surS su s).1 l).1,orO (surS su s).2 (surB (surS su s).1 l).2):=by
 (conv=>lhs;unfold surB)<;>rfl
theorem surB_nil (su:List Bool):surB su []=(su,none):=by unfold surB;rfl
mutual
theorem surS_len:∀(su:List Bool)(s:Sm),(surS su s).1.length=su.length
 |su,.mk k nm on od es bd el a ref=>by
  unfold surS
  split
  ·simp
  split
  ·split<;>simp
  split
  ·simp
  split
  ·rfl
  split
  ·simp[surB_len su bd,surB_len su el]
  ·rfl
theorem surB_len:∀(su:List Bool)(l:List Sm),(surB su l).1.length=su.length
 |su,[]=>by unfold surB;rfl
 |su,s::l=>by
  unfold surB
  simp only
  rw[surB_len (surS su s).1 l,surS_len su s]
end
mutual
def refE (n:Nat):E->Prop
 |.mk k _ _ _ _ kids _ _ ref=>(k=4->ref<n)/\refL n kids
def refL (n:Nat):List E->Prop
 |[]=>True
 |e::l=>refE n e/\refL n l
end
mutual
def refS (n:Nat):Sm->Prop
 |.mk k _ _ _ es bd el _ ref=>refL n es/\(k=1\/k=2->0<=ref/\ref<n)/\(k=3->ref<n)/\refB n bd/\refB n el
def refB (n:Nat):List Sm->Prop
 |[]=>True
 |s::l=>refS n s/\refB n l
end
theorem refE_eq (n:Nat)(e:E):refE n e↔(e.k=4->e.ref<n)/\refL n e.kids:=by
 obtain⟨k,_,nm,on,od,kids,a,ty,ref⟩:=e
 unfold refE;exact Iff.rfl
theorem refS_eq (n:Nat)(s:Sm):refS n s↔refL n s.es/\(s.k=1\/s.k=2->0<=s.ref/\s.ref<n)/\(s.k=3->s.ref<n)/\refB n s.bd/\refB n s.el:=by
 obtain⟨k,nm,on,od,es,bd,el,a,ref⟩:=s
 unfold refS;exact Iff.rfl
theorem refL_iff (n:Nat):∀l:List E,refL n l↔∀e∈l,refE n e
 |[]=>by simp[refL]
 |e::l=>by simp[refL,refL_iff n l]
theorem refB_iff (n:Nat):∀l:List Sm,refB n l↔∀e∈l,refS n e
 |[]=>by simp[refB]
 |e::l=>by simp[refB,refB_iff n l]
theorem refE_mono {n m:Nat}(h:n<=m)(e:E):refE n e->refE m e:=by
 induction e using E.ind with
 |_ e ih=>
  rw[refE_eq,refE_eq,refL_iff,refL_iff]
  exact fun⟨h1,h2⟩=>⟨fun hk=>by have:=h1 hk;omega,fun x hx=>ih x hx (h2 x hx)⟩
theorem refL_mono {n m:Nat}(h:n<=m)(l:List E):refL n l->refL m l:=by
 rw[refL_iff,refL_iff]
 exact fun h2 x hx=>refE_mono h x (h2 x hx)
theorem refS_mono {n m:Nat}(h:n<=m)(s:Sm):refS n s->refS m s:=by
 induction s using Sm.ind with
 |_ s ih1 ih2=>
  rw[refS_eq,refS_eq]
  rintro⟨h1,h2,h3,h4,h5⟩
  rw[refB_iff]at h4 h5 ⊢
  refine⟨refL_mono h _ h1,fun hk=>?_,fun hk=>?_,fun x hx=>ih1 x hx (h4 x hx),?_⟩
  ·have:=h2 hk;omega
  ·have:=h3 hk;omega
  ·rw[refB_iff];exact fun x hx=>ih2 x hx (h5 x hx)
theorem refB_mono {n m:Nat}(h:n<=m)(l:List Sm):refB n l->refB m l:=by
 rw[refB_iff,refB_iff]
 exact fun h2 x hx=>refS_mono h x (h2 x hx)
theorem look_lt {s:List UInt8}:∀{l:List Vd}{i k:Nat}{t:T3},lookF s i l=some (k,t)->k<i+l.length
 |[],_,_,_,h=>by cases h
 |f::l,i,k,t,h=>by
  unfold lookF at h
  split at h
  ·cases h;simp
  ·have:=look_lt h
   simp only[List.length_cons];omega
theorem var_lt {H:Hd}{V:List Vd}{s:List UInt8}{t:T3}{r:Int}(h:varT H V s=some (t,r)):r<V.length:=by
 unfold varT at h
 split at h
 ·rename_i e;cases h;have:=look_lt e;omega
 ·split at h
  ·cases h;omega
  ·cases h
theorem ckE_ref {H:Hd}{V:List Vd}(e:E):∀y,ckE H V e=.ok y->refE V.length y:=by
 induction e using E.ind with
 |_ e ih=>
  intro y h
  obtain⟨ks,t,r,_,h2,h3,rfl⟩:=ckE_ok h
  rw[refE_eq]
  refine⟨fun hk=>?_,?_⟩
  ·have hk:e.k=4:=hk
   show r<_
   unfold typE at h3
   rw[if_neg (by omega),if_neg (by omega),if_neg (by omega),if_pos hk]at h3
   exact var_lt h3
  ·show refL _ ks
   rw[refL_iff]
   exact ckV_mem h2 ih
theorem ckB_len {H:Hd}{has:Bool}{res:T3}:∀{l ys:List Sm}{V X:List Vd},(∀s∈l,∀V y W,ckS H has res V s=.ok (y,W)->V.length<=W.length/\refS W.length y)->ckB H has res V l=.ok (ys,X)->V.length<=X.length/\refB X.length ys
 |[],ys,V,X,_,h=>by
  unfold ckB at h
  cases h
  exact⟨Nat.le_refl _,by simp[refB]⟩
 |s::l,ys,V,X,hp,h=>by
  obtain⟨y,W,zs,h1,h2,rfl⟩:=ckB_cons h
  obtain⟨a1,a2⟩:=hp s List.mem_cons_self V y W h1
  obtain⟨b1,b2⟩:=ckB_len (fun t ht=>hp t (List.mem_cons_of_mem _ ht)) h2
  refine⟨by omega,?_⟩
  unfold refB
  exact⟨refS_mono b1 _ a2,b2⟩
theorem fit_r {H:Hd}{res:T3}{V W:List Vd}{k:Int}{nm:List UInt8}{es:List E}{t:T3}{r:Int}(h:fitT H res V k nm es t=some (r,W)):(k=1\/k=2->r=V.length)/\(k=3->r<V.length):=by
 unfold fitT at h
 split at h
 ·rename_i c
  split at h
  ·cases h
  ·cases h;exact⟨fun _=>rfl,fun h=>by omega⟩
 rename_i n1
 split at h
 ·rename_i c
  split at h
  ·split at h
   ·cases h
   ·cases h;exact⟨fun _=>rfl,fun h=>by omega⟩
  ·cases h
 rename_i n2
 split at h
 ·rename_i c
  split at h
  ·rename_i u r' e
   split at h
   ·cases h;exact⟨fun h=>by omega,fun _=>var_lt e⟩
   ·cases h
  ·cases h
 rename_i n3
 exact⟨fun h=>by omega,fun h=>by omega⟩
theorem es_ref {H:Hd}{V:List Vd}{k:Int}{es ys:List E}(h:esT H V k es=.ok ys):refL V.length ys:=by
 unfold esT at h
 rw[refL_iff]
 split at h
 ·split at h
  ·rename_i e l
   cases hx:ckE H V e with
   |error a=>rw[hx]at h;cases h
   |ok y=>
    rw[hx]at h;cases h
    intro z hz
    rw[List.mem_singleton.1 hz]
    exact ckE_ref e y hx
  ·cases h;simp
 ·exact ckV_mem h fun e _ y hy=>ckE_ref e y hy
theorem ckS_ref {H:Hd}{has:Bool}{res:T3}(s:Sm):∀V y X,ckS H has res V s=.ok (y,X)->V.length<=X.length/\refS X.length y:=by
 induction s using Sm.ind with
 |_ s ih1 ih2=>
  intro V y X h
  obtain⟨t,ys,r,W,hf,ht,hys,hfit,hh⟩:=ckS_ok h
  have hes:=es_ref hys
  have hVW:V.length<=W.length:=by
   rcases fit_W hfit with e|⟨_,e⟩
   ·rw[e];exact Nat.le_refl _
   ·rw[e];simp
  have hr:=fit_r hfit
  have hr1:s.k=1\/s.k=2->0<=r/\r<(W.length:Int):=fun hk=>by
   rcases fit_W hfit with e|⟨_,e⟩
   ·have h1:=hr.1 hk
    have:W.length=V.length+1:=by
     unfold fitT at hfit
     rcases hk with hk|hk
     ·rw[if_pos hk]at hfit
      split at hfit
      ·cases hfit
      ·cases hfit;simp
     ·rw[if_neg (by omega),if_pos hk]at hfit
      split at hfit
      ·split at hfit
       ·cases hfit
       ·cases hfit;simp
      ·cases hfit
    omega
   ·have h1:=hr.1 hk
    rw[e,h1];simp;omega
  have hr3:s.k=3->r<(W.length:Int):=fun hk=>by have:=hr.2 hk;omega
  rcases hh with⟨h5,b,W1,c,hb,hc,rfl⟩|⟨h6,b,hb,rfl⟩|⟨h5,h6,rfl,rfl⟩
  ·obtain⟨a1,a2⟩:=ckB_len (fun x hx V y W hw=>ih1 x hx V y W hw) hb
   obtain⟨b1,b2⟩:=ckB_len (fun x hx V y W hw=>ih2 x hx V y W hw) hc
   refine⟨by omega,(refS_eq _ _).2 ⟨refL_mono (by omega) _ hes,fun hk=>?_,fun hk=>?_,refB_mono b1 _ a2,b2⟩⟩
   ·have hk:s.k=1\/s.k=2:=hk
    omega
   ·have hk:s.k=3:=hk
    omega
  ·obtain⟨a1,a2⟩:=ckB_len (fun x hx V y W hw=>ih1 x hx V y W hw) hb
   refine⟨by omega,(refS_eq _ _).2 ⟨refL_mono (by omega) _ hes,fun hk=>?_,fun hk=>?_,a2,by simp[Sm.el,refB]⟩⟩
   ·have hk:s.k=1\/s.k=2:=hk
    omega
   ·have hk:s.k=3:=hk
    omega
  ·exact⟨hVW,(refS_eq _ _).2 ⟨refL_mono hVW _ hes,hr1,hr3,by simp[Sm.bd,refB],by simp[Sm.el,refB]⟩⟩
theorem ckB_ref {H:Hd}{has:Bool}{res:T3}{l ys:List Sm}{V X:List Vd}(h:ckB H has res V l=.ok (ys,X)):V.length<=X.length/\refB X.length ys:=
 ckB_len (fun s _ V y W=>ckS_ref s V y W) h
def su0 (g:Sg)(b:Bd):List Bool:=List.replicate g.ps.length true++List.replicate (b.vars.length-g.ps.length) false
def surF:List Sg->List Bd->Option Int
 |s::ss,b::bs=>orO (surB (su0 s b) b.code).2 (surF ss bs)
 |_,_=>none
theorem ckF_refs {H:Hd}:∀{ss:List Sg}{fs:List Fc}{bs:List Bd},ckF H ss fs=.ok bs->∀(k:Nat)(h1:k<ss.length)(h2:k<bs.length),ss[k].ps.length<=bs[k].vars.length/\refB bs[k].vars.length bs[k].code
 |[],_,bs,h,k,h1,_=>by simp at h1
 |s::ss,[],bs,h,k,_,h2=>by
  unfold ckF at h;cases h;simp at h2
 |s::ss,f::fs,bs,h,k,h1,h2=>by
  unfold ckF at h
  split at h
  ·cases h
  ·rename_i c W hb
   split at h
   ·cases h
   ·rename_i l hl
    cases h
    match k with
    |0=>exact ckB_ref hb
    |k+1=>
     have:=ckF_refs hl k (by simpa using h1) (by simpa using h2)
     simpa using this
end Chk
