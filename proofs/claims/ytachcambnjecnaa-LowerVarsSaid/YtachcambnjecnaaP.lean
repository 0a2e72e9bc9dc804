/-
  Lists of texts, types, as those who run see them.
-/
import Derived.Test.YtachcambnjecnaaA6

namespace V7
open Ax Go
def mz:AV->Bool
 |.own _ _=>false
 |_=>true
theorem sV {v:AV}(h:mz v=true)(hs:aG v=true):v.view=v:=by cases v<;>simp_all [mz,aG,AV.view]
@[simp] theorem GR (v:AV):mz v.view=true:=by cases v<;>simp[mz,AV.view]
def kz (sz:Nat)(p:List AV->Bool)(v:AV):Bool:=mz v&&cI sz v&&(aP v).all p
theorem og {sz:Nat}{p:List AV->Bool}{v:AV}(h:kz sz p v=true):cI sz v=true:=by simp only[kz,Bool.and_eq_true]at h;exact h.1.2
theorem vv {sz:Nat}{p:List AV->Bool}{v:AV}(h:kz sz p v=true):∀r∈aP v,p r=true:=by simp only[kz,Bool.and_eq_true,List.all_eq_true]at h;exact h.2
theorem tX {sz:Nat}{p:List AV->Bool}{v:AV}(h:kz sz p v=true):v.view=v:=by
 have h2:=mN (og h)
 simp only[kz,Bool.and_eq_true]at h
 exact sV h.1.1 h2
theorem wG {α:Type}{sz:Nat}{p:List AV->Bool}{d:List AV->α}{e:α->List AV}{v:AV}(h:kz sz p v=true)(he:∀r,p r=true->r=e (d r)):aP v=((aP v).map d).map e:=by
 rw[List.map_map]
 conv=>lhs;rw[<-List.map_id (aP v)]
 exact List.map_congr_left λr hr=>he r (vv h r hr)
def RJ (n:Int):Bool:=decide (-9223372036854775808<=n)&&decide (n<=9223372036854775807)
structure T3 where
 b:Int
 r:Int
 d:Int
 deriving DecidableEq
abbrev T0:T3:=⟨0,0,0⟩
@[simp] def T3.cells (t:T3):List AV:=[.int .i64 t.b,.int .i64 t.r,.int .i64 t.d]
def ach (r:List AV):Bool:=match r with | [.int .i64 a,.int .i64 b,.int .i64 c]=>RJ a&&RJ b&&RJ c|_=>false
def dT (r:List AV):T3:=match r with | [.int .i64 a,.int .i64 b,.int .i64 c]=>⟨a,b,c⟩|_=>T0
def aci (v:AV):Bool:=kz 3 ach v
def dTs (v:AV):List T3:=(aP v).map dT
@[simp] theorem acj (v:AV):dTs v.view=dTs v:=by simp[dTs]
@[simp] theorem Xu {v:AV} (h:aci v=true):cI 3 v=true:=og h
@[simp] theorem ag8 {v:AV} (h:aci v=true):aG v=true:=mN (Xu h)
def PL (r:List AV):Bool:=match r with | [.str _]=>true|_=>false
def dSt (r:List AV):List UInt8:=match r with | [.str s]=>s|_=>[]
def rK (v:AV):Bool:=kz 1 PL v
def fQ (v:AV):List (List UInt8):=(aP v).map dSt
theorem PM (r:List AV)(h:PL r=true):r=[.str (dSt r)]:=by
 unfold PL at h
 split at h
 ·rfl
 ·cases h
theorem PN {v:AV}(h:rK v=true):aP v=(fQ v).map λs=>[.str s]:=wG h PM
theorem Bz {v:AV}(h:rK v=true):v.view=v:=tX h
@[simp] theorem Dp (v:AV):fQ v.view=fQ v:=by simp[fQ]
@[simp] theorem TJ {v:AV} (h:rK v=true):cI 1 v=true:=og h
@[simp] theorem zX {v:AV} (h:rK v=true):aG v=true:=mN (TJ h)
def GS {α:Type}(p:α->Bool)(l:List α)(k:Nat):Prop:=∀j (h:j<l.length),j<k->p l[j]=false
theorem xX {α:Type}{p:α->Bool}{l:List α}:GS p l 0:=λ_ _ h=>absurd h (by omega)
theorem xY {α:Type}{p:α->Bool}{l:List α}{k:Nat}(h:GS p l k)(h1:k<l.length)(hp:p l[k]=false):GS p l (k+1):=by
 intro j j1 hj
 rcases Nat.lt_or_ge j k with A6|A6
 ·exact h j j1 A6
 ·have:j=k:=by omega
  subst this;exact hp
def rU (l:List (List UInt8))(s:List UInt8):Int:=match l.findIdx? λx=>decide (x=s) with
 |some k=>k
 |none=>-1
theorem KF {l:List (List UInt8)}{s:List UInt8}{k:Nat}(h:GS (λx=>decide (x=s)) l k)(hk:k<l.length)(e:l[k]=s):rU l s=k:=by
 have:l.findIdx? (λx=>decide (x=s))=some k:=by
  rw[List.findIdx?_eq_some_iff_getElem]
  refine⟨hk,by simpa using e,λj hj=>?_⟩
  have:=h j (by omega) hj
  simpa using this
 unfold rU
 rw[this]
theorem Dq {l:List (List UInt8)}{s:List UInt8}(h:GS (λx=>decide (x=s)) l l.length):rU l s = -1:=by
 have:l.findIdx? (λx=>decide (x=s))=none:=by
  rw[List.findIdx?_eq_none_iff]
  intro x hx
  obtain⟨j,hj,rfl⟩:=List.mem_iff_getElem.1 hx
  exact h j hj hj
 unfold rU
 rw[this]
theorem TK (l:List (List UInt8))(s:List UInt8):rU l s = -1\/∃k:Nat,rU l s=k/\k<l.length:=by
 unfold rU
 cases e:l.findIdx? λx=>decide (x=s) with
 |none=>exact .inl rfl
 |some k=>exact .inr ⟨k,rfl,(List.findIdx?_eq_some_iff_getElem.1 e).1⟩
def cH (l:List (List UInt8))(s:List UInt8)(d:Int):T3×Bool:=
 if d<0\/3<d then (T0,false) else
 if s=[105,110,116] then (⟨1,0,d⟩,true) else
 if s=[98,111,111,108] then (⟨2,0,d⟩,true) else
 if rU l s<0 then (T0,false) else (⟨3,rU l s,d⟩,true)
def vz (t:T3):Bool:=decide (t.b=3)||decide (0<t.d)
structure PD where
 name:List UInt8
 on:List UInt8
 od:Int
 at_:Int
def PD.cells (p:PD):List AV:=[.str p.name,.str p.on,.int .i64 p.od,.int .i64 p.at_]
def KG (r:List AV):Bool:=match r with | [.str _,.str _,.int .i64 d,.int .i64 a]=>RJ d&&RJ a|_=>false
def dP (r:List AV):PD:=match r with | [.str n,.str o,.int .i64 d,.int .i64 a]=>⟨n,o,d,a⟩|_=>⟨[],[],0,0⟩
theorem PO (r:List AV)(h:KG r=true):r=(dP r).cells:=by
 unfold KG at h
 split at h
 ·rfl
 ·cases h
def zz (v:AV):Bool:=kz 4 KG v
def nF (v:AV):List PD:=(aP v).map dP
theorem TM {v:AV}(h:zz v=true):aP v=(nF v).map PD.cells:=wG h PO
theorem wH {v:AV}(h:zz v=true):v.view=v:=tX h
@[simp] theorem ack (v:AV):nF v.view=nF v:=by simp[nF]
@[simp] theorem Xv {v:AV} (h:zz v=true):cI 4 v=true:=og h
@[simp] theorem BA {v:AV} (h:zz v=true):aG v=true:=mN (Xv h)
structure CR where
 name:List UInt8
 fields:AV
 at_:Int
def CR.cells (r:CR):List AV:=[.str r.name,r.fields,.int .i64 r.at_]
def Dr (r:List AV):Bool:=match r with | [.str _,f,.int .i64 a]=>zz f&&RJ a|_=>false
def dCR (r:List AV):CR:=match r with | [.str s,f,.int .i64 a]=>⟨s,f,a⟩|_=>⟨[],.U,0⟩
theorem PT (r:List AV)(h:Dr r=true):r=(dCR r).cells:=by
 unfold Dr at h
 split at h
 ·rfl
 ·cases h
def yZ (v:AV):Bool:=kz 3 Dr v
def de (v:AV):List CR:=(aP v).map dCR
theorem PU {v:AV}(h:yZ v=true):aP v=(de v).map CR.cells:=wG h PT
theorem Ds {v:AV}(h:yZ v=true):∀r∈de v,zz r.fields=true:=by
 intro r hr
 obtain⟨x,hx,rfl⟩:=List.mem_map.1 hr
 have:=vv h x hx
 unfold Dr at this
 unfold dCR
 split at this
 ·simp only[Bool.and_eq_true]at this;exact this.1
 ·cases this
theorem GU {v:AV}(h:yZ v=true):v.view=v:=tX h
@[simp] theorem Z0 (v:AV):de v.view=de v:=by simp[de]
@[simp] theorem TN {v:AV} (h:yZ v=true):cI 3 v=true:=og h
@[simp] theorem KH {v:AV} (h:yZ v=true):aG v=true:=mN (TN h)
structure FN where
 name:List UInt8
 params:AV
 has:Bool
 on:List UInt8
 od:Int
 body:AV
 at_:Int
def FN.cells (f:FN):List AV:=[.str f.name,f.params,.bool f.has,.str f.on,.int .i64 f.od,f.body,.int .i64 f.at_]
def Dt (r:List AV):Bool:=match r with | [.str _,p,.bool _,.str _,.int .i64 d,b,.int .i64 a]=>zz p&&mz b&&aG b&&RJ d&&RJ a|_=>false
def dFN (r:List AV):FN:=match r with | [.str n,p,.bool h,.str o,.int .i64 d,b,.int .i64 a]=>⟨n,p,h,o,d,b,a⟩|_=>⟨[],.U,false,[],0,.U,0⟩
theorem PW (r:List AV)(h:Dt r=true):r=(dFN r).cells:=by
 unfold Dt at h
 split at h
 ·rfl
 ·cases h
def y7 (v:AV):Bool:=kz 7 Dt v
def jh (v:AV):List FN:=(aP v).map dFN
theorem PX {v:AV}(h:y7 v=true):aP v=(jh v).map FN.cells:=wG h PW
theorem Mj {v:AV}(h:y7 v=true):∀r∈jh v,zz r.params=true/\mz r.body=true/\aG r.body=true:=by
 intro r hr
 obtain⟨x,hx,rfl⟩:=List.mem_map.1 hr
 have:=vv h x hx
 unfold Dt at this
 unfold dFN
 split at this
 ·simp only[Bool.and_eq_true]at this;exact⟨this.1.1.1.1,this.1.1.1.2,this.1.1.2⟩
 ·cases this
theorem GW {v:AV}(h:y7 v=true):v.view=v:=tX h
@[simp] theorem Z1 (v:AV):jh v.view=jh v:=by simp[jh]
@[simp] theorem TO {v:AV} (h:y7 v=true):cI 7 v=true:=og h
@[simp] theorem KI {v:AV} (h:y7 v=true):aG v=true:=mN (TO h)
structure GD where
 bw:AV
 globals:AV
 funcs:AV
def GD.cells (p:GD):List AV:=[p.bw,p.globals,p.funcs]
structure GD.ok (p:GD):Prop where
 bw:yZ p.bw=true
 globals:zz p.globals=true
 funcs:y7 p.funcs=true
def jQ (l:List CR):List (List UInt8):=l.map (·.name)
def EA (rs:List (List UInt8))(p:PD):List AV:=.str p.name::(cH rs p.on p.od).1.cells
def gw (rs:List (List UInt8))(l:List PD):List (List AV):=l.map (EA rs)
def uY (a b:Option Int):Option Int:=match a with|some x=>some x|none=>b
def wI (rs:List (List UInt8))(before:List PD)(p:PD):Option Int:=if before.any (λq=>decide (q.name=p.name)) || !(cH rs p.on p.od).2 then some p.at_ else none
def fV {α:Type}(bad:List α->α->Option Int)(l:List α):Nat->Option Int
 |0=>none
 |k+1=>uY (fV bad l k) (match l[k]? with|some x=>bad (l.take k) x|none=>none)
end V7
namespace j4
open Ax Go V7
structure Tk where
 k:Int
 t:List UInt8
 n:Int
 a:Int
def Tk.cells (x:Tk):List AV:=[.int .i64 x.k,.str x.t,.int .i64 x.n,.int .i64 x.a]
abbrev Xw:Tk:=⟨0,[],0,0⟩
structure TL (l:AV)(T:List Tk):Prop where
 sz:cI 4 l=true
 rows:aP l=T.map Tk.cells
 len:T.length<1000000000
theorem TL.sl {l:AV}{T:List Tk}(h:TL l T):aG l=true:=mN h.sz
structure RQ where
 at_:Nat
 op:Int
 fe:Int
 fa:Int
def RQ.obj (l:AV)(q:RQ):fh:=.rows 0 5 [[l,.int .i64 q.at_,.int .i64 q.op,.int .i64 q.fe,.int .i64 q.fa]]
def cur (T:List Tk)(q:RQ):Tk:=T.getD q.at_ Xw
def ig (T:List Tk)(q:RQ)(e:Int):RQ:=if q.fe=0 then ⟨q.at_,q.op,e,(cur T q).a⟩ else q
def kA (s:List UInt8):Int:=match s with|c::_=>if 97<=c.toNat/\c.toNat<=122 then 3 else 4 | []=>4
def fy (T:List Tk)(q:RQ)(s:List UInt8):Bool:=decide (q.fe=0)&&decide ((cur T q).k=kA s)&&decide ((cur T q).t=s)
def ay (q:RQ):RQ:=⟨q.at_+1,q.op,q.fe,q.fa⟩
def cC (T:List Tk)(q:RQ)(s:List UInt8):RQ:=if fy T q s then ay q else ig T q 2
def oO (q:RQ)(d:Int):RQ:=⟨q.at_,IntKind.i64.wrap (q.op+d),q.fe,q.fa⟩
def fL (T:List Tk)(q:RQ)(s:List UInt8):RQ:=if fy T q s&&decide (50<=q.op) then ig T q 4 else oO (cC T q s) 1
def jt (T:List Tk)(q:RQ)(s:List UInt8):RQ:=oO (cC T q s) (-1)
def cQ (T:List Tk)(q:RQ):List UInt8×RQ:=if q.fe=0/\(cur T q).k=1 then ((cur T q).t,ay q) else ([],ig T q 2)
def oP (T:List Tk)(q:RQ)(s:List UInt8):Nat->RQ
 |0=>q
 |k+1=>cC T (oP T q s k) s
def Du (T:List Tk):Nat->Nat->RQ->Nat×RQ
 |0,d,q=>(d,q)
 |k+1,d,q=>if fy T q [91] then Du T k (d+1) (ay q) else (d,q)
def Xx (T:List Tk)(q:RQ):List UInt8×RQ:=if fy T q [105,110,116]||fy T q [98,111,111,108] then ((cur T q).t,ay q) else cQ T q
def tY (T:List Tk)(q:RQ):(List UInt8×Int)×RQ:=
 if fy T (Du T 3 0 q).2 [91] then (([],0),ig T (Du T 3 0 q).2 4)
 else (((Xx T (Du T 3 0 q).2).1,((Du T 3 0 q).1:Int)),oP T (Xx T (Du T 3 0 q).2).2 [93] (Du T 3 0 q).1)
def aA (sz:Nat)(rows:List (List AV)):AV:=(b8 sz rows).view
inductive E where
 |mk (k n:Int) (nm on:List UInt8) (od:Int) (kids:List E) (a:Int) (ty:T3) (ref:Int)
def E.k:E->Int|.mk k _ _ _ _ _ _ _ _=>k
def E.n:E->Int|.mk _ n _ _ _ _ _ _ _=>n
def E.nm:E->List UInt8|.mk _ _ nm _ _ _ _ _ _=>nm
def E.on:E->List UInt8|.mk _ _ _ on _ _ _ _ _=>on
def E.od:E->Int|.mk _ _ _ _ od _ _ _ _=>od
def E.kids:E->List E|.mk _ _ _ _ _ kids _ _ _=>kids
def E.a:E->Int|.mk _ _ _ _ _ _ a _ _=>a
def E.ty:E->T3|.mk _ _ _ _ _ _ _ ty _=>ty
def E.ref:E->Int|.mk _ _ _ _ _ _ _ _ ref=>ref
mutual
def E.row:E->List AV
 |.mk k n nm on od kids a ty ref=>[.int .i64 k,.int .i64 n,.str nm,.str on,.int .i64 od,aA 11 (E.rows kids),.int .i64 a,.int .i64 ty.b,.int .i64 ty.r,.int .i64 ty.d,.int .i64 ref]
def E.rows:List E->List (List AV)
 |[]=>[]
 |e::l=>e.row::E.rows l
end
def Em (k n:Int)(nm on:List UInt8)(od:Int)(kids:List E)(a:Int):E:=.mk k n nm on od kids a T0 0
def aT (l:List E):AV:=aA 11 (E.rows l)
inductive Sm where
 |mk (k:Int) (nm on:List UInt8) (od:Int) (es:List E) (bd el:List Sm) (a ref:Int)
def Sm.k:Sm->Int|.mk k _ _ _ _ _ _ _ _=>k
def Sm.nm:Sm->List UInt8|.mk _ nm _ _ _ _ _ _ _=>nm
def Sm.on:Sm->List UInt8|.mk _ _ on _ _ _ _ _ _=>on
def Sm.od:Sm->Int|.mk _ _ _ od _ _ _ _ _=>od
def Sm.es:Sm->List E|.mk _ _ _ _ es _ _ _ _=>es
def Sm.bd:Sm->List Sm|.mk _ _ _ _ _ bd _ _ _=>bd
def Sm.el:Sm->List Sm|.mk _ _ _ _ _ _ el _ _=>el
def Sm.a:Sm->Int|.mk _ _ _ _ _ _ _ a _=>a
def Sm.ref:Sm->Int|.mk _ _ _ _ _ _ _ _ ref=>ref
mutual
def Sm.row:Sm->List AV
 |.mk k nm on od es bd el a ref=>[.int .i64 k,.str nm,.str on,.int .i64 od,aT es,aA 9 (Sm.rows bd),aA 9 (Sm.rows el),.int .i64 a,.int .i64 ref]
def Sm.rows:List Sm->List (List AV)
 |[]=>[]
 |s::l=>s.row::Sm.rows l
end
def br (l:List Sm):AV:=aA 9 (Sm.rows l)
structure Rc where
 name:List UInt8
 fields:List PD
 a:Int
def Rc.row (r:Rc):List AV:=[.str r.name,aA 4 (r.fields.map PD.cells),.int .i64 r.a]
structure Fc where
 name:List UInt8
 params:List PD
 has:Bool
 on:List UInt8
 od:Int
 body:List Sm
 a:Int
def Fc.row (f:Fc):List AV:=[.str f.name,aA 4 (f.params.map PD.cells),.bool f.has,.str f.on,.int .i64 f.od,br f.body,.int .i64 f.a]
structure Pg where
 bw:List Rc
 globals:List PD
 funcs:List Fc
def Pg.row (p:Pg):List AV:=[aA 3 (p.bw.map Rc.row),aA 4 (p.globals.map PD.cells),aA 7 (p.funcs.map Fc.row)]
@[simp] theorem aX {sz:Nat} {r:List (List AV)}:aG (aA sz r)=true:=by simp[aA]
@[simp] theorem aR {sz:Nat} {r:List (List AV)}:aP (aA sz r)=r:=by simp[aA]
@[simp] theorem aY {sz:Nat} {r:List (List AV)}:(aA sz r).view=aA sz r:=by
 unfold aA b8;split<;>simp[AV.view]
@[simp] theorem oh {sz:Nat} {r:List (List AV)}:(aA sz r).cv=true:=bu aX
@[simp] theorem om {sz:Nat} {r:List (List AV)}:(aA sz r).an=true:=cm aX
@[simp] theorem bg {l:List E}:aG (aT l)=true:=aX
@[simp] theorem bz {l:List E}:(aT l).view=aT l:=aY
@[simp] theorem acm {l:List E}:(aT l).cv=true:=oh
@[simp] theorem acn {l:List E}:(aT l).an=true:=om
@[simp] theorem bE {l:List Sm}:aG (br l)=true:=aX
@[simp] theorem bJ {l:List Sm}:(br l).view=br l:=aY
@[simp] theorem aco {l:List Sm}:(br l).cv=true:=oh
@[simp] theorem acp {l:List Sm}:(br l).an=true:=om
@[simp] theorem acq {sz:Nat}:aA sz []=.U:=rfl
@[simp] theorem Z2 {sz:Nat} {r:List AV} {l:List (List AV)}:aA sz (r::l)=.cN sz (r::l):=rfl
theorem gC:∀l:List E,E.rows l=l.map E.row
 |[]=>by simp[E.rows]
 |e::l=>by simp[E.rows,gC l]
theorem gi:∀l:List Sm,Sm.rows l=l.map Sm.row
 |[]=>by simp[Sm.rows]
 |e::l=>by simp[Sm.rows,gi l]
theorem nY:aT []=.U:=by simp[aT,E.rows,aA,mO,AV.view]
theorem E.aE (e:E):e.row=[.int .i64 e.k,.int .i64 e.n,.str e.nm,.str e.on,.int .i64 e.od,aT e.kids,.int .i64 e.a,.int .i64 e.ty.b,.int .i64 e.ty.r,.int .i64 e.ty.d,.int .i64 e.ref]:=by
 cases e;simp[E.row,E.k,E.n,E.nm,E.on,E.od,E.kids,E.a,E.ty,E.ref,aT]
theorem Sm.aE (s:Sm):s.row=[.int .i64 s.k,.str s.nm,.str s.on,.int .i64 s.od,aT s.es,br s.bd,br s.el,.int .i64 s.a,.int .i64 s.ref]:=by
 cases s;simp[Sm.row,Sm.k,Sm.nm,Sm.on,Sm.od,Sm.es,Sm.bd,Sm.el,Sm.a,Sm.ref,br]
def dg:Nat->List (List UInt8×Int)
 |0=>[([124,124],24)]
 |1=>[([38,38],23)]
 |2=>[([60],19),([60,61],20),([61,61],21),([33,61],22)]
 |3=>[([43],14),([45],15)]
 |_=>[([42],16),([47],17),([37],18)]
def eZ:List (List UInt8×Int)->List UInt8->Int
 |[],_=>0
 |(s,k)::r,t=>if s=t then k else eZ r t
def nG (n:Nat)(c:Tk):Int:=if c.k=4 then eZ (dg n) c.t else 0
mutual
def eO (T:List Tk):Nat->Nat->RQ->Option (E×RQ)
 |0,_,_=>none
 |f+1,n,q=>if n=5 then jB T f q else (eO T f (n+1) q).bind λx=>iJ T f n x.1 x.2
def iJ (T:List Tk):Nat->Nat->E->RQ->Option (E×RQ)
 |0,_,_,_=>none
 |f+1,n,a,q=>if q.fe=0/\nG n (cur T q)≠0 then
   (eO T f (n+1) (ay q)).bind λx=>iJ T f n (Em (nG n (cur T q)) 0 [] [] 0 [a,x.1] (cur T q).a) x.2
  else some (a,q)
def jB (T:List Tk):Nat->RQ->Option (E×RQ)
 |0,_=>none
 |f+1,q=>if fy T q [45]||fy T q [33] then
   (eO T f 5 (fL T q (cur T q).t)).bind λx=>some (Em (if fy T q [45] then 12 else 13) 0 [] [] 0 [x.1] (cur T q).a,oO x.2 (-1))
  else (jC T f q).bind λx=>eE T f x.1 x.2
def eE (T:List Tk):Nat->E->RQ->Option (E×RQ)
 |0,_,_=>none
 |f+1,a,q=>if fy T q [46] then eE T f (Em 5 0 (cQ T (ay q)).1 [] 0 [a] (cur T q).a) (cQ T (ay q)).2
  else if fy T q [91] then (eO T f 0 (fL T q [91])).bind λx=>eE T f (Em 6 0 [] [] 0 [a,x.1] (cur T q).a) (jt T x.2 [93])
  else some (a,q)
def jR (T:List Tk):Nat->RQ->Option (E×RQ)
 |0,_=>none
 |f+1,q=>(eO T f 0 (fL T q [40])).bind λx=>some (x.1,jt T x.2 [41])
def jC (T:List Tk):Nat->RQ->Option (E×RQ)
 |0,_=>none
 |f+1,q=>
  if q.fe=0/\(cur T q).k=2 then some (Em 1 (cur T q).n [] [] 0 [] (cur T q).a,ay q)
  else if fy T q [116,114,117,101]||fy T q [102,97,108,115,101] then some (Em 2 (if (cur T q).t=[116,114,117,101] then 1 else 0) [] [] 0 [] (cur T q).a,ay q)
  else if fy T q [110,117,108,108] then some (Em 3 0 [] (tY T (ay q)).1.1 (tY T (ay q)).1.2 [] (cur T q).a,(tY T (ay q)).2)
  else if fy T q [110,101,119] then kB T f (cur T q).a (ay q)
  else if fy T q [108,101,110] then (jR T f (ay q)).bind λx=>some (Em 10 0 [] [] 0 [x.1] (cur T q).a,x.2)
  else if fy T q [114,101,97,100] then some (Em 11 0 [] [] 0 [] (cur T q).a,jt T (fL T (ay q) [40]) [41])
  else if fy T q [40] then jR T f q
  else if fy T (cQ T q).2 [40] then (nL T f (cQ T q).2).bind λx=>some (Em 7 0 (cQ T q).1 [] 0 x.1 (cur T q).a,x.2)
  else some (Em 4 0 (cQ T q).1 [] 0 [] (cur T q).a,(cQ T q).2)
def kB (T:List Tk):Nat->Int->RQ->Option (E×RQ)
 |0,_,_=>none
 |f+1,a,q=>if fy T q [91] then
   (jR T f (cC T (tY T (ay q)).2 [93])).bind λx=>some (Em 9 0 [] (tY T (ay q)).1.1 (tY T (ay q)).1.2 [x.1] a,x.2)
  else some (Em 8 0 [] (cQ T q).1 0 [] a,(cQ T q).2)
def nL (T:List Tk):Nat->RQ->Option (List E×RQ)
 |0,_=>none
 |f+1,q=>if fy T (fL T q [40]) [41] then some ([],jt T (fL T q [40]) [41])
  else (eO T f 0 (fL T q [40])).bind λx=>nh T f [x.1] x.2
def nh (T:List Tk):Nat->List E->RQ->Option (List E×RQ)
 |0,_,_=>none
 |f+1,l,q=>if fy T q [44] then (eO T f 0 (ay q)).bind λx=>nh T f (l++[x.1]) x.2
  else some (l,jt T q [41])
end
def mA (T:List Tk)(f:Nat)(a:Int)(q:RQ):Option (Sm×RQ):=
 (eO T f 0 q).bind λx=>if fy T x.2 [61] then
   (eO T f 0 (cC T (if x.1.k=4\/x.1.k=5\/x.1.k=6 then x.2 else ig T x.2 2) [61])).bind λy=>
    some (if x.1.k=4 then .mk 3 x.1.nm [] 0 [y.1] [] [] a 0 else .mk 4 [] [] 0 [x.1,y.1] [] [] a 0,cC T y.2 [59])
  else some (.mk 9 [] [] 0 [x.1] [] [] a 0,cC T (if fy T x.2 [59]=true/\x.1.k≠7 then ig T x.2 2 else x.2) [59])
def cJ (T:List Tk)(q:RQ):PD×RQ:=
 (⟨(cQ T q).1,(tY T (cC T (cQ T q).2 [58])).1.1,(tY T (cC T (cQ T q).2 [58])).1.2,(cur T q).a⟩,(tY T (cC T (cQ T q).2 [58])).2)
mutual
def oQ (T:List Tk):Nat->RQ->Option (Sm×RQ)
 |0,_=>none
 |f+1,q=>
  if fy T q [118,97,114] then
   some (.mk 1 (cJ T (ay q)).1.name (cJ T (ay q)).1.on (cJ T (ay q)).1.od [] [] [] (cur T q).a 0,cC T (cJ T (ay q)).2 [59])
  else if fy T q [108,101,116] then (eO T f 0 (cC T (cJ T (ay q)).2 [61])).bind λx=>
   some (.mk 2 (cJ T (ay q)).1.name (cJ T (ay q)).1.on (cJ T (ay q)).1.od [x.1] [] [] (cur T q).a 0,cC T x.2 [59])
  else if fy T q [105,102] then (eO T f 0 (ay q)).bind λx=>(gT T f x.2).bind λy=>
   if fy T y.2 [101,108,115,101] then (gT T f (ay y.2)).bind λz=>some (.mk 5 [] [] 0 [x.1] y.1 z.1 (cur T q).a 0,z.2)
   else some (.mk 5 [] [] 0 [x.1] y.1 [] (cur T q).a 0,y.2)
  else if fy T q [119,104,105,108,101] then (eO T f 0 (ay q)).bind λx=>(gT T f x.2).bind λy=>
   some (.mk 6 [] [] 0 [x.1] y.1 [] (cur T q).a 0,y.2)
  else if fy T q [114,101,116,117,114,110] then
   if fy T (ay q) [59] then some (.mk 7 [] [] 0 [] [] [] (cur T q).a 0,cC T (ay q) [59])
   else (eO T f 0 (ay q)).bind λx=>some (.mk 7 [] [] 0 [x.1] [] [] (cur T q).a 0,cC T x.2 [59])
  else if fy T q [112,114,105,110,116] then (eO T f 0 (ay q)).bind λx=>some (.mk 8 [] [] 0 [x.1] [] [] (cur T q).a 0,cC T x.2 [59])
  else mA T f (cur T q).a q
def gT (T:List Tk):Nat->RQ->Option (List Sm×RQ)
 |0,_=>none
 |f+1,q=>jS T f [] (fL T q [123])
def jS (T:List Tk):Nat->List Sm->RQ->Option (List Sm×RQ)
 |0,_,_=>none
 |f+1,l,q=>if q.fe=0/\fy T q [125]=false then (oQ T f q).bind λx=>jS T f (l++[x.1]) x.2
  else some (l,jt T q [125])
end
def iD (T:List Tk):Nat->List PD->RQ->Option (List PD×RQ)
 |0,_,_=>none
 |f+1,l,q=>if q.fe=0/\fy T q [125]=false then
   if (cur T q).k=1/\l.length=8 then some (l,ig T q 4)
   else iD T f (l++[(cJ T q).1]) (cC T (cJ T q).2 [59])
  else some (l,q)
def lH (T:List Tk)(f:Nat)(q:RQ):Option (Rc×RQ):=
 (iD T f [] (cC T (cQ T q).2 [123])).bind λx=>some (⟨(cQ T q).1,x.1,(cur T q).a⟩,cC T x.2 [125])
def rq (T:List Tk)(q:RQ):RQ:=if fy T q [41] then q else if fy T (cC T q [44]) [41] then ig T (cC T q [44]) 2 else cC T q [44]
def gY (T:List Tk):Nat->List PD->RQ->Option (List PD×RQ)
 |0,_,_=>none
 |f+1,l,q=>if q.fe=0/\fy T q [41]=false then
   if (cur T q).k=1/\l.length=6 then some (l,ig T q 4)
   else gY T f (l++[(cJ T q).1]) (rq T (cJ T q).2)
  else some (l,q)
def qB (T:List Tk)(f:Nat)(q:RQ):Option (Fc×RQ):=
 (gY T f [] (cC T (cQ T q).2 [40])).bind λx=>
  if fy T (cC T x.2 [41]) [58] then
   (gT T f (tY T (ay (cC T x.2 [41]))).2).bind λy=>some (⟨(cQ T q).1,x.1,true,(tY T (ay (cC T x.2 [41]))).1.1,(tY T (ay (cC T x.2 [41]))).1.2,y.1,(cur T q).a⟩,y.2)
  else (gT T f (cC T x.2 [41])).bind λy=>some (⟨(cQ T q).1,x.1,false,[],0,y.1,(cur T q).a⟩,y.2)
def TP:List UInt8:=[114,101,99,111,114,100]
def KJ:List UInt8:=[103,108,111,98,97,108]
def KK:List UInt8:=[102,117,110,99]
def gb (T:List Tk):Nat->Pg->RQ->Option (Pg×RQ)
 |0,_,_=>none
 |f+1,p,q=>if q.fe=0/\(cur T q).k≠0 then
   if fy T q TP=true/\p.bw.length=12\/fy T q KJ=true/\p.globals.length=8\/fy T q KK=true/\p.funcs.length=16 then gb T f p (ig T q 4)
   else if fy T q TP then (lH T f (ay q)).bind λx=>gb T f ⟨p.bw++[x.1],p.globals,p.funcs⟩ x.2
   else if fy T q KJ then gb T f ⟨p.bw,p.globals++[(cJ T (ay q)).1],p.funcs⟩ (cC T (cJ T (ay q)).2 [59])
   else if fy T q KK then (qB T f (ay q)).bind λx=>gb T f ⟨p.bw,p.globals,p.funcs++[x.1]⟩ x.2
   else gb T f p (ig T q 2)
  else some (p,q)
def zY:Pg:=⟨[],[],[]⟩
def oR (T:List Tk)(f:Nat):Option (Pg×Int×Int):=
 (gb T f zY ⟨0,0,0,0⟩).bind λx=>some (if x.2.fe=0 then (x.1,0,0) else (zY,x.2.fe,x.2.fa))
end j4
namespace j4
open Ax Go V7
structure Good (T:List Tk)(q r:RQ):Prop where
 le:q.at_<=r.at_
 ub:q.at_<=T.length->r.at_<=T.length
 bad:q.fe≠0->r.fe=q.fe/\r.at_=q.at_
theorem Good.refl (T:List Tk)(q:RQ):Good T q q:=⟨Nat.le_refl _,id,λ_=>⟨rfl,rfl⟩⟩
theorem Good.trans {T:List Tk}{q r s:RQ}(h:Good T q r)(k:Good T r s):Good T q s:=
 ⟨Nat.le_trans h.le k.le,λu=>k.ub (h.ub u),λb=>by
  obtain⟨a1,a2⟩:=h.bad b
  obtain⟨b1,b2⟩:=k.bad (by rw[a1];exact b)
  exact⟨b1.trans a1,b2.trans a2⟩⟩
theorem Good.l5 {T:List Tk}{q r:RQ}(h:Good T q r)(f:r.fe=0):q.fe=0:=by
 apply Classical.byContradiction
 intro hn
 have:=(h.bad hn).1
 rw[f]at this
 exact hn this.symm
theorem qc {T:List Tk}{q:RQ}(h:(cur T q).k≠0):q.at_<T.length:=by
 apply Classical.byContradiction
 intro hn
 rw[cur,List.getD,List.getElem?_eq_none (by omega)]at h
 exact h rfl
theorem Dv (s:List UInt8):kA s≠0:=by
 unfold kA
 split
 ·split<;>decide
 ·decide
theorem aV {T:List Tk}{q:RQ}{s:List UInt8}(h:fy T q s=true):q.fe=0/\q.at_<T.length:=by
 simp only[fy,Bool.and_eq_true,decide_eq_true_eq]at h
 exact⟨h.1.1,qc (by rw[h.1.2];exact Dv s)⟩
theorem Dw {T:List Tk}{q:RQ}{s:List UInt8}(h:fy T q s=true):(cur T q).t=s:=by
 simp only[fy,Bool.and_eq_true,decide_eq_true_eq]at h
 exact h.2
theorem TQ {T:List Tk}{q:RQ}{s:List UInt8}(h:q.fe≠0):fy T q s=false:=by simp[fy,h]
theorem wJ {T:List Tk}{q:RQ}{n:Nat}(h:nG n (cur T q)≠0):q.at_<T.length:=qc (by
 unfold nG at h
 split at h
 ·rename_i e;rw[e];decide
 ·exact absurd rfl h)
theorem bN {T:List Tk}{q:RQ}(h:q.fe=0)(h2:q.at_<T.length):Good T q (ay q):=⟨Nat.le_succ _,λ_=>h2,λb=>absurd h b⟩
theorem dH {T:List Tk}{q:RQ}{e:Int}:Good T q (ig T q e):=by
 unfold ig
 split
 ·rename_i h;exact⟨Nat.le_refl _,id,λb=>absurd h b⟩
 ·exact Good.refl T q
theorem tZ {T:List Tk}{q:RQ}{d:Int}:Good T q (oO q d):=⟨Nat.le_refl _,id,λ_=>⟨rfl,rfl⟩⟩
theorem aJ {T:List Tk}{q:RQ}{s:List UInt8}:Good T q (cC T q s):=by
 unfold cC
 split
 ·rename_i h;exact bN (aV h).1 (aV h).2
 ·exact dH
theorem ee {T:List Tk}{q:RQ}{s:List UInt8}:Good T q (fL T q s):=by
 unfold fL
 split
 ·exact dH
 ·exact aJ.trans tZ
theorem cz {T:List Tk}{q:RQ}{s:List UInt8}:Good T q (jt T q s):=aJ.trans tZ
theorem gf {T:List Tk}{q:RQ}:Good T q (cQ T q).2:=by
 unfold cQ
 split
 ·rename_i h;exact bN h.1 (qc (by rw[h.2];decide))
 ·exact dH
theorem BB {T:List Tk}{q:RQ}{s:List UInt8}:∀k,Good T q (oP T q s k)
 |0=>Good.refl T q
 |k+1=>(BB k).trans aJ
theorem BD {T:List Tk}:∀(k d:Nat)(q:RQ),Good T q (Du T k d q).2/\(Du T k d q).1<=d+k/\d<=(Du T k d q).1
 |0,d,q=>⟨Good.refl T q,Nat.le_refl _,Nat.le_refl _⟩
 |k+1,d,q=>by
  unfold Du
  split
  ·rename_i h
   obtain⟨h1,h2,h3⟩:=BD (T:=T) k (d+1) (ay q)
   exact⟨(bN (aV h).1 (aV h).2).trans h1,by omega,by omega⟩
  ·exact⟨Good.refl T q,by simp,Nat.le_refl _⟩
theorem PY {T:List Tk}{q:RQ}:Good T q (Xx T q).2:=by
 unfold Xx
 split
 ·rename_i h
  rw[Bool.or_eq_true]at h
  rcases h with h|h<;>exact bN (aV h).1 (aV h).2
 ·exact gf
theorem lI {T:List Tk}{q:RQ}:Good T q (tY T q).2:=by
 unfold tY
 have h:=(BD (T:=T) 3 0 q).1
 split
 ·exact h.trans dH
 ·exact(h.trans PY).trans (BB _)
theorem Jq {T:List Tk}{q:RQ}:0<=(tY T q).1.2/\(tY T q).1.2<=3:=by
 have h:=(BD (T:=T) 3 0 q).2.1
 unfold tY
 split
 ·exact⟨Int.le_refl _,by show (0:Int)<=3;decide⟩
 ·refine⟨Int.natCast_nonneg _,?_⟩
  simp only
  omega
theorem gj {T:List Tk}{q:RQ}:Good T q (cJ T q).2:=(gf.trans aJ).trans lI
def mu (T:List Tk)(q:RQ):Nat:=if q.fe=0 then T.length-q.at_+1 else 0
theorem jT {T:List Tk}{q r:RQ}(h:Good T q r):mu T r<=mu T q:=by
 unfold mu
 by_cases f:q.fe=0
 ·rw[if_pos f]
  split
  ·have:=h.le;omega
  ·omega
 ·obtain⟨a1,_⟩:=h.bad f
  rw[a1,if_neg f,if_neg f]
  exact Nat.le_refl _
def ru (T:List Tk)(q r:RQ):Prop:=r.fe≠0\/q.at_<T.length/\q.at_<r.at_
theorem BE {T:List Tk}{q r:RQ}(f:q.fe=0)(w:ru T q r):mu T r<mu T q:=by
 unfold mu
 rw[if_pos f]
 rcases w with w|⟨w,v⟩
 ·rw[if_neg w];omega
 ·split<;>omega
theorem lJ {T:List Tk}{q r:RQ}(h:Good T q r)(w:ru T q r):mu T r<=mu T q-1:=by
 by_cases f:q.fe=0
 ·have:=BE f w;omega
 ·have h0:mu T q=0:=by unfold mu;rw[if_neg f]
  have:=jT h
  omega
theorem oS {T:List Tk}{q:RQ}(f:q.fe=0):0<mu T q:=by unfold mu;rw[if_pos f];omega
theorem iX {T:List Tk}{q:RQ}{e:Int}(he:e≠0):(ig T q e).fe≠0:=by
 unfold ig
 split
 ·exact he
 ·assumption
theorem j5 {T:List Tk}{q:RQ}(h:q.at_<T.length):ru T q (ay q):=.inr ⟨h,Nat.lt_succ_self _⟩
theorem iY {T:List Tk}{q:RQ}{s:List UInt8}:ru T q (cC T q s):=by
 unfold cC
 split
 ·rename_i h;exact j5 (aV h).2
 ·exact .inl (iX (by decide))
theorem ju {T:List Tk}{q:RQ}{s:List UInt8}:ru T q (fL T q s):=by
 unfold fL
 split
 ·exact .inl (iX (by decide))
 ·exact iY
theorem mB {T:List Tk}{q:RQ}:ru T q (cQ T q).2:=by
 unfold cQ
 split
 ·rename_i h;exact j5 (qc (by rw[h.2];decide))
 ·exact .inl (iX (by decide))
theorem ru.trans {T:List Tk}{q r s:RQ}(w:ru T q r)(h:Good T r s):ru T q s:=by
 rcases w with w|⟨w,v⟩
 ·exact .inl (by rw[(h.bad w).1];exact w)
 ·exact .inr ⟨w,Nat.lt_of_lt_of_le v h.le⟩
theorem Good.EB {T:List Tk}{q r s:RQ}(h:Good T q r)(w:ru T r s):ru T q s:=by
 rcases w with w|⟨w,v⟩
 ·exact .inl w
 ·exact .inr ⟨Nat.lt_of_le_of_lt h.le w,Nat.lt_of_le_of_lt h.le v⟩
theorem ry {T:List Tk}{q:RQ}:ru T q (cJ T q).2:=(mB.trans aJ).trans lI
theorem jU (T:List Tk):∀f:Nat,(∀n q e r,eO T f n q=some (e,r)->Good T q r)/\(∀n a q e r,iJ T f n a q=some (e,r)->Good T q r)/\
  (∀q e r,jB T f q=some (e,r)->Good T q r)/\(∀a q e r,eE T f a q=some (e,r)->Good T q r)/\(∀q e r,jR T f q=some (e,r)->Good T q r)/\
  (∀q e r,jC T f q=some (e,r)->Good T q r)/\(∀a q e r,kB T f a q=some (e,r)->Good T q r)/\(∀q e r,nL T f q=some (e,r)->Good T q r)/\
  (∀l q e r,nh T f l q=some (e,r)->Good T q r)
 |0=>by simp[eO,iJ,jB,eE,jR,jC,kB,nL,nh]
 |f+1=>by
  obtain⟨hE,hS,hU,hB,hI,hF,hN,hA,hM⟩:=jU T f
  refine⟨λn q e r h=>?_,λn a q e r h=>?_,λq e r h=>?_,λa q e r h=>?_,λq e r h=>?_,λq e r h=>?_,λa q e r h=>?_,λq e r h=>?_,λl q e r h=>?_⟩
  ·unfold eO at h
   split at h
   ·exact hU _ _ _ h
   ·obtain⟨⟨x1,x2⟩,h1,h2⟩:=Option.bind_eq_some_iff.1 h
    exact(hE _ _ _ _ h1).trans (hS _ _ _ _ _ h2)
  ·unfold iJ at h
   split at h
   ·rename_i c
    obtain⟨⟨x1,x2⟩,h1,h2⟩:=Option.bind_eq_some_iff.1 h
    exact((bN c.1 (wJ c.2)).trans (hE _ _ _ _ h1)).trans (hS _ _ _ _ _ h2)
   ·cases h;exact Good.refl _ _
  ·unfold jB at h
   split at h
   ·obtain⟨⟨x1,x2⟩,h1,h2⟩:=Option.bind_eq_some_iff.1 h
    cases h2
    exact(ee.trans (hE _ _ _ _ h1)).trans tZ
   ·obtain⟨⟨x1,x2⟩,h1,h2⟩:=Option.bind_eq_some_iff.1 h
    exact(hF _ _ _ h1).trans (hB _ _ _ _ h2)
  ·unfold eE at h
   split at h
   ·rename_i c
    exact((bN (aV c).1 (aV c).2).trans gf).trans (hB _ _ _ _ h)
   ·split at h
    ·obtain⟨⟨x1,x2⟩,h1,h2⟩:=Option.bind_eq_some_iff.1 h
     exact((ee.trans (hE _ _ _ _ h1)).trans cz).trans (hB _ _ _ _ h2)
    ·cases h;exact Good.refl _ _
  ·unfold jR at h
   obtain⟨⟨x1,x2⟩,h1,h2⟩:=Option.bind_eq_some_iff.1 h
   cases h2
   exact(ee.trans (hE _ _ _ _ h1)).trans cz
  ·unfold jC at h
   split at h
   ·rename_i c;cases h;exact bN c.1 (qc (by rw[c.2];decide))
   split at h
   ·rename_i c;cases h
    rw[Bool.or_eq_true]at c
    rcases c with c|c<;>exact bN (aV c).1 (aV c).2
   split at h
   ·rename_i c;cases h;exact(bN (aV c).1 (aV c).2).trans lI
   split at h
   ·rename_i c;exact(bN (aV c).1 (aV c).2).trans (hN _ _ _ _ h)
   split at h
   ·rename_i c
    obtain⟨⟨x1,x2⟩,h1,h2⟩:=Option.bind_eq_some_iff.1 h
    cases h2
    exact(bN (aV c).1 (aV c).2).trans (hI _ _ _ h1)
   split at h
   ·rename_i c;cases h;exact((bN (aV c).1 (aV c).2).trans ee).trans cz
   split at h
   ·exact hI _ _ _ h
   split at h
   ·obtain⟨⟨x1,x2⟩,h1,h2⟩:=Option.bind_eq_some_iff.1 h
    cases h2
    exact gf.trans (hA _ _ _ h1)
   ·cases h;exact gf
  ·unfold kB at h
   split at h
   ·rename_i c
    obtain⟨⟨x1,x2⟩,h1,h2⟩:=Option.bind_eq_some_iff.1 h
    cases h2
    exact(((bN (aV c).1 (aV c).2).trans lI).trans aJ).trans (hI _ _ _ h1)
   ·cases h;exact gf
  ·unfold nL at h
   split at h
   ·cases h;exact ee.trans cz
   ·obtain⟨⟨x1,x2⟩,h1,h2⟩:=Option.bind_eq_some_iff.1 h
    exact(ee.trans (hE _ _ _ _ h1)).trans (hM _ _ _ _ h2)
  ·unfold nh at h
   split at h
   ·rename_i c
    obtain⟨⟨x1,x2⟩,h1,h2⟩:=Option.bind_eq_some_iff.1 h
    exact((bN (aV c).1 (aV c).2).trans (hE _ _ _ _ h1)).trans (hM _ _ _ _ h2)
   ·cases h;exact cz
theorem dJ {T:List Tk}{f n:Nat}{q r:RQ}{e:E}(h:eO T f n q=some (e,r)):Good T q r:=(jU T f).1 _ _ _ _ h
theorem bind_some {α β:Type}{x:Option α}{g:α->Option β}(h1:∃a,x=some a)(h2:∀a,x=some a->∃b,g a=some b):∃b,x.bind g=some b:=by
 obtain⟨a,ha⟩:=h1
 obtain⟨b,hb⟩:=h2 a ha
 exact⟨b,by rw[ha];exact hb⟩
theorem GX (T:List Tk):∀f:Nat,(∀n q,n<=5->40*mu T q+12<=f+n->∃x,eO T f n q=some x)/\(∀n a q,n<5->40*mu T q+1<=f->∃x,iJ T f n a q=some x)/\
  (∀q,40*mu T q+6<=f->∃x,jB T f q=some x)/\(∀a q,40*mu T q+1<=f->∃x,eE T f a q=some x)/\(∀q,40*(mu T q-1)+13<=f->∃x,jR T f q=some x)/\
  (∀q,40*mu T q+5<=f->∃x,jC T f q=some x)/\(∀a q,40*mu T q+15<=f->∃x,kB T f a q=some x)/\(∀q,40*(mu T q-1)+13<=f->∃x,nL T f q=some x)/\
  (∀l q,40*mu T q+1<=f->∃x,nh T f l q=some x)
 |0=>by
  refine⟨λn q h1 h2=>?_,λn a q h1 h2=>?_,λq h=>?_,λa q h=>?_,λq h=>?_,λq h=>?_,λa q h=>?_,λq h=>?_,λl q h=>?_⟩<;>omega
 |f+1=>by
  obtain⟨hE,hS,hU,hB,hI,hF,hN,hA,hM⟩:=GX T f
  obtain⟨gE,gS,gU,gB,gI,gF,gN,gA,gM⟩:=jU T f
  refine⟨λn q h1 h2=>?_,λn a q h1 h2=>?_,λq h=>?_,λa q h=>?_,λq h=>?_,λq h=>?_,λa q h=>?_,λq h=>?_,λl q h=>?_⟩
  ·unfold eO
   split
   ·exact hU _ (by omega)
   ·refine bind_some (hE _ _ (by omega) (by omega)) λ⟨x1,x2⟩ h3=>?_
    try dsimp only
    have:=jT (gE _ _ _ _ h3)
    exact hS _ _ _ (by omega) (by omega)
  ·unfold iJ
   split
   ·rename_i c
    have m1:=lJ (bN c.1 (wJ c.2)) (j5 (wJ c.2))
    have m0:=oS (T:=T) c.1
    refine bind_some (hE _ _ (by omega) (by omega)) λ⟨x1,x2⟩ h3=>?_
    try dsimp only
    have:=jT (gE _ _ _ _ h3)
    exact hS _ _ _ (by omega) (by omega)
   ·exact⟨_,rfl⟩
  ·unfold jB
   split
   ·rename_i c
    rw[Bool.or_eq_true]at c
    have c0:q.fe=0:=by rcases c with c|c<;>exact(aV c).1
    have m1:=lJ (T:=T) (q:=q) (ee (s:=(cur T q).t)) ju
    have m0:=oS (T:=T) c0
    exact bind_some (hE _ _ (by omega) (by omega)) λx _=>⟨_,rfl⟩
   ·refine bind_some (hF _ (by omega)) λ⟨x1,x2⟩ h3=>?_
    try dsimp only
    have:=jT (gF _ _ _ h3)
    exact hB _ _ (by omega)
  ·unfold eE
   split
   ·rename_i c
    have m1:=lJ ((bN (aV c).1 (aV c).2).trans gf) ((j5 (aV c).2).trans gf)
    have m0:=oS (T:=T) (aV c).1
    exact hB _ _ (by omega)
   ·split
    ·rename_i c
     have m0:=oS (T:=T) (aV c).1
     have m1:=lJ (T:=T) (q:=q) (ee (s:=[91])) ju
     refine bind_some (hE _ _ (by omega) (by omega)) λ⟨x1,x2⟩ h3=>?_
     try dsimp only
     have m2:=jT ((gE _ _ _ _ h3).trans (cz (s:=[93])))
     exact hB _ _ (by omega)
    ·exact⟨_,rfl⟩
  ·unfold jR
   have m1:=lJ (T:=T) (q:=q) (ee (s:=[40])) ju
   exact bind_some (hE _ _ (by omega) (by omega)) λx _=>⟨_,rfl⟩
  ·unfold jC
   split
   ·exact⟨_,rfl⟩
   split
   ·exact⟨_,rfl⟩
   split
   ·exact⟨_,rfl⟩
   split
   ·rename_i c
    have m1:=lJ (bN (aV c).1 (aV c).2) (j5 (aV c).2)
    have m0:=oS (T:=T) (aV c).1
    exact hN _ _ (by omega)
   split
   ·rename_i c
    have m1:=lJ (bN (aV c).1 (aV c).2) (j5 (aV c).2)
    have m0:=oS (T:=T) (aV c).1
    exact bind_some (hI _ (by omega)) λx _=>⟨_,rfl⟩
   split
   ·exact⟨_,rfl⟩
   split
   ·rename_i c
    have m0:=oS (T:=T) (aV c).1
    exact hI _ (by omega)
   split
   ·rename_i c
    have m0:=oS (T:=T) (aV c).1
    have m1:=jT (T:=T) (q:=q) gf
    exact bind_some (hA _ (by omega)) λx _=>⟨_,rfl⟩
   ·exact⟨_,rfl⟩
  ·unfold kB
   split
   ·rename_i c
    have m1:=jT (((bN (aV c).1 (aV c).2).trans lI).trans (aJ (s:=[93])))
    exact bind_some (hI _ (by omega)) λx _=>⟨_,rfl⟩
   ·exact⟨_,rfl⟩
  ·unfold nL
   split
   ·exact⟨_,rfl⟩
   ·have m1:=lJ (T:=T) (q:=q) (ee (s:=[40])) ju
    refine bind_some (hE _ _ (by omega) (by omega)) λ⟨x1,x2⟩ h3=>?_
    try dsimp only
    have:=jT (gE _ _ _ _ h3)
    exact hM _ _ (by omega)
  ·unfold nh
   split
   ·rename_i c
    have m1:=lJ (bN (aV c).1 (aV c).2) (j5 (aV c).2)
    have m0:=oS (T:=T) (aV c).1
    refine bind_some (hE _ _ (by omega) (by omega)) λ⟨x1,x2⟩ h3=>?_
    try dsimp only
    have:=jT (gE _ _ _ _ h3)
    exact hM _ _ (by omega)
   ·exact⟨_,rfl⟩
theorem mC {T:List Tk}{f:Nat}{q:RQ}(h:40*mu T q+12<=f):∃x,eO T f 0 q=some x:=(GX T f).1 0 q (by omega) (by omega)
theorem Jr {T:List Tk}{f:Nat}{a:Int}{q r:RQ}{s:Sm}(h:mA T f a q=some (s,r)):Good T q r/\ru T q r:=by
 unfold mA at h
 obtain⟨⟨x1,x2⟩,h1,h2⟩:=Option.bind_eq_some_iff.1 h
 have g1:=dJ h1
 dsimp only at h2
 split at h2
 ·obtain⟨⟨y1,y2⟩,h3,h4⟩:=Option.bind_eq_some_iff.1 h2
  cases h4
  have g2:Good T x2 (cC T (if x1.k=4\/x1.k=5\/x1.k=6 then x2 else ig T x2 2) [61]):=by
   refine Good.trans ?_ aJ
   split
   ·exact Good.refl _ _
   ·exact dH
  have g3:=(g1.trans g2).trans (dJ h3)
  exact⟨g3.trans aJ,g3.EB iY⟩
 ·cases h2
  have g2:Good T x2 (if fy T x2 [59]=true/\x1.k≠7 then ig T x2 2 else x2):=by
   split
   ·exact dH
   ·exact Good.refl _ _
  exact⟨(g1.trans g2).trans aJ,(g1.trans g2).EB iY⟩
theorem kR (T:List Tk):∀f:Nat,(∀q s r,oQ T f q=some (s,r)->Good T q r/\ru T q r)/\(∀q s r,gT T f q=some (s,r)->Good T q r/\ru T q r)/\
  (∀l q s r,jS T f l q=some (s,r)->Good T q r)
 |0=>by simp[oQ,gT,jS]
 |f+1=>by
  obtain⟨hS,hB,hL⟩:=kR T f
  refine⟨λq s r h=>?_,λq s r h=>?_,λl q s r h=>?_⟩
  ·unfold oQ at h
   split at h
   ·rename_i c;cases h
    have g:=(bN (aV c).1 (aV c).2).trans gj
    exact⟨g.trans aJ,g.EB iY⟩
   split at h
   ·rename_i c
    obtain⟨⟨x1,x2⟩,h1,h2⟩:=Option.bind_eq_some_iff.1 h
    cases h2
    have g:=(((bN (aV c).1 (aV c).2).trans gj).trans aJ).trans (dJ h1)
    exact⟨g.trans aJ,g.EB iY⟩
   split at h
   ·rename_i c
    obtain⟨⟨x1,x2⟩,h1,h2⟩:=Option.bind_eq_some_iff.1 h
    obtain⟨⟨y1,y2⟩,h3,h4⟩:=Option.bind_eq_some_iff.1 h2
    have g1:=(bN (aV c).1 (aV c).2).trans (dJ h1)
    have g:=g1.trans (hB _ _ _ h3).1
    have w:=g1.EB (hB _ _ _ h3).2
    dsimp only at h4
    split at h4
    ·rename_i d
     obtain⟨⟨z1,z2⟩,h5,h6⟩:=Option.bind_eq_some_iff.1 h4
     cases h6
     have g2:=(bN (aV d).1 (aV d).2).trans (hB _ _ _ h5).1
     exact⟨g.trans g2,w.trans g2⟩
    ·cases h4;exact⟨g,w⟩
   split at h
   ·rename_i c
    obtain⟨⟨x1,x2⟩,h1,h2⟩:=Option.bind_eq_some_iff.1 h
    obtain⟨⟨y1,y2⟩,h3,h4⟩:=Option.bind_eq_some_iff.1 h2
    cases h4
    have g1:=(bN (aV c).1 (aV c).2).trans (dJ h1)
    exact⟨g1.trans (hB _ _ _ h3).1,g1.EB (hB _ _ _ h3).2⟩
   split at h
   ·rename_i c
    have g1:=bN (aV c).1 (aV c).2
    split at h
    ·cases h;exact⟨g1.trans aJ,g1.EB iY⟩
    ·obtain⟨⟨x1,x2⟩,h1,h2⟩:=Option.bind_eq_some_iff.1 h
     cases h2
     have g:=g1.trans (dJ h1)
     exact⟨g.trans aJ,g.EB iY⟩
   split at h
   ·rename_i c
    obtain⟨⟨x1,x2⟩,h1,h2⟩:=Option.bind_eq_some_iff.1 h
    cases h2
    have g:=(bN (aV c).1 (aV c).2).trans (dJ h1)
    exact⟨g.trans aJ,g.EB iY⟩
   ·exact Jr h
  ·unfold gT at h
   have g:=hL _ _ _ _ h
   exact⟨ee.trans g,ju.trans g⟩
  ·unfold jS at h
   split at h
   ·obtain⟨⟨x1,x2⟩,h1,h2⟩:=Option.bind_eq_some_iff.1 h
    exact(hS _ _ _ h1).1.trans (hL _ _ _ _ h2)
   ·cases h;exact cz
theorem Js {T:List Tk}{f:Nat}{a:Int}{q:RQ}(h:40*mu T q+12<=f):∃x,mA T f a q=some x:=by
 unfold mA
 refine bind_some (mC h) λ⟨x1,x2⟩ h1=>?_
 try dsimp only
 have m1:=jT (dJ h1)
 split
 ·have g2:Good T x2 (cC T (if x1.k=4\/x1.k=5\/x1.k=6 then x2 else ig T x2 2) [61]):=by
   refine Good.trans ?_ aJ
   split
   ·exact Good.refl _ _
   ·exact dH
  have m2:=jT g2
  exact bind_some (mC (by omega)) λx _=>⟨_,rfl⟩
 ·exact⟨_,rfl⟩
theorem BF (T:List Tk):∀f:Nat,(∀q,40*mu T q+15<=f->∃x,oQ T f q=some x)/\(∀q,40*(mu T q-1)+18<=f->∃x,gT T f q=some x)/\
  (∀l q,40*mu T q+17<=f->∃x,jS T f l q=some x)
 |0=>by refine⟨λq h=>?_,λq h=>?_,λl q h=>?_⟩<;>omega
 |f+1=>by
  obtain⟨hS,hB,hL⟩:=BF T f
  obtain⟨gS,gB,gL⟩:=kR T f
  refine⟨λq h=>?_,λq h=>?_,λl q h=>?_⟩
  ·have one:∀s,fy T q s=true->mu T (ay q)<=mu T q-1/\0<mu T q:=λs c=>⟨lJ (bN (aV c).1 (aV c).2) (j5 (aV c).2),oS (aV c).1⟩
   unfold oQ
   split
   ·exact⟨_,rfl⟩
   split
   ·rename_i c
    have m0:=one _ c
    have m1:=jT (T:=T) (q:=ay q) (gj.trans (aJ (s:=[61])))
    exact bind_some (mC (by omega)) λx _=>⟨_,rfl⟩
   split
   ·rename_i c
    have m0:=one _ c
    refine bind_some (mC (by omega)) λ⟨x1,x2⟩ h1=>?_
    try dsimp only
    have m1:=jT (dJ h1)
    refine bind_some (hB _ (by omega)) λ⟨y1,y2⟩ h2=>?_
    try dsimp only
    have m2:=jT (gB _ _ _ h2).1
    split
    ·rename_i d
     have m3:=jT (bN (aV d).1 (aV d).2)
     exact bind_some (hB _ (by omega)) λx _=>⟨_,rfl⟩
    ·exact⟨_,rfl⟩
   split
   ·rename_i c
    have m0:=one _ c
    refine bind_some (mC (by omega)) λ⟨x1,x2⟩ h1=>?_
    try dsimp only
    have m1:=jT (dJ h1)
    exact bind_some (hB _ (by omega)) λx _=>⟨_,rfl⟩
   split
   ·rename_i c
    have m0:=one _ c
    split
    ·exact⟨_,rfl⟩
    ·exact bind_some (mC (by omega)) λx _=>⟨_,rfl⟩
   split
   ·rename_i c
    have m0:=one _ c
    exact bind_some (mC (by omega)) λx _=>⟨_,rfl⟩
   ·exact Js (by omega)
  ·unfold gT
   have m1:=lJ (T:=T) (q:=q) (ee (s:=[123])) ju
   exact hL _ _ (by omega)
  ·unfold jS
   split
   ·rename_i c
    refine bind_some (hS _ (by omega)) λ⟨x1,x2⟩ h1=>?_
    try dsimp only
    have m1:=BE c.1 (gS _ _ _ h1).2
    exact hL _ _ (by omega)
   ·exact⟨_,rfl⟩
theorem kS {T:List Tk}{f:Nat}{q r:RQ}{s:List Sm}(h:gT T f q=some (s,r)):Good T q r/\ru T q r:=(kR T f).2.1 _ _ _ h
theorem BG {T:List Tk}{f:Nat}{q:RQ}(h:40*mu T q+18<=f):∃x,gT T f q=some x:=(BF T f).2.1 _ (by omega)
theorem y8 (T:List Tk):∀(f:Nat)(l:List PD)(q:RQ)(s:List PD)(r:RQ),iD T f l q=some (s,r)->Good T q r
 |0,_,_,_,_,h=>by simp[iD]at h
 |f+1,l,q,s,r,h=>by
  unfold iD at h
  split at h
  ·split at h
   ·cases h;exact dH
   ·exact(gj.trans aJ).trans (y8 T f _ _ _ _ h)
  ·cases h;exact Good.refl _ _
theorem y9 (T:List Tk):∀(f:Nat)(l:List PD)(q:RQ),mu T q<f->∃x,iD T f l q=some x
 |0,_,_,h=>absurd h (by omega)
 |f+1,l,q,h=>by
  unfold iD
  split
  ·rename_i c
   split
   ·exact⟨_,rfl⟩
   ·have:=BE c.1 ((ry (T:=T) (q:=q)).trans (aJ (s:=[59])))
    exact y9 T f _ _ (by omega)
  ·exact⟨_,rfl⟩
theorem sW {T:List Tk}{f:Nat}{q r:RQ}{s:Rc}(h:lH T f q=some (s,r)):Good T q r/\ru T q r:=by
 unfold lH at h
 obtain⟨⟨x1,x2⟩,h1,h2⟩:=Option.bind_eq_some_iff.1 h
 cases h2
 have g:=(aJ (T:=T) (s:=[123])).trans (y8 T f _ _ _ _ h1)
 exact⟨(gf.trans g).trans aJ,((mB.trans g)).trans aJ⟩
theorem GY {T:List Tk}{f:Nat}{q:RQ}(h:mu T q<f):∃x,lH T f q=some x:=by
 unfold lH
 have m:=jT (T:=T) (q:=q) (gf.trans (aJ (s:=[123])))
 exact bind_some (y9 T f _ _ (by omega)) λx _=>⟨_,rfl⟩
theorem oT {T:List Tk}{q:RQ}:Good T q (rq T q):=by
 unfold rq
 split
 ·exact Good.refl _ _
 ·split
  ·exact aJ.trans dH
  ·exact aJ
theorem sX (T:List Tk):∀(f:Nat)(l:List PD)(q:RQ)(s:List PD)(r:RQ),gY T f l q=some (s,r)->Good T q r
 |0,_,_,_,_,h=>by simp[gY]at h
 |f+1,l,q,s,r,h=>by
  unfold gY at h
  split at h
  ·split at h
   ·cases h;exact dH
   ·exact(gj.trans oT).trans (sX T f _ _ _ _ h)
  ·cases h;exact Good.refl _ _
theorem za (T:List Tk):∀(f:Nat)(l:List PD)(q:RQ),mu T q<f->∃x,gY T f l q=some x
 |0,_,_,h=>absurd h (by omega)
 |f+1,l,q,h=>by
  unfold gY
  split
  ·rename_i c
   split
   ·exact⟨_,rfl⟩
   ·have:=BE c.1 ((ry (T:=T) (q:=q)).trans oT)
    exact za T f _ _ (by omega)
  ·exact⟨_,rfl⟩
theorem xZ {T:List Tk}{f:Nat}{q r:RQ}{s:Fc}(h:qB T f q=some (s,r)):Good T q r/\ru T q r:=by
 unfold qB at h
 obtain⟨⟨x1,x2⟩,h1,h2⟩:=Option.bind_eq_some_iff.1 h
 have g:=((aJ (T:=T) (s:=[40])).trans (sX T f _ _ _ _ h1)).trans (aJ (s:=[41]))
 have gg:=gf.trans g
 dsimp only at h2
 split at h2
 ·rename_i d
  obtain⟨⟨y1,y2⟩,h3,h4⟩:=Option.bind_eq_some_iff.1 h2
  cases h4
  have g2:=((bN (aV d).1 (aV d).2).trans lI).trans (kS h3).1
  exact⟨gg.trans g2,(mB.trans g).trans g2⟩
 ·obtain⟨⟨y1,y2⟩,h3,h4⟩:=Option.bind_eq_some_iff.1 h2
  cases h4
  have g2:=(kS h3).1
  exact⟨gg.trans g2,(mB.trans g).trans g2⟩
theorem Mk {T:List Tk}{f:Nat}{q:RQ}(h:40*mu T q+18<=f):∃x,qB T f q=some x:=by
 unfold qB
 have m:=jT (T:=T) (q:=q) (gf.trans (aJ (s:=[40])))
 refine bind_some (za T f _ _ (by omega)) λ⟨x1,x2⟩ h1=>?_
 try dsimp only
 have m1:=jT ((sX T f _ _ _ _ h1).trans (aJ (s:=[41])))
 split
 ·rename_i d
  have m2:=jT ((bN (aV d).1 (aV d).2).trans lI)
  exact bind_some (BG (by omega)) λx _=>⟨_,rfl⟩
 ·exact bind_some (BG (by omega)) λx _=>⟨_,rfl⟩
theorem oo (T:List Tk):∀(f:Nat)(p:Pg)(q:RQ),40*mu T q+19<=f->∃x,gb T f p q=some x
 |0,_,_,h=>absurd h (by omega)
 |f+1,p,q,h=>by
  unfold gb
  split
  ·rename_i c
   have m0:=oS (T:=T) c.1
   have w1:=BE c.1 (T:=T) (r:=ig T q 4) (.inl (iX (by decide)))
   have w2:=BE c.1 (T:=T) (r:=ig T q 2) (.inl (iX (by decide)))
   have m1:=BE c.1 (j5 (qc c.2))
   split
   ·exact oo T f _ _ (by omega)
   split
   ·refine bind_some (GY (by omega)) λ⟨x1,x2⟩ h1=>?_
    try dsimp only
    have:=jT (sW h1).1
    exact oo T f _ _ (by omega)
   split
   ·have:=jT (T:=T) (q:=ay q) (gj.trans (aJ (s:=[59])))
    exact oo T f _ _ (by omega)
   split
   ·refine bind_some (Mk (by omega)) λ⟨x1,x2⟩ h1=>?_
    try dsimp only
    have:=jT (xZ h1).1
    exact oo T f _ _ (by omega)
   ·exact oo T f _ _ (by omega)
  ·exact⟨_,rfl⟩
theorem pQ (T:List Tk):∃x,oR T (40*T.length+100)=some x:=by
 unfold oR
 exact bind_some (oo T _ _ _ (by simp[mu];omega)) λx _=>⟨_,rfl⟩
end j4
namespace j4
open Ax Go V7
def Vx (T:List Tk)(N:Int):Prop:=0<=N/\∀x∈T,0<=x.a/\x.a<=N
theorem EC {T:List Tk}{N:Int}(h:Vx T N)(q:RQ):0<=(cur T q).a/\(cur T q).a<=N:=by
 by_cases hl:q.at_<T.length
 ·have:cur T q=T[q.at_]:=by simp[cur,hl]
  rw[this]
  exact h.2 _ (List.getElem_mem hl)
 ·have hc:cur T q=Xw:=by simp[cur,List.getD,List.getElem?_eq_none (Nat.le_of_not_lt hl)]
  rw[hc]
  exact⟨Int.le_refl _,h.1⟩
def ED (N:Int)(p:PD):Prop:=0<=p.od/\p.od<=3/\0<=p.at_/\p.at_<=N
theorem BH {T:List Tk}{N:Int}(h:Vx T N)(q:RQ):ED N (cJ T q).1:=⟨Jq.1,Jq.2,(EC h q).1,(EC h q).2⟩
structure Rc.In (N:Int)(r:Rc):Prop where
 a:0<=r.a/\r.a<=N
 len:r.fields.length<=9
 f:∀p∈r.fields,ED N p
structure Fc.In (N:Int)(r:Fc):Prop where
 a:0<=r.a/\r.a<=N
 len:r.params.length<=7
 f:∀p∈r.params,ED N p
 od:0<=r.od/\r.od<=3
structure Pg.In (N:Int)(p:Pg):Prop where
 r:p.bw.length<=12/\∀x∈p.bw,Rc.In N x
 g:p.globals.length<=8/\∀x∈p.globals,ED N x
 f:p.funcs.length<=16/\∀x∈p.funcs,Fc.In N x
theorem oU {α:Type}{P:α->Prop}{l:List α}{a:α}(h:∀x∈l,P x)(ha:P a):∀x∈l++[a],P x:=by
 intro x hx
 rcases List.mem_append.1 hx with h1|h1
 ·exact h x h1
 ·rw[List.mem_singleton.1 h1];exact ha
theorem GZ {T:List Tk}{q:RQ}(h:(cur T q).k≠1):(cQ T q).2.fe≠0:=by
 unfold cQ
 rw[if_neg (λe=>h e.2)]
 exact iX (by decide)
theorem ua {T:List Tk}{q:RQ}(h:(cur T q).k≠1):(cJ T q).2.fe≠0:=by
 have g:Good T (cQ T q).2 (cJ T q).2:=aJ.trans lI
 rw[(g.bad (GZ h)).1]
 exact GZ h
theorem Dx {T:List Tk}{N:Int}(hN:Vx T N):∀(f:Nat)(l:List PD)(q:RQ)(s:List PD)(r:RQ),iD T f l q=some (s,r)->(∀p∈l,ED N p)->(l.length<=8\/q.fe≠0/\l.length<=9)->
  (∀p∈s,ED N p)/\(s.length<=8\/r.fe≠0/\s.length<=9)
 |0,_,_,_,_,h,_,_=>by simp[iD]at h
 |f+1,l,q,s,r,h,hl,hn=>by
  unfold iD at h
  split at h
  ·rename_i c
   have h8:l.length<=8:=by
    rcases hn with hn|hn
    ·exact hn
    ·exact absurd c.1 hn.1
   split at h
   ·rename_i c2
    cases h;exact⟨hl,.inl h8⟩
   ·rename_i c2
    refine Dx hN f _ _ _ _ h (oU hl (BH hN q)) ?_
    by_cases hk:(cur T q).k=1
    ·exact .inl (by
      have:l.length≠8:=λe=>c2 ⟨hk,e⟩
      simp;omega)
    ·refine .inr ⟨?_,by simp;omega⟩
     have g:=aJ (T:=T) (q:=(cJ T q).2) (s:=[59])
     rw[(g.bad (ua hk)).1]
     exact ua hk
  ·cases h;exact⟨hl,hn⟩
theorem Dy {T:List Tk}{N:Int}(hN:Vx T N):∀(f:Nat)(l:List PD)(q:RQ)(s:List PD)(r:RQ),gY T f l q=some (s,r)->(∀p∈l,ED N p)->(l.length<=6\/q.fe≠0/\l.length<=7)->
  (∀p∈s,ED N p)/\(s.length<=6\/r.fe≠0/\s.length<=7)
 |0,_,_,_,_,h,_,_=>by simp[gY]at h
 |f+1,l,q,s,r,h,hl,hn=>by
  unfold gY at h
  split at h
  ·rename_i c
   have h8:l.length<=6:=by
    rcases hn with hn|hn
    ·exact hn
    ·exact absurd c.1 hn.1
   split at h
   ·rename_i c2
    cases h;exact⟨hl,.inl h8⟩
   ·rename_i c2
    refine Dy hN f _ _ _ _ h (oU hl (BH hN q)) ?_
    by_cases hk:(cur T q).k=1
    ·exact .inl (by
      have:l.length≠6:=λe=>c2 ⟨hk,e⟩
      simp;omega)
    ·refine .inr ⟨?_,by simp;omega⟩
     have g:=oT (T:=T) (q:=(cJ T q).2)
     rw[(g.bad (ua hk)).1]
     exact ua hk
  ·cases h;exact⟨hl,hn⟩
theorem Ml {T:List Tk}{N:Int}(hN:Vx T N){f:Nat}{q r:RQ}{s:Rc}(h:lH T f q=some (s,r)):Rc.In N s/\(r.fe=0->s.fields.length<=8):=by
 unfold lH at h
 obtain⟨⟨x1,x2⟩,h1,h2⟩:=Option.bind_eq_some_iff.1 h
 cases h2
 obtain⟨a,b⟩:=Dx hN _ _ _ _ _ h1 (by simp) (by simp)
 refine⟨⟨EC hN q,by rcases b with b|b<;>simp only<;>omega,a⟩,λe=>?_⟩
 rcases b with b|b
 ·exact b
 ·exact absurd (aJ.l5 e) b.1
theorem TR {T:List Tk}{N:Int}(hN:Vx T N){f:Nat}{q r:RQ}{s:Fc}(h:qB T f q=some (s,r)):Fc.In N s/\(r.fe=0->s.params.length<=6):=by
 unfold qB at h
 obtain⟨⟨x1,x2⟩,h1,h2⟩:=Option.bind_eq_some_iff.1 h
 obtain⟨a,b⟩:=Dy hN _ _ _ _ _ h1 (by simp) (by simp)
 have hc:=EC hN q
 have fin:∀r:RQ,Good T x2 r->r.fe=0->x1.length<=6:=λr g e=>by
  rcases b with b|b
  ·exact b
  ·exact absurd (g.l5 e) b.1
 have b7:x1.length<=7:=by rcases b with b|b<;>omega
 dsimp only at h2
 split at h2
 ·rename_i d
  obtain⟨⟨y1,y2⟩,h3,h4⟩:=Option.bind_eq_some_iff.1 h2
  cases h4
  exact⟨⟨hc,b7,a,Jq⟩,fin _ (((aJ.trans (bN (aV d).1 (aV d).2)).trans lI).trans (kS h3).1)⟩
 ·obtain⟨⟨y1,y2⟩,h3,h4⟩:=Option.bind_eq_some_iff.1 h2
  cases h4
  exact⟨⟨hc,b7,a,Int.le_refl _,by show (0:Int)<=3;decide⟩,fin _ (aJ.trans (kS h3).1)⟩
def Pg.Z3 (p:Pg):Prop:=(∀x∈p.bw,x.fields.length<=8)/\∀x∈p.funcs,x.params.length<=6
theorem uc {T:List Tk}{N:Int}(hN:Vx T N):∀(f:Nat)(p:Pg)(q:RQ)(s:Pg)(r:RQ),gb T f p q=some (s,r)->Pg.In N p->(q.fe=0->p.Z3)->Pg.In N s/\(r.fe=0->s.Z3)
 |0,_,_,_,_,h,_,_=>by simp[gb]at h
 |f+1,p,q,s,r,h,hp,hf=>by
  unfold gb at h
  split at h
  ·rename_i c
   split at h
   ·exact uc hN f _ _ _ _ h hp λe=>absurd e (iX (by decide))
   rename_i aa
   split at h
   ·rename_i d
    obtain⟨⟨x1,x2⟩,h1,h2⟩:=Option.bind_eq_some_iff.1 h
    obtain⟨i1,i2⟩:=Ml hN h1
    have:p.bw.length≠12:=λe=>aa (.inl ⟨d,e⟩)
    have:=hp.r.1
    exact uc hN f _ _ _ _ h2 ⟨⟨by simp;omega,oU hp.r.2 i1⟩,hp.g,hp.f⟩ λe=>⟨oU (hf c.1).1 (i2 e),(hf c.1).2⟩
   split at h
   ·rename_i d
    have:p.globals.length≠8:=λe=>aa (.inr (.inl ⟨d,e⟩))
    have:=hp.g.1
    exact uc hN f _ _ _ _ h ⟨hp.r,⟨by simp;omega,oU hp.g.2 (BH hN _)⟩,hp.f⟩ λe=>hf c.1
   split at h
   ·rename_i d
    obtain⟨⟨x1,x2⟩,h1,h2⟩:=Option.bind_eq_some_iff.1 h
    obtain⟨i1,i2⟩:=TR hN h1
    have:p.funcs.length≠16:=λe=>aa (.inr (.inr ⟨d,e⟩))
    have:=hp.f.1
    exact uc hN f _ _ _ _ h2 ⟨hp.r,hp.g,⟨by simp;omega,oU hp.f.2 i1⟩⟩ λe=>⟨(hf c.1).1,oU (hf c.1).2 (i2 e)⟩
   ·exact uc hN f _ _ _ _ h hp λe=>absurd e (iX (by decide))
  ·cases h;exact⟨hp,hf⟩
theorem EE {N:Int}:Pg.In N zY:=⟨⟨by simp[zY],by simp[zY]⟩,⟨by simp[zY],by simp[zY]⟩,⟨by simp[zY],by simp[zY]⟩⟩
theorem zZ:zY.Z3:=⟨by simp[zY],by simp[zY]⟩
theorem Mm {T:List Tk}{N:Int}(hN:Vx T N){f:Nat}{x:Pg×Int×Int}(h:oR T f=some x):Pg.In N x.1/\x.1.Z3:=by
 unfold oR at h
 obtain⟨⟨x1,x2⟩,h1,h2⟩:=Option.bind_eq_some_iff.1 h
 obtain⟨a,b⟩:=uc hN _ _ _ _ _ h1 EE λ_=>zZ
 simp only[Option.some.injEq]at h2
 subst h2
 split
 ·rename_i e;exact⟨a,b e⟩
 ·exact⟨EE,zZ⟩
end j4
namespace k8
open Ax Go V7 j4
abbrev tI:T3:=⟨1,0,0⟩
abbrev tB:T3:=⟨2,0,0⟩
structure Vd where
 nm:List UInt8
 ty:T3
 deriving DecidableEq
structure Sg where
 nm:List UInt8
 ps:List Vd
 has:Bool
 res:T3
structure Hd where
 rs:List (List UInt8)
 ct:List (List UInt8×List Vd)
 globals:List Vd
 sigs:List Sg
def lK (rs:List (List UInt8))(l:List PD):List Vd:=l.map λq=>⟨q.name,(cH rs q.on q.od).1⟩
def bX (p:Pg):List (List UInt8):=p.bw.map (·.name)
def vA (rs:List (List UInt8))(f:Fc):Sg:=⟨f.name,lK rs f.params,f.has,if f.has then (cH rs f.on f.od).1 else T0⟩
def aQ (p:Pg):Hd:=⟨bX p,p.bw.map λr=>(r.name,lK (bX p) r.fields),lK (bX p) p.globals,p.funcs.map (vA (bX p))⟩
def fW (s:List UInt8):Nat->List Vd->Option (Nat×T3)
 |_,[]=>none
 |i,f::l=>if f.nm=s then some (i,f.ty) else fW s (i+1) l
def x4 (H:Hd)(V:List Vd)(s:List UInt8):Option (T3×Int):=match fW s 0 V with
 |some (k,t)=>some (t,(k:Int))
 |none=>match fW s 0 H.globals with
  |some (k,t)=>some (t,-1-(k:Int))
  |none=>none
def nM (s:List UInt8):Nat->List Sg->Option (Nat×Sg)
 |_,[]=>none
 |i,g::l=>if g.nm=s then some (i,g) else nM s (i+1) l
def lM:List Vd->List E->Bool
 |[],[]=>true
 |f::l,e::r=>decide (e.ty=f.ty)&&lM l r
 |_,_=>false
def cR (k n:Int)(m:Nat):Bool:=
 if k=1\/k=3\/k=4\/k=8\/k=11 then decide (m=0)
 else if k=2 then decide (m=0)&&(decide (n=0)||decide (n=1))
 else if k=7 then true
 else if k=5\/k=9\/k=10\/k=12\/k=13 then decide (m=1)
 else (decide (k=6)||decide (14<=k)&&decide (k<=24))&&decide (m=2)
def rV (ks:List E):T3:=match ks with|e::_=>e.ty | []=>T0
def BI (ks:List E):T3:=match ks with|_::e::_=>e.ty|_=>T0
def jV (k n:Int):Int:=if k=1\/k=2 then n else 0
def fz (k:Int)(nm:List UInt8):List UInt8:=if k=4\/k=5\/k=7 then nm else []
def fM (k:Int)(on:List UInt8):List UInt8:=if k=3\/k=8\/k=9 then on else []
def fN (k:Int)(od:Int):Int:=if k=3\/k=8\/k=9 then od else 0
def Dz (b:Bool)(t:T3):Option (T3×Int):=if b then some (t,0) else none
def x5 (H:Hd)(t:T3)(nm:List UInt8):Option (T3×Int):=if t.b=3/\t.d=0 then match H.ct[t.r.toNat]? with
  |some s=>match fW nm 0 s.2 with
   |some (i,u)=>some (u,(i:Int))
   |none=>none
  |none=>none
 else none
def BJ (H:Hd)(nm:List UInt8)(ks:List E):Option (T3×Int):=match nM nm 0 H.sigs with
 |some (i,s)=>if lM s.ps ks then some (s.res,(i:Int)) else none
 |none=>none
def EF (k:Int)(a b:T3):Option (T3×Int):=
 if k=14\/k=15\/k=16\/k=17\/k=18 then Dz (decide (a=tI)&&decide (b=tI)) tI
 else if k=19\/k=20 then Dz (decide (a=tI)&&decide (b=tI)) tB
 else if k=21\/k=22 then Dz (decide (a=b)) tB
 else Dz (decide (a=tB)&&decide (b=tB)) tB
def mD (H:Hd)(V:List Vd)(k:Int)(nm on:List UInt8)(od:Int)(ks:List E):Option (T3×Int):=
 if k=1\/k=11 then some (tI,0)
 else if k=2 then some (tB,0)
 else if k=3 then Dz ((cH H.rs on od).2&&vz (cH H.rs on od).1) (cH H.rs on od).1
 else if k=4 then x4 H V nm
 else if k=5 then x5 H (rV ks) nm
 else if k=6 then Dz (decide (0<(rV ks).d)&&decide (BI ks=tI)) ⟨(rV ks).b,(rV ks).r,(rV ks).d-1⟩
 else if k=7 then BJ H nm ks
 else if k=8 then Dz ((cH H.rs on od).2&&decide ((cH H.rs on od).1.b=3)&&decide ((cH H.rs on od).1.d=0)) (cH H.rs on od).1
 else if k=9 then Dz ((cH H.rs on od).2&&decide ((cH H.rs on od).1.d<3)&&decide (rV ks=tI)) ⟨(cH H.rs on od).1.b,(cH H.rs on od).1.r,(cH H.rs on od).1.d+1⟩
 else if k=10 then Dz (decide (0<(rV ks).d)) tI
 else if k=12 then Dz (decide (rV ks=tI)) tI
 else if k=13 then Dz (decide (rV ks=tB)) tB
 else EF k (rV ks) (BI ks)
mutual
def rW (H:Hd)(V:List Vd):E->Except Int E
 |.mk k n nm on od kids a _ _=>if cR k n kids.length then
   match kG H V kids with
   |.error x=>.error x
   |.ok ks=>match mD H V k nm on od ks with
    |none=>.error a
    |some (t,r)=>.ok (.mk k (jV k n) (fz k nm) (fM k on) (fN k od) ks a t r)
  else .error a
def kG (H:Hd)(V:List Vd):List E->Except Int (List E)
 |[]=>.ok []
 |e::l=>match rW H V e with
  |.error x=>.error x
  |.ok y=>if y.ty=T0 then .error y.a else match kG H V l with
   |.error x=>.error x
   |.ok ys=>.ok (y::ys)
end
def cY (has:Bool)(k:Int)(es:List E):Bool:=
 if k=1 then decide (es.length=0)
 else if k=4 then match es with | [e,_]=>decide (e.k=5)||decide (e.k=6)|_=>false
 else if k=7 then decide (es.length=1)&&has||decide (es.length=0) && !has
 else if k=9 then match es with | [e]=>decide (e.k=7)|_=>false
 else if k=2\/k=3\/k=5\/k=6\/k=8 then decide (es.length=1)
 else false
def ji (H:Hd)(res:T3)(V:List Vd)(k:Int)(nm:List UInt8)(es:List E)(t:T3):Option (Int×List Vd):=
 if k=1 then (match fW nm 0 V with|some _=>none|none=>some ((V.length:Int),V++[⟨nm,t⟩]))
 else if k=2 then (if rV es=t then match fW nm 0 V with|some _=>none|none=>some ((V.length:Int),V++[⟨nm,t⟩]) else none)
 else if k=3 then (match x4 H V nm with|some (u,r)=>if u=rV es then some (r,V) else none|none=>none)
 else if k=4 then (if rV es=BI es then some (0,V) else none)
 else if k=5\/k=6 then (if rV es=tB then some (0,V) else none)
 else if k=7 then (if es.length=0\/rV es=res then some (0,V) else none)
 else if k=8 then (if rV es=tI then some (0,V) else none)
 else some (0,V)
def iM (H:Hd)(k:Int)(on:List UInt8)(od:Int):Option T3:=if k=1\/k=2 then (if (cH H.rs on od).2 then some (cH H.rs on od).1 else none) else some T0
def vO (H:Hd)(V:List Vd)(k:Int)(es:List E):Except Int (List E):=if k=9 then match es with
  |e::_=>match rW H V e with
   |.error x=>.error x
   |.ok y=>.ok [y]
  |[]=>.ok []
 else kG H V es
def bO (k:Int)(nm:List UInt8):List UInt8:=if k=1\/k=2\/k=3 then nm else []
def bh (k:Int)(on:List UInt8):List UInt8:=if k=1\/k=2 then on else []
def bn (k:Int)(od:Int):Int:=if k=1\/k=2 then od else 0
mutual
def sY (H:Hd)(has:Bool)(res:T3):List Vd->Sm->Except Int (Sm×List Vd)
 |V,.mk k nm on od es bd el a _=>if cY has k es then
   match iM H k on od with
   |none=>.error a
   |some t=>match vO H V k es with
    |.error x=>.error x
    |.ok ys=>match ji H res V k nm ys t with
     |none=>.error a
     |some (r,W)=>if k=5 then
       match j6 H has res W bd with
       |.error x=>.error x
       |.ok (b,W1)=>match j6 H has res W1 el with
        |.error x=>.error x
        |.ok (c,W2)=>.ok (.mk k (bO k nm) (bh k on) (bn k od) ys b c a r,W2)
      else if k=6 then
       match j6 H has res W bd with
       |.error x=>.error x
       |.ok (b,W1)=>.ok (.mk k (bO k nm) (bh k on) (bn k od) ys b [] a r,W1)
      else .ok (.mk k (bO k nm) (bh k on) (bn k od) ys [] [] a r,W)
  else .error a
def j6 (H:Hd)(has:Bool)(res:T3):List Vd->List Sm->Except Int (List Sm×List Vd)
 |V,[]=>.ok ([],V)
 |V,s::l=>match sY H has res V s with
  |.error x=>.error x
  |.ok (y,W)=>match j6 H has res W l with
   |.error x=>.error x
   |.ok (ys,X)=>.ok (y::ys,X)
end
structure Bd where
 vars:List Vd
 code:List Sm
 a:Int
def qj (H:Hd):List Sg->List Fc->Except Int (List Bd)
 |s::ss,f::fs=>match j6 H s.has s.res s.ps f.body with
  |.error x=>.error x
  |.ok (c,W)=>match qj H ss fs with
   |.error x=>.error x
   |.ok l=>.ok (⟨W,c,f.a⟩::l)
 |_,_=>.ok []
def Vd.row (f:Vd):List AV:=.str f.nm::f.ty.cells
def cj (l:List Vd):AV:=aA 4 (l.map Vd.row)
def Sg.row (s:Sg):List AV:=[.str s.nm,cj s.ps,.bool s.has,.int .i64 s.res.b,.int .i64 s.res.r,.int .i64 s.res.d]
def gV (s:List UInt8×List Vd):List AV:=[.str s.1,cj s.2]
def Bd.row (b:Bd):List AV:=[cj b.vars,br b.code,.int .i64 b.a]
end k8
namespace k8
open Ax Go V7 j4
theorem E.ind {P:E->Prop}(h:∀e,(∀x∈e.kids,P x)->P e)(e:E):P e:=h e λx _=>E.ind h x
termination_by sizeOf e
decreasing_by
 have hx:x∈e.kids:=by assumption
 cases e
 simp only[E.kids]at hx
 have:=List.sizeOf_lt_of_mem hx
 simp only[E.mk.sizeOf_spec]
 omega
theorem Sm.ind {P:Sm->Prop}(h:∀s,(∀x∈s.bd,P x)->(∀x∈s.el,P x)->P s)(s:Sm):P s:=h s (λx _=>Sm.ind h x) λx _=>Sm.ind h x
termination_by sizeOf s
decreasing_by
 all_goals
  rename_i hx
  cases s
  simp only[Sm.bd,Sm.el]at hx
  have:=List.sizeOf_lt_of_mem hx
  simp only[Sm.mk.sizeOf_spec]
  omega
mutual
def E.sz:E->Nat
 |.mk _ _ _ _ _ kids _ _ _=>1+E.dG kids
def E.dG:List E->Nat
 |[]=>0
 |e::l=>E.sz e+E.dG l
end
theorem E.Jt (e:E):0<E.sz e:=by cases e;simp only[E.sz];omega
theorem E.eW:∀l:List E,l.length<=E.dG l
 |[]=>Nat.le_refl _
 |e::l=>by
  have:=E.eW l
  have:=E.Jt e
  simp only[E.dG,List.length_cons]
  omega
theorem E.iO:∀{l:List E}{e:E},e∈l->E.sz e<=E.dG l
 |[],_,h=>by cases h
 |x::l,e,h=>by
  rcases List.mem_cons.1 h with h|h
  ·subst h;simp only[E.dG];omega
  ·have:=E.iO h
   simp only[E.dG];omega
theorem E.rz (e:E):E.sz e=1+E.dG e.kids:=by cases e;rfl
def WT (n:Nat)(t:T3):Prop:=0<=t.d/\t.d<=3/\(t.b=3->0<=t.r/\t.r<n)
structure Hd.ok (H:Hd):Prop where
 rs:H.rs.length=H.ct.length
 ct:∀s∈H.ct,∀f∈s.2,WT H.rs.length f.ty
 globals:∀f∈H.globals,WT H.rs.length f.ty
 sigs:∀s∈H.sigs,WT H.rs.length s.res/\∀f∈s.ps,WT H.rs.length f.ty
theorem PZ {n:Nat}:WT n T0:=⟨Int.le_refl _,by decide,λh=>by cases h⟩
theorem TT {n:Nat}:WT n tI:=⟨Int.le_refl _,by decide,λh=>by cases h⟩
theorem P0 {n:Nat}:WT n tB:=⟨Int.le_refl _,by decide,λh=>by cases h⟩
theorem lN (l:List (List UInt8))(s:List UInt8)(d:Int):WT l.length (cH l s d).1:=by
 unfold cH
 split
 ·exact PZ
 ·rename_i h
  have hd:0<=d/\d<=3:=by omega
  split
  ·exact⟨hd.1,hd.2,λh=>by cases h⟩
  split
  ·exact⟨hd.1,hd.2,λh=>by cases h⟩
  split
  ·exact PZ
  ·rename_i h
   refine⟨hd.1,hd.2,λ_=>?_⟩
   rcases TK l s with e|⟨k,e,hk⟩
   ·rw[e]at h;exact absurd (by decide) h
   ·simp only;rw[e];omega
theorem wK {s:List UInt8}:∀{l:List Vd}{i k:Nat}{t:T3},fW s i l=some (k,t)->∃f∈l,f.ty=t
 |[],_,_,_,h=>by cases h
 |f::l,i,k,t,h=>by
  unfold fW at h
  split at h
  ·cases h;exact⟨f,List.mem_cons_self,rfl⟩
  ·obtain⟨g,h1,h2⟩:=wK h
   exact⟨g,List.mem_cons_of_mem _ h1,h2⟩
theorem DA {s:List UInt8}:∀{l:List Sg}{i k:Nat}{t:Sg},nM s i l=some (k,t)->t∈l
 |[],_,_,_,h=>by cases h
 |f::l,i,k,t,h=>by
  unfold nM at h
  split at h
  ·cases h;exact List.mem_cons_self
  ·exact List.mem_cons_of_mem _ (DA h)
theorem oV {n:Nat}{b:Bool}{t u:T3}{r:Int}(h:Dz b t=some (u,r))(ht:b=true->WT n t):WT n u:=by
 cases b with
 |false=>cases h
 |true=>cases h;exact ht rfl
theorem Xy {H:Hd}{V:List Vd}{s:List UInt8}{t:T3}{r:Int}(hH:H.ok)(hV:∀f∈V,WT H.rs.length f.ty)(h:x4 H V s=some (t,r)):WT H.rs.length t:=by
 unfold x4 at h
 split at h
 ·rename_i k u e
  cases h
  obtain⟨f,h1,h2⟩:=wK e
  rw[<-h2];exact hV f h1
 ·split at h
  ·rename_i k u e
   cases h
   obtain⟨f,h1,h2⟩:=wK e
   rw[<-h2];exact hH.globals f h1
  ·cases h
theorem Xz {H:Hd}{V:List Vd}{k:Int}{nm on:List UInt8}{od:Int}{ks:List E}{t:T3}{r:Int}(hH:H.ok)(hV:∀f∈V,WT H.rs.length f.ty)(hk:∀e∈ks,WT H.rs.length e.ty)(h:mD H V k nm on od ks=some (t,r)):WT H.rs.length t:=by
 have h1:WT H.rs.length (rV ks):=by
  unfold rV
  split
  ·exact hk _ List.mem_cons_self
  ·exact PZ
 have U1:=lN H.rs on od
 unfold mD at h
 by_cases c1:k=1\/k=11
 ·rw[if_pos c1]at h;cases h;exact TT
 rw[if_neg c1]at h
 by_cases c2:k=2
 ·rw[if_pos c2]at h;cases h;exact P0
 rw[if_neg c2]at h
 by_cases c3:k=3
 ·rw[if_pos c3]at h;exact oV h λ_=>U1
 rw[if_neg c3]at h
 by_cases c4:k=4
 ·rw[if_pos c4]at h;exact Xy hH hV h
 rw[if_neg c4]at h
 by_cases c5:k=5
 ·rw[if_pos c5]at h
  unfold x5 at h
  split at h
  ·split at h
   ·rename_i s hs
    split at h
    ·rename_i i u e
     cases h
     obtain⟨f,h2,h3⟩:=wK e
     rw[<-h3]
     exact hH.ct _ (List.mem_of_getElem? hs) f h2
    ·cases h
   ·cases h
  ·cases h
 rw[if_neg c5]at h
 by_cases c6:k=6
 ·rw[if_pos c6]at h
  refine oV h λhb=>?_
  simp only[Bool.and_eq_true,decide_eq_true_eq]at hb
  exact⟨by simp only;omega,by have:=h1.2.1;simp only;omega,h1.2.2⟩
 rw[if_neg c6]at h
 by_cases c7:k=7
 ·rw[if_pos c7]at h
  unfold BJ at h
  split at h
  ·rename_i i s e
   split at h
   ·cases h;exact(hH.sigs s (DA e)).1
   ·cases h
  ·cases h
 rw[if_neg c7]at h
 by_cases c8:k=8
 ·rw[if_pos c8]at h;exact oV h λ_=>U1
 rw[if_neg c8]at h
 by_cases c9:k=9
 ·rw[if_pos c9]at h
  refine oV h λhb=>?_
  simp only[Bool.and_eq_true,decide_eq_true_eq]at hb
  exact⟨by have:=U1.1;simp only;omega,by simp only;omega,U1.2.2⟩
 rw[if_neg c9]at h
 by_cases zb:k=10
 ·rw[if_pos zb]at h;exact oV h λ_=>TT
 rw[if_neg zb]at h
 by_cases G4:k=12
 ·rw[if_pos G4]at h;exact oV h λ_=>TT
 rw[if_neg G4]at h
 by_cases KL:k=13
 ·rw[if_pos KL]at h;exact oV h λ_=>P0
 rw[if_neg KL]at h
 unfold EF at h
 split at h
 ·exact oV h λ_=>TT
 split at h
 ·exact oV h λ_=>P0
 split at h
 ·exact oV h λ_=>P0
 ·exact oV h λ_=>P0
theorem kH {H:Hd}{V:List Vd}{e:E}{l:List E}{ys:List E}(h:kG H V (e::l)=.ok ys):∃y zs,rW H V e=.ok y/\y.ty≠T0/\kG H V l=.ok zs/\ys=y::zs:=by
 unfold kG at h
 split at h
 ·cases h
 ·rename_i y hy
  split at h
  ·cases h
  ·rename_i ht
   split at h
   ·cases h
   ·rename_i zs hz
    cases h
    exact⟨y,zs,hy,ht,hz,rfl⟩
theorem pS {H:Hd}{V:List Vd}{P:E->Prop}:∀{l ys:List E},kG H V l=.ok ys->(∀e∈l,∀y,rW H V e=.ok y->P y)->∀y∈ys,P y
 |[],ys,h,_=>by
  unfold kG at h
  cases h
  simp
 |e::l,ys,h,hp=>by
  obtain⟨y,zs,h1,_,h2,rfl⟩:=kH h
  intro z hz
  rcases List.mem_cons.1 hz with e1|e1
  ·subst e1;exact hp e List.mem_cons_self _ h1
  ·exact pS h2 (λe he=>hp e (List.mem_cons_of_mem _ he)) z e1
theorem x8 {H:Hd}{V:List Vd}{e y:E}(h:rW H V e=.ok y):∃ks t r,cR e.k e.n e.kids.length=true/\kG H V e.kids=.ok ks/\mD H V e.k e.nm e.on e.od ks=some (t,r)/\y=.mk e.k (jV e.k e.n) (fz e.k e.nm) (fM e.k e.on) (fN e.k e.od) ks e.a t r:=by
 obtain⟨k,n,nm,on,od,kids,a,ty,ref⟩:=e
 unfold rW at h
 split at h
 ·rename_i hk
  split at h
  ·cases h
  ·rename_i ks mq
   split at h
   ·cases h
   ·rename_i t r ht
    cases h
    exact⟨ks,t,r,hk,mq,ht,rfl⟩
 ·cases h
theorem XA {H:Hd}{V:List Vd}(hH:H.ok)(hV:∀f∈V,WT H.rs.length f.ty)(e:E):∀y,rW H V e=.ok y->WT H.rs.length y.ty:=by
 induction e using E.ind with
 |_ e ih=>
  intro y h
  obtain⟨ks,t,r,_,h2,h3,rfl⟩:=x8 h
  exact Xz hH hV (pS h2 ih) h3
theorem ud {H:Hd}{V:List Vd}:∀{l ys:List E},kG H V l=.ok ys->ys.length=l.length
 |[],ys,h=>by unfold kG at h;cases h;rfl
 |e::l,ys,h=>by
  obtain⟨y,zs,_,_,h2,rfl⟩:=kH h
  simp[ud h2]
theorem Ju {k n:Int}{m:Nat}(h:cR k n m=true):cR k (jV k n) m=true:=by
 unfold cR jV at *
 split
 ·rename_i c;rw[if_pos c]at h;exact h
 ·rename_i c
  rw[if_neg c]at h
  split
  ·rename_i c2;rw[if_pos c2]at h;rw[if_pos (.inr c2)];exact h
  ·rename_i c2;rw[if_neg c2]at h;exact h
theorem P1 {H:Hd}{V:List Vd}{k:Int}{nm on:List UInt8}{od:Int}{ks:List E}:mD H V k (fz k nm) (fM k on) (fN k od) ks=mD H V k nm on od ks:=by
 unfold mD
 by_cases c3:k=3
 ·simp[fM,fN,c3]
 by_cases c4:k=4
 ·simp[fz,c4]
 by_cases c5:k=5
 ·simp[fz,c5]
 by_cases c7:k=7
 ·simp[fz,c7]
 by_cases c8:k=8
 ·simp[fM,fN,c8]
 by_cases c9:k=9
 ·simp[fM,fN,c9]
 simp only[if_neg c3,if_neg c4,if_neg c5,if_neg c7,if_neg c8,if_neg c9]
end k8
namespace k8
open Ax Go V7 j4
mutual
def Sm.sz:Sm->Nat
 |.mk _ _ _ _ es bd el _ _=>1+E.dG es+Sm.dG bd+Sm.dG el
def Sm.dG:List Sm->Nat
 |[]=>0
 |s::l=>Sm.sz s+Sm.dG l
end
theorem Sm.Jt (s:Sm):0<Sm.sz s:=by cases s;simp only[Sm.sz];omega
theorem Sm.eW:∀l:List Sm,l.length<=Sm.dG l
 |[]=>Nat.le_refl _
 |e::l=>by
  have:=Sm.eW l
  have:=Sm.Jt e
  simp only[Sm.dG,List.length_cons]
  omega
theorem Sm.iO:∀{l:List Sm}{e:Sm},e∈l->Sm.sz e<=Sm.dG l
 |[],_,h=>by cases h
 |x::l,e,h=>by
  rcases List.mem_cons.1 h with h|h
  ·subst h;simp only[Sm.dG];omega
  ·have:=Sm.iO h
   simp only[Sm.dG];omega
theorem Sm.ni (s:Sm):Sm.sz s=1+E.dG s.es+Sm.dG s.bd+Sm.dG s.el:=by cases s;rfl
theorem XB (H:Hd)(has:Bool)(res:T3)(V:List Vd)(k:Int)(nm on:List UInt8)(od:Int)(es:List E)(bd el:List Sm)(a ref:Int):sY H has res V (.mk k nm on od es bd el a ref)=if cY has k es then
   match iM H k on od with
   |none=>.error a
   |some t=>match vO H V k es with
    |.error x=>.error x
    |.ok ys=>match ji H res V k nm ys t with
     |none=>.error a
     |some (r,W)=>if k=5 then
       match j6 H has res W bd with
       |.error x=>.error x
       |.ok (b,W1)=>match j6 H has res W1 el with
        |.error x=>.error x
        |.ok (c,W2)=>.ok (.mk k (bO k nm) (bh k on) (bn k od) ys b c a r,W2)
      else if k=6 then
       match j6 H has res W bd with
       |.error x=>.error x
       |.ok (b,W1)=>.ok (.mk k (bO k nm) (bh k on) (bn k od) ys b [] a r,W1)
      else .ok (.mk k (bO k nm) (bh k on) (bn k od) ys [] [] a r,W)
  else .error a:=by
 (conv=>lhs;unfold sY)<;>rfl
theorem mE (H:Hd)(has:Bool)(res:T3)(V:List Vd)(s:Sm):sY H has res V s=if cY has s.k s.es then
   match iM H s.k s.on s.od with
   |none=>.error s.a
   |some t=>match vO H V s.k s.es with
    |.error x=>.error x
    |.ok ys=>match ji H res V s.k s.nm ys t with
     |none=>.error s.a
     |some (r,W)=>if s.k=5 then
       match j6 H has res W s.bd with
       |.error x=>.error x
       |.ok (b,W1)=>match j6 H has res W1 s.el with
        |.error x=>.error x
        |.ok (c,W2)=>.ok (.mk s.k (bO s.k s.nm) (bh s.k s.on) (bn s.k s.od) ys b c s.a r,W2)
      else if s.k=6 then
       match j6 H has res W s.bd with
       |.error x=>.error x
       |.ok (b,W1)=>.ok (.mk s.k (bO s.k s.nm) (bh s.k s.on) (bn s.k s.od) ys b [] s.a r,W1)
      else .ok (.mk s.k (bO s.k s.nm) (bh s.k s.on) (bn s.k s.od) ys [] [] s.a r,W)
  else .error s.a:=by
 obtain⟨k,nm,on,od,es,bd,el,a,ref⟩:=s
 exact XB H has res V k nm on od es bd el a ref
theorem BK {H:Hd}{has:Bool}{res:T3}{V X:List Vd}{s y:Sm}(h:sY H has res V s=.ok (y,X)):∃t ys r W,cY has s.k s.es=true/\iM H s.k s.on s.od=some t/\vO H V s.k s.es=.ok ys/\ji H res V s.k s.nm ys t=some (r,W)/\
  (s.k=5/\(∃b W1 c,j6 H has res W s.bd=.ok (b,W1)/\j6 H has res W1 s.el=.ok (c,X)/\y=.mk s.k (bO s.k s.nm) (bh s.k s.on) (bn s.k s.od) ys b c s.a r)\/
   s.k=6/\(∃b,j6 H has res W s.bd=.ok (b,X)/\y=.mk s.k (bO s.k s.nm) (bh s.k s.on) (bn s.k s.od) ys b [] s.a r)\/
   s.k≠5/\s.k≠6/\X=W/\y=.mk s.k (bO s.k s.nm) (bh s.k s.on) (bn s.k s.od) ys [] [] s.a r):=by
 rw[mE]at h
 split at h
 ·rename_i hf
  split at h
  ·cases h
  ·rename_i t ht
   split at h
   ·cases h
   ·rename_i ys RK
    split at h
    ·cases h
    ·rename_i r W bY
     refine⟨t,ys,r,W,hf,ht,RK,bY,?_⟩
     split at h
     ·rename_i h5
      split at h
      ·cases h
      ·rename_i b W1 hb
       split at h
       ·cases h
       ·rename_i c W2 hc
        cases h
        exact .inl ⟨h5,b,W1,c,hb,hc,rfl⟩
     ·rename_i h5
      split at h
      ·rename_i h6
       split at h
       ·cases h
       ·rename_i b W1 hb
        cases h
        exact .inr (.inl ⟨h6,b,hb,rfl⟩)
      ·rename_i h6
       cases h
       exact .inr (.inr ⟨h5,h6,rfl,rfl⟩)
 ·cases h
theorem sZ {H:Hd}{has:Bool}{res:T3}{V X:List Vd}{s:Sm}{l:List Sm}{zs:List Sm}(h:j6 H has res V (s::l)=.ok (zs,X)):∃y W ys,sY H has res V s=.ok (y,W)/\j6 H has res W l=.ok (ys,X)/\zs=y::ys:=by
 unfold j6 at h
 split at h
 ·cases h
 ·rename_i y W hy
  split at h
  ·cases h
  ·rename_i ys X' hz
   cases h
   exact⟨y,W,ys,hy,hz,rfl⟩
theorem G5 {H:Hd}{res:T3}{V W:List Vd}{k:Int}{nm:List UInt8}{es:List E}{t:T3}{r:Int}(h:ji H res V k nm es t=some (r,W)):W=V\/(k=1\/k=2)/\W=V++[⟨nm,t⟩]:=by
 unfold ji at h
 split at h
 ·rename_i c
  split at h
  ·cases h
  ·cases h;exact .inr ⟨.inl c,rfl⟩
 split at h
 ·rename_i c
  split at h
  ·split at h
   ·cases h
   ·cases h;exact .inr ⟨.inr c,rfl⟩
  ·cases h
 all_goals left
 split at h
 ·split at h
  ·split at h<;>cases h;rfl
  ·cases h
 split at h
 ·split at h<;>cases h;rfl
 split at h
 ·split at h<;>cases h;rfl
 split at h
 ·split at h<;>cases h;rfl
 split at h
 ·split at h<;>cases h;rfl
 ·cases h;rfl
theorem TU {H:Hd}{k:Int}{on:List UInt8}{od:Int}{t:T3}(h:iM H k on od=some t):WT H.rs.length t:=by
 unfold iM at h
 split at h
 ·split at h<;>cases h;exact lN _ _ _
 ·cases h;exact PZ
theorem wL {H:Hd}{has:Bool}{res:T3}:∀{l ys:List Sm}{V X:List Vd},(∀s∈l,∀V y W,(∀f∈V,WT H.rs.length f.ty)->sY H has res V s=.ok (y,W)->(∀f∈W,WT H.rs.length f.ty)/\W.length<=V.length+Sm.sz s)->
  (∀f∈V,WT H.rs.length f.ty)->j6 H has res V l=.ok (ys,X)->(∀f∈X,WT H.rs.length f.ty)/\X.length<=V.length+Sm.dG l
 |[],ys,V,X,_,hV,h=>by unfold j6 at h;cases h;exact⟨hV,by simp[Sm.dG]⟩
 |s::l,ys,V,X,hp,hV,h=>by
  obtain⟨y,W,zs,h1,h2,rfl⟩:=sZ h
  obtain⟨a1,a2⟩:=hp s List.mem_cons_self V y W hV h1
  obtain⟨b1,b2⟩:=wL (λs hs=>hp s (List.mem_cons_of_mem _ hs)) a1 h2
  exact⟨b1,by simp only[Sm.dG];omega⟩
theorem Jv {H:Hd}{has:Bool}{res:T3}(s:Sm):∀V y W,(∀f∈V,WT H.rs.length f.ty)->sY H has res V s=.ok (y,W)->(∀f∈W,WT H.rs.length f.ty)/\W.length<=V.length+Sm.sz s:=by
 induction s using Sm.ind with
 |_ s rL rA=>
  intro V y X hV h
  obtain⟨t,ys,r,W,hf,ht,RK,bY,hh⟩:=BK h
  have hW:(∀f∈W,WT H.rs.length f.ty)/\W.length<=V.length+1:=by
   rcases G5 bY with e|⟨_,e⟩
   ·subst e;exact⟨hV,by omega⟩
   ·subst e
    refine⟨λf hf=>?_,by simp⟩
    rcases List.mem_append.1 hf with h|h
    ·exact hV f h
    ·rw[List.mem_singleton.1 h];exact TU ht
  have hz:=Sm.ni s
  rcases hh with⟨_,b,W1,c,hb,hc,_⟩|⟨_,b,hb,_⟩|⟨_,_,rfl,_⟩
  ·obtain⟨a1,a2⟩:=wL rL hW.1 hb
   obtain⟨b1,b2⟩:=wL rA a1 hc
   exact⟨b1,by omega⟩
  ·obtain⟨a1,a2⟩:=wL rL hW.1 hb
   exact⟨a1,by omega⟩
  ·exact⟨hW.1,by omega⟩
theorem P2 {H:Hd}{has:Bool}{res:T3}{l ys:List Sm}{V X:List Vd}(hV:∀f∈V,WT H.rs.length f.ty)(h:j6 H has res V l=.ok (ys,X)):(∀f∈X,WT H.rs.length f.ty)/\X.length<=V.length+Sm.dG l:=
 wL (λs _=>Jv s) hV h
theorem KM {H:Hd}{V:List Vd}{e y:E}(h:rW H V e=.ok y):y.k=e.k:=by
 obtain⟨ks,t,r,_,_,_,rfl⟩:=x8 h;rfl
theorem lO {H:Hd}{V:List Vd}{has:Bool}{k:Int}{l ys:List E}(h:kG H V l=.ok ys)(hf:cY has k l=true):cY has k ys=true:=by
 have hl:=ud h
 unfold cY at hf ⊢
 rw[hl]
 match l,hl,hf,h with
 |[],hl,hf,_=>rw[List.length_nil]at hl;rw[List.eq_nil_of_length_eq_zero hl];exact hf
 |[e],hl,hf,h=>
  obtain⟨y,zs,h1,_,h2,rfl⟩:=kH h
  unfold kG at h2;cases h2
  simpa [KM h1] using hf
 |[e,e2],hl,hf,h=>
  obtain⟨y,zs,h1,_,h2,rfl⟩:=kH h
  obtain⟨y2,zs2,h3,_,h4,rfl⟩:=kH h2
  unfold kG at h4;cases h4
  simpa [KM h1] using hf
 |e::e2::e3::l,hl,hf,h=>
  obtain⟨y,zs,h1,_,h2,rfl⟩:=kH h
  obtain⟨y2,zs2,h3,_,h4,rfl⟩:=kH h2
  obtain⟨y3,zs3,h5,_,h6,rfl⟩:=kH h4
  simp at hf
theorem qd {H:Hd}{V:List Vd}{k:Int}{es:List E}(h:k≠9):vO H V k es=kG H V es:=by unfold vO;rw[if_neg h]
theorem P4 {H:Hd}{V:List Vd}{e:E}:vO H V 9 [e]=match rW H V e with|.error x=>.error x|.ok y=>.ok [y]:=by unfold vO;rfl
theorem Jw {has:Bool}{es:List E}(h:cY has 9 es=true):∃e,es=[e]/\e.k=7:=by
 unfold cY at h
 match es,h with
 |[],h=>cases h
 |[e],h=>exact⟨e,rfl,by simpa using h⟩
 |_::_::_,h=>cases h
theorem P6 {H:Hd}{V:List Vd}{has:Bool}{k:Int}{l ys:List E}(h:vO H V k l=.ok ys)(hf:cY has k l=true):cY has k ys=true:=by
 by_cases h9:k=9
 ·subst h9
  obtain⟨e,rfl,he⟩:=Jw hf
  rw[P4]at h
  split at h
  ·cases h
  ·rename_i y hy
   cases h
   unfold cY
   simpa [KM hy] using he
 ·rw[qd h9]at h;exact lO h hf
theorem lP {H:Hd}{res:T3}{V:List Vd}{k:Int}{nm:List UInt8}{es:List E}{t:T3}:ji H res V k (bO k nm) es t=ji H res V k nm es t:=by
 unfold ji
 by_cases h1:k=1
 ·simp[bO,h1]
 by_cases h2:k=2
 ·simp[bO,h2]
 by_cases h3:k=3
 ·simp[bO,h3]
 simp only[if_neg h1,if_neg h2,if_neg h3]
theorem EG {H:Hd}{V:List Vd}:∀{l ys:List E},(∀e∈l,∀y,rW H V e=.ok y->E.sz y=E.sz e)->kG H V l=.ok ys->E.dG ys=E.dG l
 |[],ys,_,h=>by unfold kG at h;cases h;rfl
 |e::l,ys,hp,h=>by
  obtain⟨y,zs,h1,_,h2,rfl⟩:=kH h
  simp only[E.dG,hp e List.mem_cons_self y h1,EG (λe he=>hp e (List.mem_cons_of_mem _ he)) h2]
theorem P7 {H:Hd}{V:List Vd}(e:E):∀y,rW H V e=.ok y->E.sz y=E.sz e:=by
 induction e using E.ind with
 |_ e ih=>
  intro y h
  obtain⟨ks,t,r,_,h2,_,rfl⟩:=x8 h
  rw[E.rz e]
  simp only[E.sz,EG ih h2]
theorem XC {H:Hd}{V:List Vd}{l ys:List E}(h:kG H V l=.ok ys):E.dG ys=E.dG l:=EG (λe _=>P7 e) h
theorem XD {H:Hd}{V:List Vd}{has:Bool}{k:Int}{l ys:List E}(h:vO H V k l=.ok ys)(hf:cY has k l=true):E.dG ys=E.dG l:=by
 by_cases h9:k=9
 ·subst h9
  obtain⟨e,rfl,he⟩:=Jw hf
  rw[P4]at h
  split at h
  ·cases h
  ·rename_i y hy
   cases h
   simp only[E.dG,P7 e y hy]
 ·rw[qd h9]at h
  exact XC h
theorem wM {H:Hd}{has:Bool}{res:T3}:∀{l ys:List Sm}{V X:List Vd},(∀s∈l,∀V y W,sY H has res V s=.ok (y,W)->Sm.sz y<=Sm.sz s)->j6 H has res V l=.ok (ys,X)->Sm.dG ys<=Sm.dG l
 |[],ys,V,X,_,h=>by unfold j6 at h;cases h;exact Nat.le_refl _
 |s::l,ys,V,X,hp,h=>by
  obtain⟨y,W,zs,h1,h2,rfl⟩:=sZ h
  have a:=hp s List.mem_cons_self V y W h1
  have b:=wM (λs hs=>hp s (List.mem_cons_of_mem _ hs)) h2
  simp only[Sm.dG];omega
theorem XE {H:Hd}{has:Bool}{res:T3}(s:Sm):∀V y W,sY H has res V s=.ok (y,W)->Sm.sz y<=Sm.sz s:=by
 induction s using Sm.ind with
 |_ s rL rA=>
  intro V y X h
  obtain⟨t,ys,r,W,hf,ht,RK,bY,hh⟩:=BK h
  have e:=XD RK hf
  have hz:=Sm.ni s
  rcases hh with⟨h5,b,W1,c,hb,hc,rfl⟩|⟨h6,b,hb,rfl⟩|⟨h5,h6,rfl,rfl⟩
  ·have b2:=wM rL hb
   have c2:=wM rA hc
   simp only[Sm.sz];omega
  ·have b2:=wM rL hb
   simp only[Sm.sz,Sm.dG];omega
  ·simp only[Sm.sz,Sm.dG];omega
theorem XF {H:Hd}{has:Bool}{res:T3}{l ys:List Sm}{V X:List Vd}(h:j6 H has res V l=.ok (ys,X)):Sm.dG ys<=Sm.dG l:=wM (λs _=>XE s) h
theorem wN {H:Hd}:∀{ss:List Sg}{fs:List Fc}{bs:List Bd},ss.length=fs.length->qj H ss fs=.ok bs->bs.length=fs.length
 |[],[],bs,_,h=>by unfold qj at h;cases h;rfl
 |s::ss,f::fs,bs,hl,h=>by
  unfold qj at h
  split at h
  ·cases h
  ·split at h
   ·cases h
   ·rename_i l Fz
    cases h
    simp[wN (by simpa using hl) Fz]
 |[],_::_,_,hl,_=>by cases hl
 |_::_,[],_,hl,_=>by cases hl
theorem DB {H:Hd}{n:Nat}:∀{ss:List Sg}{fs:List Fc}{bs:List Bd},qj H ss fs=.ok bs->(∀f∈fs,Sm.dG f.body<=n)->∀b∈bs,Sm.dG b.code<=n
 |[],fs,bs,h,_=>by unfold qj at h;cases h;simp
 |_::_,[],bs,h,_=>by unfold qj at h;cases h;simp
 |s::ss,f::fs,bs,h,hp=>by
  unfold qj at h
  split at h
  ·cases h
  ·rename_i c W hc
   split at h
   ·cases h
   ·rename_i l Fz
    cases h
    intro b hb
    rcases List.mem_cons.1 hb with e|e
    ·subst e
     have:=XF hc
     have:=hp f List.mem_cons_self
     simp only;omega
    ·exact DB Fz (λf hf=>hp f (List.mem_cons_of_mem _ hf)) b e
theorem G6 {H:Hd}(hH:H.ok){n:Nat}:∀{ss:List Sg}{fs:List Fc}{bs:List Bd},qj H ss fs=.ok bs->(∀s∈ss,∀f∈s.ps,WT H.rs.length f.ty)->(∀s∈ss,s.ps.length<=n)->(∀f∈fs,Sm.dG f.body<=n)->∀b∈bs,b.vars.length<=n+n
 |[],fs,bs,h,_,_,_=>by unfold qj at h;cases h;simp
 |_::_,[],bs,h,_,_,_=>by unfold qj at h;cases h;simp
 |s::ss,f::fs,bs,h,hs,hp,hq=>by
  unfold qj at h
  split at h
  ·cases h
  ·rename_i c W hc
   split at h
   ·cases h
   ·rename_i l Fz
    cases h
    intro b hb
    rcases List.mem_cons.1 hb with e|e
    ·subst e
     have:=(P2 (hs s List.mem_cons_self) hc).2
     have:=hp s List.mem_cons_self
     have:=hq f List.mem_cons_self
     simp only;omega
    ·exact G6 hH Fz (λs h=>hs s (List.mem_cons_of_mem _ h)) (λs h=>hp s (List.mem_cons_of_mem _ h)) (λf h=>hq f (List.mem_cons_of_mem _ h)) b e
end k8
namespace k8
open Ax Go V7 j4
theorem x9 {k n:Int}{nm on:List UInt8}{od:Int}{ks:List E}{a:Int}:E.sz (Em k n nm on od ks a)=1+E.dG ks:=rfl
theorem nZ:E.dG []=0:=rfl
theorem jF {e:E}:E.dG [e]=E.sz e:=by simp[E.dG]
theorem EH {e f:E}:E.dG [e,f]=E.sz e+E.sz f:=by simp[E.dG]
theorem KN:∀l r:List E,E.dG (l++r)=E.dG l+E.dG r
 |[],r=>by simp[E.dG]
 |e::l,r=>by
  have:=KN l r
  simp only[List.cons_append,E.dG];omega
theorem KO:∀l r:List Sm,Sm.dG (l++r)=Sm.dG l+Sm.dG r
 |[],r=>by simp[Sm.dG]
 |e::l,r=>by
  have:=KO l r
  simp only[List.cons_append,Sm.dG];omega
theorem lQ:Sm.dG []=0:=rfl
theorem TW {e:Sm}:Sm.dG [e]=Sm.sz e:=by simp[Sm.dG]
theorem BM {k:Int}{nm on:List UInt8}{od:Int}{es:List E}{bd el:List Sm}{a ref:Int}:Sm.sz (.mk k nm on od es bd el a ref)=1+E.dG es+Sm.dG bd+Sm.dG el:=rfl
theorem gZ {q:RQ}:(ay q).at_=q.at_+1:=rfl
theorem TY {q:RQ}{d:Int}:(oO q d).at_=q.at_:=rfl
theorem TZ {q:RQ}{d:Int}:(oO q d).fe=q.fe:=rfl
theorem n5 {T:List Tk}{q r:RQ}(w:ru T q r)(f:r.fe=0):q.at_+1<=r.at_:=by
 rcases w with w|⟨_,w⟩
 ·exact absurd f w
 ·exact w
theorem G7 (T:List Tk):∀f:Nat,(∀n q e r,eO T f n q=some (e,r)->r.fe=0->E.sz e+q.at_<=r.at_)/\(∀n a q e r,iJ T f n a q=some (e,r)->r.fe=0->E.sz e+q.at_<=r.at_+E.sz a)/\
  (∀q e r,jB T f q=some (e,r)->r.fe=0->E.sz e+q.at_<=r.at_)/\(∀a q e r,eE T f a q=some (e,r)->r.fe=0->E.sz e+q.at_<=r.at_+E.sz a)/\(∀q e r,jR T f q=some (e,r)->r.fe=0->E.sz e+q.at_<=r.at_)/\
  (∀q e r,jC T f q=some (e,r)->r.fe=0->E.sz e+q.at_<=r.at_)/\(∀a q e r,kB T f a q=some (e,r)->r.fe=0->E.sz e+q.at_<=r.at_)/\(∀q e r,nL T f q=some (e,r)->r.fe=0->E.dG e+q.at_<=r.at_)/\
  (∀l q e r,nh T f l q=some (e,r)->r.fe=0->E.dG e+q.at_<=r.at_+E.dG l)
 |0=>by simp[eO,iJ,jB,eE,jR,jC,kB,nL,nh]
 |f+1=>by
  obtain⟨hE,hS,hU,hB,hI,hF,hN,hA,hM⟩:=G7 T f
  obtain⟨gE,gS,gU,gB,gI,gF,gN,gA,gM⟩:=jU T f
  refine⟨λn q e r h fr=>?_,λn a q e r h fr=>?_,λq e r h fr=>?_,λa q e r h fr=>?_,λq e r h fr=>?_,λq e r h fr=>?_,λa q e r h fr=>?_,λq e r h fr=>?_,λl q e r h fr=>?_⟩
  ·unfold eO at h
   split at h
   ·exact hU _ _ _ h fr
   ·obtain⟨⟨x1,x2⟩,h1,h2⟩:=Option.bind_eq_some_iff.1 h
    have f2:=(gS _ _ _ _ _ h2).l5 fr
    have:=hE _ _ _ _ h1 f2
    have:=hS _ _ _ _ _ h2 fr
    (try dsimp only at *);omega
  ·unfold iJ at h
   split at h
   ·rename_i c
    obtain⟨⟨x1,x2⟩,h1,h2⟩:=Option.bind_eq_some_iff.1 h
    have f2:=(gS _ _ _ _ _ h2).l5 fr
    have a1:=hE _ _ _ _ h1 f2
    have a2:=hS _ _ _ _ _ h2 fr
    rw[x9,EH]at a2
    rw[gZ]at a1
    (try dsimp only at *);omega
   ·cases h;omega
  ·unfold jB at h
   split at h
   ·obtain⟨⟨x1,x2⟩,h1,h2⟩:=Option.bind_eq_some_iff.1 h
    cases h2
    rw[TZ]at fr
    have a1:=hE _ _ _ _ h1 fr
    have a2:=n5 ju ((gE _ _ _ _ h1).l5 fr)
    rw[x9,jF,TY]
    (try dsimp only at *);omega
   ·obtain⟨⟨x1,x2⟩,h1,h2⟩:=Option.bind_eq_some_iff.1 h
    have f2:=(gB _ _ _ _ h2).l5 fr
    have:=hF _ _ _ h1 f2
    have:=hB _ _ _ _ h2 fr
    (try dsimp only at *);omega
  ·unfold eE at h
   split at h
   ·rename_i c
    have a1:=hB _ _ _ _ h fr
    rw[x9,jF]at a1
    have a2:=(gf (T:=T) (q:=ay q)).le
    rw[gZ]at a2
    omega
   ·split at h
    ·obtain⟨⟨x1,x2⟩,h1,h2⟩:=Option.bind_eq_some_iff.1 h
     have f2:=(gB _ _ _ _ h2).l5 fr
     have f3:=(cz (T:=T) (q:=x2) (s:=[93])).l5 f2
     have a1:=hE _ _ _ _ h1 f3
     have a2:=n5 ju ((gE _ _ _ _ h1).l5 f3)
     have a3:=hB _ _ _ _ h2 fr
     have a4:=(cz (T:=T) (q:=x2) (s:=[93])).le
     rw[x9,EH]at a3
     (try dsimp only at *);omega
    ·cases h;omega
  ·unfold jR at h
   obtain⟨⟨x1,x2⟩,h1,h2⟩:=Option.bind_eq_some_iff.1 h
   cases h2
   have f3:=(cz (T:=T) (q:=x2) (s:=[41])).l5 fr
   have a1:=hE _ _ _ _ h1 f3
   have a2:=n5 ju ((gE _ _ _ _ h1).l5 f3)
   have a4:=(cz (T:=T) (q:=x2) (s:=[41])).le
   (try dsimp only at *);omega
  ·unfold jC at h
   split at h
   ·cases h;rw[x9,nZ,gZ];omega
   split at h
   ·cases h;rw[x9,nZ,gZ];omega
   split at h
   ·cases h
    have:=(lI (T:=T) (q:=ay q)).le
    rw[gZ]at this
    rw[x9,nZ];omega
   split at h
   ·have:=hN _ _ _ _ h fr
    rw[gZ]at this;omega
   split at h
   ·obtain⟨⟨x1,x2⟩,h1,h2⟩:=Option.bind_eq_some_iff.1 h
    cases h2
    have a1:=hI _ _ _ h1 fr
    rw[gZ]at a1
    rw[x9,jF]
    (try dsimp only at *);omega
   split at h
   ·cases h
    have a1:=((ee (T:=T) (q:=ay q) (s:=[40])).trans (cz (s:=[41]))).le
    rw[gZ]at a1
    rw[x9,nZ];omega
   split at h
   ·exact hI _ _ _ h fr
   split at h
   ·obtain⟨⟨x1,x2⟩,h1,h2⟩:=Option.bind_eq_some_iff.1 h
    cases h2
    have a1:=hA _ _ _ h1 fr
    have a2:=n5 mB ((gA _ _ _ h1).l5 fr)
    rw[x9]
    (try dsimp only at *);omega
   ·cases h
    have a2:=n5 mB fr
    rw[x9,nZ];omega
  ·unfold kB at h
   split at h
   ·obtain⟨⟨x1,x2⟩,h1,h2⟩:=Option.bind_eq_some_iff.1 h
    cases h2
    have a1:=hI _ _ _ h1 fr
    have a2:=((lI (T:=T) (q:=ay q)).trans (aJ (s:=[93]))).le
    rw[gZ]at a2
    rw[x9,jF]
    (try dsimp only at *);omega
   ·cases h
    have a2:=n5 mB fr
    rw[x9,nZ];omega
  ·unfold nL at h
   split at h
   ·cases h
    have a1:=((ee (T:=T) (q:=q) (s:=[40])).trans (cz (s:=[41]))).le
    rw[nZ];omega
   ·obtain⟨⟨x1,x2⟩,h1,h2⟩:=Option.bind_eq_some_iff.1 h
    have f2:=(gM _ _ _ _ h2).l5 fr
    have a1:=hE _ _ _ _ h1 f2
    have a2:=(ee (T:=T) (q:=q) (s:=[40])).le
    have a3:=hM _ _ _ _ h2 fr
    rw[jF]at a3
    (try dsimp only at *);omega
  ·unfold nh at h
   split at h
   ·obtain⟨⟨x1,x2⟩,h1,h2⟩:=Option.bind_eq_some_iff.1 h
    have f2:=(gM _ _ _ _ h2).l5 fr
    have a1:=hE _ _ _ _ h1 f2
    rw[gZ]at a1
    have a3:=hM _ _ _ _ h2 fr
    rw[KN,jF]at a3
    (try dsimp only at *);omega
   ·cases h
    have a1:=(cz (T:=T) (q:=q) (s:=[41])).le
    omega
theorem j7 {T:List Tk}{f n:Nat}{q r:RQ}{e:E}(h:eO T f n q=some (e,r))(fr:r.fe=0):E.sz e+q.at_<=r.at_:=(G7 T f).1 _ _ _ _ h fr
theorem Jx {T:List Tk}{f:Nat}{a:Int}{q r:RQ}{s:Sm}(h:mA T f a q=some (s,r))(fr:r.fe=0):Sm.sz s+q.at_<=r.at_:=by
 unfold mA at h
 obtain⟨⟨x1,x2⟩,h1,h2⟩:=Option.bind_eq_some_iff.1 h
 dsimp only at h2
 split at h2
 ·obtain⟨⟨y1,y2⟩,h3,h4⟩:=Option.bind_eq_some_iff.1 h2
  cases h4
  have f1:=(aJ (T:=T) (q:=y2) (s:=[59])).l5 fr
  have w:=n5 iY fr
  have a3:=j7 h3 f1
  have f3:=(dJ h3).l5 f1
  have w2:=n5 iY f3
  have f4:=aJ.l5 f3
  by_cases c:x1.k=4\/x1.k=5\/x1.k=6
  ·rw[if_pos c]at w2 f4
   have a1:=j7 h1 f4
   rw[if_pos c]at a3
   by_cases c4:x1.k=4
   ·rw[if_pos c4,BM,jF,lQ];(try dsimp only at *);omega
   ·rw[if_neg c4,BM,EH,lQ];(try dsimp only at *);omega
  ·rw[if_neg c]at f4
   exact absurd f4 (iX (by decide))
 ·cases h2
  have f1:=(aJ).l5 fr
  have w:=n5 iY fr
  by_cases c:fy T x2 [59]=true/\x1.k≠7
  ·rw[if_pos c]at f1
   exact absurd f1 (iX (by decide))
  ·rw[if_neg c]at f1 w
   have a1:=j7 h1 f1
   rw[BM,jF,lQ,if_neg c];(try dsimp only at *);omega
theorem BO (T:List Tk):∀f:Nat,(∀q s r,oQ T f q=some (s,r)->r.fe=0->Sm.sz s+q.at_<=r.at_)/\(∀q s r,gT T f q=some (s,r)->r.fe=0->Sm.dG s+q.at_<=r.at_)/\
  (∀l q s r,jS T f l q=some (s,r)->r.fe=0->Sm.dG s+q.at_<=r.at_+Sm.dG l)
 |0=>by simp[oQ,gT,jS]
 |f+1=>by
  obtain⟨hS,hB,hL⟩:=BO T f
  obtain⟨gS,gB,gL⟩:=kR T f
  refine⟨λq s r h fr=>?_,λq s r h fr=>?_,λl q s r h fr=>?_⟩
  ·unfold oQ at h
   split at h
   ·cases h
    have:=((gj (T:=T) (q:=ay q)).trans (aJ (s:=[59]))).le
    rw[gZ]at this
    rw[BM,nZ,lQ];omega
   split at h
   ·obtain⟨⟨x1,x2⟩,h1,h2⟩:=Option.bind_eq_some_iff.1 h
    cases h2
    have f1:=aJ.l5 fr
    have a1:=j7 h1 f1
    have a2:=((gj (T:=T) (q:=ay q)).trans (aJ (s:=[61]))).le
    have a3:=(aJ (T:=T) (q:=x2) (s:=[59])).le
    rw[gZ]at a2
    rw[BM,jF,lQ];(try dsimp only at *);omega
   split at h
   ·obtain⟨⟨x1,x2⟩,h1,h2⟩:=Option.bind_eq_some_iff.1 h
    obtain⟨⟨y1,y2⟩,h3,h4⟩:=Option.bind_eq_some_iff.1 h2
    dsimp only at h4
    split at h4
    ·rename_i d
     obtain⟨⟨z1,z2⟩,h5,h6⟩:=Option.bind_eq_some_iff.1 h4
     cases h6
     have f1:=(gB _ _ _ h5).1.l5 fr
     have f2:y2.fe=0:=f1
     have f3:=(gB _ _ _ h3).1.l5 f2
     have a1:=j7 h1 f3
     have a2:=hB _ _ _ h3 f2
     have a3:=hB _ _ _ h5 fr
     rw[gZ]at a1 a3
     rw[BM,jF];(try dsimp only at *);omega
    ·cases h4
     have f3:=(gB _ _ _ h3).1.l5 fr
     have a1:=j7 h1 f3
     have a2:=hB _ _ _ h3 fr
     rw[gZ]at a1
     rw[BM,jF,lQ];(try dsimp only at *);omega
   split at h
   ·obtain⟨⟨x1,x2⟩,h1,h2⟩:=Option.bind_eq_some_iff.1 h
    obtain⟨⟨y1,y2⟩,h3,h4⟩:=Option.bind_eq_some_iff.1 h2
    cases h4
    have f3:=(gB _ _ _ h3).1.l5 fr
    have a1:=j7 h1 f3
    have a2:=hB _ _ _ h3 fr
    rw[gZ]at a1
    rw[BM,jF,lQ];(try dsimp only at *);omega
   split at h
   ·split at h
    ·cases h
     have a2:=(aJ (T:=T) (q:=ay q) (s:=[59])).le
     rw[gZ]at a2
     rw[BM,nZ,lQ];omega
    ·obtain⟨⟨x1,x2⟩,h1,h2⟩:=Option.bind_eq_some_iff.1 h
     cases h2
     have f1:=aJ.l5 fr
     have a1:=j7 h1 f1
     have a3:=(aJ (T:=T) (q:=x2) (s:=[59])).le
     rw[gZ]at a1
     rw[BM,jF,lQ];(try dsimp only at *);omega
   split at h
   ·obtain⟨⟨x1,x2⟩,h1,h2⟩:=Option.bind_eq_some_iff.1 h
    cases h2
    have f1:=aJ.l5 fr
    have a1:=j7 h1 f1
    have a3:=(aJ (T:=T) (q:=x2) (s:=[59])).le
    rw[gZ]at a1
    rw[BM,jF,lQ];(try dsimp only at *);omega
   ·exact Jx h fr
  ·unfold gT at h
   have a1:=hL _ _ _ _ h fr
   have a2:=(ee (T:=T) (q:=q) (s:=[123])).le
   rw[lQ]at a1
   omega
  ·unfold jS at h
   split at h
   ·obtain⟨⟨x1,x2⟩,h1,h2⟩:=Option.bind_eq_some_iff.1 h
    have f1:=(gL _ _ _ _ h2).l5 fr
    have a1:=hS _ _ _ h1 f1
    have a2:=hL _ _ _ _ h2 fr
    rw[KO,TW]at a2
    (try dsimp only at *);omega
   ·cases h
    have a2:=(cz (T:=T) (q:=q) (s:=[125])).le
    omega
theorem BP {T:List Tk}{f:Nat}{q r:RQ}{s:List Sm}(h:gT T f q=some (s,r))(fr:r.fe=0):Sm.dG s+q.at_<=r.at_:=(BO T f).2.1 _ _ _ h fr
theorem Mn {T:List Tk}{f:Nat}{q r:RQ}{s:Fc}(h:qB T f q=some (s,r))(fr:r.fe=0):Sm.dG s.body<=r.at_:=by
 unfold qB at h
 obtain⟨⟨x1,x2⟩,h1,h2⟩:=Option.bind_eq_some_iff.1 h
 dsimp only at h2
 split at h2
 ·obtain⟨⟨y1,y2⟩,h3,h4⟩:=Option.bind_eq_some_iff.1 h2
  cases h4
  have:=BP h3 fr
  (try dsimp only at *);omega
 ·obtain⟨⟨y1,y2⟩,h3,h4⟩:=Option.bind_eq_some_iff.1 h2
  cases h4
  have:=BP h3 fr
  (try dsimp only at *);omega
theorem mF {T:List Tk}:∀(f:Nat)(p:Pg)(q:RQ)(s:Pg)(r:RQ),gb T f p q=some (s,r)->q.at_<=T.length->(q.fe=0->∀g∈p.funcs,Sm.dG g.body<=T.length)->r.fe=0->∀g∈s.funcs,Sm.dG g.body<=T.length
 |0,_,_,_,_,h,_,_=>by simp[gb]at h
 |f+1,p,q,s,r,h,hq,hp=>by
  unfold gb at h
  split at h
  ·rename_i c
   split at h
   ·exact mF f _ _ _ _ h (dH.ub hq) λe=>absurd e (iX (by decide))
   split at h
   ·rename_i d
    obtain⟨⟨x1,x2⟩,h1,h2⟩:=Option.bind_eq_some_iff.1 h
    exact mF f _ _ _ _ h2 ((sW h1).1.ub (aV d).2) λe=>hp c.1
   split at h
   ·rename_i d
    exact mF f _ _ _ _ h ((gj.trans aJ).ub (aV d).2) λe=>hp c.1
   split at h
   ·rename_i d
    obtain⟨⟨x1,x2⟩,h1,h2⟩:=Option.bind_eq_some_iff.1 h
    have hu:=(xZ h1).1.ub (aV d).2
    exact mF f _ _ _ _ h2 hu λe g hg=>by
     rcases List.mem_append.1 hg with hg|hg
     ·exact hp c.1 g hg
     ·rw[List.mem_singleton.1 hg]
      have:=Mn h1 e
      (try dsimp only at *);omega
   ·exact mF f _ _ _ _ h (dH.ub hq) λe=>absurd e (iX (by decide))
  ·cases h;exact λe=>hp e
theorem Mo {T:List Tk}{f:Nat}{x:Pg×Int×Int}(h:oR T f=some x):∀g∈x.1.funcs,Sm.dG g.body<=T.length:=by
 unfold oR at h
 obtain⟨⟨p,r⟩,h1,h2⟩:=Option.bind_eq_some_iff.1 h
 dsimp only at h2
 split at h2
 ·rename_i c
  cases h2
  exact mF f _ _ _ _ h1 (Nat.zero_le _) (λ_ g hg=>by cases hg) c
 ·cases h2
  intro g hg
  cases hg
end k8
namespace k8
open Ax Go V7 j4
def l7 (a b:Option Int):Option Int:=match a with
 |some x=>some x
 |none=>b
theorem qC {a:Option Int}:l7 a none=a:=by cases a<;>rfl
theorem mG {a b c:Option Int}:l7 (l7 a b) c=l7 a (l7 b c):=by cases a<;>rfl
mutual
def uD (su:List Bool):E->Option Int
 |.mk k _ _ _ _ kids a _ ref=>l7 (jW su kids) (if k=4/\0<=ref/\su[ref.toNat]?=some false then some a else none)
def jW (su:List Bool):List E->Option Int
 |[]=>none
 |e::l=>l7 (uD su e) (jW su l)
end
mutual
def kC:List Bool->Sm->List Bool×Option Int
 |su,.mk k _ _ _ es bd el _ ref=>
  if k=1 then (su.set ref.toNat false,jW su es)
  else if k=2\/k=3 then (if 0<=ref then su.set ref.toNat true else su,jW su es)
  else if k=7 then (su.map λ_=>true,jW su es)
  else if k=6 then (su,l7 (jW su es) (gr su bd).2)
  else if k=5 then (List.zipWith (λa b=>a&&b) (gr su bd).1 (gr su el).1,l7 (jW su es) (l7 (gr su bd).2 (gr su el).2))
  else (su,jW su es)
def gr:List Bool->List Sm->List Bool×Option Int
 |su,[]=>(su,none)
 |su,s::l=>((gr (kC su s).1 l).1,l7 (kC su s).2 (gr (kC su s).1 l).2)
end
theorem EI (su:List Bool)(e:E):uD su e=l7 (jW su e.kids) (if e.k=4/\0<=e.ref/\su[e.ref.toNat]?=some false then some e.a else none):=by
 obtain⟨k,n,nm,on,od,kids,a,ty,ref⟩:=e
 (conv=>lhs;unfold uD)<;>rfl
theorem ue (su:List Bool)(e:E)(l:List E):jW su (e::l)=l7 (uD su e) (jW su l):=by
 (conv=>lhs;unfold jW)<;>rfl
theorem EJ (su:List Bool)(s:Sm):kC su s =
  if s.k=1 then (su.set s.ref.toNat false,jW su s.es)
  else if s.k=2\/s.k=3 then (if 0<=s.ref then su.set s.ref.toNat true else su,jW su s.es)
  else if s.k=7 then (su.map λ_=>true,jW su s.es)
  else if s.k=6 then (su,l7 (jW su s.es) (gr su s.bd).2)
  else if s.k=5 then (List.zipWith (λa b=>a&&b) (gr su s.bd).1 (gr su s.el).1,l7 (jW su s.es) (l7 (gr su s.bd).2 (gr su s.el).2))
  else (su,jW su s.es):=by
 obtain⟨k,nm,on,od,es,bd,el,a,ref⟩:=s
 (conv=>lhs;unfold kC)<;>rfl
theorem uf (su:List Bool)(s:Sm)(l:List Sm):gr su (s::l)=((gr (kC su s).1 l).1,l7 (kC su s).2 (gr (kC su s).1 l).2):=by
 (conv=>lhs;unfold gr)<;>rfl
theorem G8 (su:List Bool):gr su []=(su,none):=by unfold gr;rfl
mutual
theorem G9:∀(su:List Bool)(s:Sm),(kC su s).1.length=su.length
 |su,.mk k nm on od es bd el a ref=>by
  unfold kC
  split
  ·simp
  split
  ·split<;>simp
  split
  ·simp
  split
  ·rfl
  split
  ·simp[tc su bd,tc su el]
  ·rfl
theorem tc:∀(su:List Bool)(l:List Sm),(gr su l).1.length=su.length
 |su,[]=>by unfold gr;rfl
 |su,s::l=>by
  unfold gr
  simp only
  rw[tc (kC su s).1 l,G9 su s]
end
mutual
def He (n:Nat):E->Prop
 |.mk k _ _ _ _ kids _ _ ref=>(k=4->ref<n)/\ya n kids
def ya (n:Nat):List E->Prop
 |[]=>True
 |e::l=>He n e/\ya n l
end
mutual
def EK (n:Nat):Sm->Prop
 |.mk k _ _ _ es bd el _ ref=>ya n es/\(k=1\/k=2->0<=ref/\ref<n)/\(k=3->ref<n)/\rB n bd/\rB n el
def rB (n:Nat):List Sm->Prop
 |[]=>True
 |s::l=>EK n s/\rB n l
end
theorem z5 (n:Nat)(e:E):He n e↔(e.k=4->e.ref<n)/\ya n e.kids:=by
 obtain⟨k,_,nm,on,od,kids,a,ty,ref⟩:=e
 unfold He;exact Iff.rfl
theorem ug (n:Nat)(s:Sm):EK n s↔ya n s.es/\(s.k=1\/s.k=2->0<=s.ref/\s.ref<n)/\(s.k=3->s.ref<n)/\rB n s.bd/\rB n s.el:=by
 obtain⟨k,nm,on,od,es,bd,el,a,ref⟩:=s
 unfold EK;exact Iff.rfl
theorem lR (n:Nat):∀l:List E,ya n l↔∀e∈l,He n e
 |[]=>by simp[ya]
 |e::l=>by simp[ya,lR n l]
theorem qD (n:Nat):∀l:List Sm,rB n l↔∀e∈l,EK n e
 |[]=>by simp[rB]
 |e::l=>by simp[rB,qD n l]
theorem Mp {n m:Nat}(h:n<=m)(e:E):He n e->He m e:=by
 induction e using E.ind with
 |_ e ih=>
  rw[z5,z5,lR,lR]
  exact λ⟨h1,h2⟩=>⟨λhk=>by have:=h1 hk;omega,λx hx=>ih x hx (h2 x hx)⟩
theorem uh {n m:Nat}(h:n<=m)(l:List E):ya n l->ya m l:=by
 rw[lR,lR]
 exact λh2 x hx=>Mp h x (h2 x hx)
theorem DC {n m:Nat}(h:n<=m)(s:Sm):EK n s->EK m s:=by
 induction s using Sm.ind with
 |_ s rL rA=>
  rw[ug,ug]
  rintro⟨h1,h2,h3,h4,h5⟩
  rw[qD]at h4 h5 ⊢
  refine⟨uh h _ h1,λhk=>?_,λhk=>?_,λx hx=>rL x hx (h4 x hx),?_⟩
  ·have:=h2 hk;omega
  ·have:=h3 hk;omega
  ·rw[qD];exact λx hx=>rA x hx (h5 x hx)
theorem Mq {n m:Nat}(h:n<=m)(l:List Sm):rB n l->rB m l:=by
 rw[qD,qD]
 exact λh2 x hx=>DC h x (h2 x hx)
theorem wO {s:List UInt8}:∀{l:List Vd}{i k:Nat}{t:T3},fW s i l=some (k,t)->k<i+l.length
 |[],_,_,_,h=>by cases h
 |f::l,i,k,t,h=>by
  unfold fW at h
  split at h
  ·cases h;simp
  ·have:=wO h
   simp only[List.length_cons];omega
theorem P8 {H:Hd}{V:List Vd}{s:List UInt8}{t:T3}{r:Int}(h:x4 H V s=some (t,r)):r<V.length:=by
 unfold x4 at h
 split at h
 ·rename_i e;cases h;have:=wO e;omega
 ·split at h
  ·cases h;omega
  ·cases h
theorem KP {H:Hd}{V:List Vd}(e:E):∀y,rW H V e=.ok y->He V.length y:=by
 induction e using E.ind with
 |_ e ih=>
  intro y h
  obtain⟨ks,t,r,_,h2,h3,rfl⟩:=x8 h
  rw[z5]
  refine⟨λhk=>?_,?_⟩
  ·have hk:e.k=4:=hk
   show r<_
   unfold mD at h3
   rw[if_neg (by omega),if_neg (by omega),if_neg (by omega),if_pos hk]at h3
   exact P8 h3
  ·show ya _ ks
   rw[lR]
   exact pS h2 ih
theorem wP {H:Hd}{has:Bool}{res:T3}:∀{l ys:List Sm}{V X:List Vd},(∀s∈l,∀V y W,sY H has res V s=.ok (y,W)->V.length<=W.length/\EK W.length y)->j6 H has res V l=.ok (ys,X)->V.length<=X.length/\rB X.length ys
 |[],ys,V,X,_,h=>by
  unfold j6 at h
  cases h
  exact⟨Nat.le_refl _,by simp[rB]⟩
 |s::l,ys,V,X,hp,h=>by
  obtain⟨y,W,zs,h1,h2,rfl⟩:=sZ h
  obtain⟨a1,a2⟩:=hp s List.mem_cons_self V y W h1
  obtain⟨b1,b2⟩:=wP (λt ht=>hp t (List.mem_cons_of_mem _ ht)) h2
  refine⟨by omega,?_⟩
  unfold rB
  exact⟨DC b1 _ a2,b2⟩
theorem acr {H:Hd}{res:T3}{V W:List Vd}{k:Int}{nm:List UInt8}{es:List E}{t:T3}{r:Int}(h:ji H res V k nm es t=some (r,W)):(k=1\/k=2->r=V.length)/\(k=3->r<V.length):=by
 unfold ji at h
 split at h
 ·rename_i c
  split at h
  ·cases h
  ·cases h;exact⟨λ_=>rfl,λh=>by omega⟩
 rename_i n1
 split at h
 ·rename_i c
  split at h
  ·split at h
   ·cases h
   ·cases h;exact⟨λ_=>rfl,λh=>by omega⟩
  ·cases h
 rename_i n2
 split at h
 ·rename_i c
  split at h
  ·rename_i u r' e
   split at h
   ·cases h;exact⟨λh=>by omega,λ_=>P8 e⟩
   ·cases h
  ·cases h
 rename_i n3
 exact⟨λh=>by omega,λh=>by omega⟩
theorem XG {H:Hd}{V:List Vd}{k:Int}{es ys:List E}(h:vO H V k es=.ok ys):ya V.length ys:=by
 unfold vO at h
 rw[lR]
 split at h
 ·split at h
  ·rename_i e l
   cases hx:rW H V e with
   |error a=>rw[hx]at h;cases h
   |ok y=>
    rw[hx]at h;cases h
    intro z hz
    rw[List.mem_singleton.1 hz]
    exact KP e y hx
  ·cases h;simp
 ·exact pS h λe _ y hy=>KP e y hy
theorem T1 {H:Hd}{has:Bool}{res:T3}(s:Sm):∀V y X,sY H has res V s=.ok (y,X)->V.length<=X.length/\EK X.length y:=by
 induction s using Sm.ind with
 |_ s rL rA=>
  intro V y X h
  obtain⟨t,ys,r,W,hf,ht,RK,bY,hh⟩:=BK h
  have o6:=XG RK
  have Z4:V.length<=W.length:=by
   rcases G5 bY with e|⟨_,e⟩
   ·rw[e];exact Nat.le_refl _
   ·rw[e];simp
  have hr:=acr bY
  have CI:s.k=1\/s.k=2->0<=r/\r<(W.length:Int):=λhk=>by
   rcases G5 bY with e|⟨_,e⟩
   ·have h1:=hr.1 hk
    have:W.length=V.length+1:=by
     unfold ji at bY
     rcases hk with hk|hk
     ·rw[if_pos hk]at bY
      split at bY
      ·cases bY
      ·cases bY;simp
     ·rw[if_neg (by omega),if_pos hk]at bY
      split at bY
      ·split at bY
       ·cases bY
       ·cases bY;simp
      ·cases bY
    omega
   ·have h1:=hr.1 hk
    rw[e,h1];simp;omega
  have hr3:s.k=3->r<(W.length:Int):=λhk=>by have:=hr.2 hk;omega
  rcases hh with⟨h5,b,W1,c,hb,hc,rfl⟩|⟨h6,b,hb,rfl⟩|⟨h5,h6,rfl,rfl⟩
  ·obtain⟨a1,a2⟩:=wP (λx hx V y W hw=>rL x hx V y W hw) hb
   obtain⟨b1,b2⟩:=wP (λx hx V y W hw=>rA x hx V y W hw) hc
   refine⟨by omega,(ug _ _).2 ⟨uh (by omega) _ o6,λhk=>?_,λhk=>?_,Mq b1 _ a2,b2⟩⟩
   ·have hk:s.k=1\/s.k=2:=hk
    omega
   ·have hk:s.k=3:=hk
    omega
  ·obtain⟨a1,a2⟩:=wP (λx hx V y W hw=>rL x hx V y W hw) hb
   refine⟨by omega,(ug _ _).2 ⟨uh (by omega) _ o6,λhk=>?_,λhk=>?_,a2,by simp[Sm.el,rB]⟩⟩
   ·have hk:s.k=1\/s.k=2:=hk
    omega
   ·have hk:s.k=3:=hk
    omega
  ·exact⟨Z4,(ug _ _).2 ⟨uh Z4 _ o6,CI,hr3,by simp[Sm.bd,rB],by simp[Sm.el,rB]⟩⟩
theorem T2 {H:Hd}{has:Bool}{res:T3}{l ys:List Sm}{V X:List Vd}(h:j6 H has res V l=.ok (ys,X)):V.length<=X.length/\rB X.length ys:=
 wP (λs _ V y W=>T1 s V y W) h
def Z6 (g:Sg)(b:Bd):List Bool:=List.replicate g.ps.length true++List.replicate (b.vars.length-g.ps.length) false
def CM:List Sg->List Bd->Option Int
 |s::ss,b::bs=>l7 (gr (Z6 s b) b.code).2 (CM ss bs)
 |_,_=>none
theorem Hf {H:Hd}:∀{ss:List Sg}{fs:List Fc}{bs:List Bd},qj H ss fs=.ok bs->∀(k:Nat)(h1:k<ss.length)(h2:k<bs.length),ss[k].ps.length<=bs[k].vars.length/\rB bs[k].vars.length bs[k].code
 |[],_,bs,h,k,h1,_=>by simp at h1
 |s::ss,[],bs,h,k,_,h2=>by
  unfold qj at h;cases h;simp at h2
 |s::ss,f::fs,bs,h,k,h1,h2=>by
  unfold qj at h
  split at h
  ·cases h
  ·rename_i c W hb
   split at h
   ·cases h
   ·rename_i l hl
    cases h
    match k with
    |0=>exact T2 hb
    |k+1=>
     have:=Hf hl k (by simpa using h1) (by simpa using h2)
     simpa using this
end k8
