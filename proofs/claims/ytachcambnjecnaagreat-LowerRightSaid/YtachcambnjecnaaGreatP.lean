/-
  Lists of texts, types, as those who run see them.
-/
import Derived.Test.YtachcambnjecnaaGreatA6

namespace V7
open Ax Go
def gp:AV->Bool
 |.own _ _=>false
 |_=>true
theorem iL {v:AV}(h:gp v=true)(hs:aG v=true):v.view=v:=by cases v<;>simp_all [gp,aG,AV.view]
@[simp] theorem zl (v:AV):gp v.view=true:=by cases v<;>simp[gp,AV.view]
def eJ (sz:Nat)(p:List AV->Bool)(v:AV):Bool:=gp v&&cD sz v&&(aP v).all p
theorem gj {sz:Nat}{p:List AV->Bool}{v:AV}(h:eJ sz p v=true):cD sz v=true:=by simp only[eJ,Bool.and_eq_true]at h;exact h.1.2
theorem jB {sz:Nat}{p:List AV->Bool}{v:AV}(h:eJ sz p v=true):∀r∈aP v,p r=true:=by simp only[eJ,Bool.and_eq_true,List.all_eq_true]at h;exact h.2
theorem iE {sz:Nat}{p:List AV->Bool}{v:AV}(h:eJ sz p v=true):v.view=v:=by
 have h2:=iK (gj h)
 simp only[eJ,Bool.and_eq_true]at h
 exact iL h.1.1 h2
theorem jH {α:Type}{sz:Nat}{p:List AV->Bool}{d:List AV->α}{e:α->List AV}{v:AV}(h:eJ sz p v=true)(he:∀r,p r=true->r=e (d r)):aP v=((aP v).map d).map e:=by
 rw[List.map_map]
 conv=>lhs;rw[<-List.map_id (aP v)]
 exact List.map_congr_left λr hr=>he r (jB h r hr)
def nG (n:Int):Bool:=decide (-9223372036854775808<=n)&&decide (n<=9223372036854775807)
structure T3 where
 b:Int
 r:Int
 d:Int
 deriving DecidableEq
abbrev T0:T3:=⟨0,0,0⟩
@[simp] def T3.cells (t:T3):List AV:=[.int .i64 t.b,.int .i64 t.r,.int .i64 t.d]
def zm (r:List AV):Bool:=match r with | [.int .i64 a,.int .i64 b,.int .i64 c]=>nG a&&nG b&&nG c|_=>false
def dT (r:List AV):T3:=match r with | [.int .i64 a,.int .i64 b,.int .i64 c]=>⟨a,b,c⟩|_=>T0
theorem BX (r:List AV)(h:zm r=true):r=(dT r).cells:=by
 unfold zm at h
 split at h
 ·rfl
 ·cases h
def qZ (v:AV):Bool:=eJ 3 zm v
def dg (v:AV):List T3:=(aP v).map dT
theorem iM {v:AV}(h:qZ v=true):aP v=(dg v).map T3.cells:=jH h BX
theorem nt {v:AV}(h:qZ v=true):v.view=v:=iE h
@[simp] theorem Qp (v:AV):dg v.view=dg v:=by simp[dg]
@[simp] theorem JD {v:AV} (h:qZ v=true):cD 3 v=true:=gj h
@[simp] theorem mQ {v:AV} (h:qZ v=true):aG v=true:=iK (JD h)
def Qq (r:List AV):Bool:=match r with | [.str _]=>true|_=>false
def dSt (r:List AV):List UInt8:=match r with | [.str s]=>s|_=>[]
def sR (v:AV):Bool:=eJ 1 Qq v
def fY (v:AV):List (List UInt8):=(aP v).map dSt
theorem Qr (r:List AV)(h:Qq r=true):r=[.str (dSt r)]:=by
 unfold Qq at h
 split at h
 ·rfl
 ·cases h
theorem Qs {v:AV}(h:sR v=true):aP v=(fY v).map λs=>[.str s]:=jH h Qr
theorem BY {v:AV}(h:sR v=true):v.view=v:=iE h
@[simp] theorem DN (v:AV):fY v.view=fY v:=by simp[fY]
@[simp] theorem Ux {v:AV} (h:sR v=true):cD 1 v=true:=gj h
@[simp] theorem Ak {v:AV} (h:sR v=true):aG v=true:=iK (Ux h)
def zS {α:Type}(p:α->Bool)(l:List α)(k:Nat):Prop:=∀j (h:j<l.length),j<k->p l[j]=false
theorem uU {α:Type}{p:α->Bool}{l:List α}:zS p l 0:=λ_ _ h=>absurd h (by omega)
theorem uV {α:Type}{p:α->Bool}{l:List α}{k:Nat}(h:zS p l k)(h1:k<l.length)(hp:p l[k]=false):zS p l (k+1):=by
 intro j j1 hj
 rcases Nat.lt_or_ge j k with tg|tg
 ·exact h j j1 tg
 ·have:j=k:=by omega
  subst this;exact hp
def td (l:List (List UInt8))(s:List UInt8):Int:=match l.findIdx? λx=>decide (x=s) with
 |some k=>k
 |none=>-1
theorem K1 {l:List (List UInt8)}{s:List UInt8}{k:Nat}(h:zS (λx=>decide (x=s)) l k)(hk:k<l.length)(e:l[k]=s):td l s=k:=by
 have:l.findIdx? (λx=>decide (x=s))=some k:=by
  rw[List.findIdx?_eq_some_iff_getElem]
  refine⟨hk,by simpa using e,λj hj=>?_⟩
  have:=h j (by omega) hj
  simpa using this
 unfold td
 rw[this]
theorem DO {l:List (List UInt8)}{s:List UInt8}(h:zS (λx=>decide (x=s)) l l.length):td l s = -1:=by
 have:l.findIdx? (λx=>decide (x=s))=none:=by
  rw[List.findIdx?_eq_none_iff]
  intro x hx
  obtain⟨j,hj,rfl⟩:=List.mem_iff_getElem.1 hx
  exact h j hj hj
 unfold td
 rw[this]
theorem Uy (l:List (List UInt8))(s:List UInt8):td l s = -1\/∃k:Nat,td l s=k/\k<l.length:=by
 unfold td
 cases e:l.findIdx? λx=>decide (x=s) with
 |none=>exact .inl rfl
 |some k=>exact .inr ⟨k,rfl,(List.findIdx?_eq_some_iff_getElem.1 e).1⟩
def cM (l:List (List UInt8))(s:List UInt8)(d:Int):T3×Bool:=
 if d<0\/3<d then (T0,false) else
 if s=[105,110,116] then (⟨1,0,d⟩,true) else
 if s=[98,111,111,108] then (⟨2,0,d⟩,true) else
 if td l s<0 then (T0,false) else (⟨3,td l s,d⟩,true)
def kX (t:T3):Bool:=decide (t.b=3)||decide (0<t.d)
structure PD where
 name:List UInt8
 on:List UInt8
 od:Int
 at_:Int
def PD.cells (p:PD):List AV:=[.str p.name,.str p.on,.int .i64 p.od,.int .i64 p.at_]
def K2 (r:List AV):Bool:=match r with | [.str _,.str _,.int .i64 d,.int .i64 a]=>nG d&&nG a|_=>false
def dP (r:List AV):PD:=match r with | [.str n,.str o,.int .i64 d,.int .i64 a]=>⟨n,o,d,a⟩|_=>⟨[],[],0,0⟩
theorem Qt (r:List AV)(h:K2 r=true):r=(dP r).cells:=by
 unfold K2 at h
 split at h
 ·rfl
 ·cases h
def zT (v:AV):Bool:=eJ 4 K2 v
def nY (v:AV):List PD:=(aP v).map dP
theorem Uz {v:AV}(h:zT v=true):aP v=(nY v).map PD.cells:=jH h Qt
theorem xD {v:AV}(h:zT v=true):v.view=v:=iE h
@[simp] theorem ac4 (v:AV):nY v.view=nY v:=by simp[nY]
@[simp] theorem Yp {v:AV} (h:zT v=true):cD 4 v=true:=gj h
@[simp] theorem BZ {v:AV} (h:zT v=true):aG v=true:=iK (Yp h)
structure CR where
 name:List UInt8
 fields:AV
 at_:Int
def CR.cells (r:CR):List AV:=[.str r.name,r.fields,.int .i64 r.at_]
def DP (r:List AV):Bool:=match r with | [.str _,f,.int .i64 a]=>zT f&&nG a|_=>false
def dCR (r:List AV):CR:=match r with | [.str s,f,.int .i64 a]=>⟨s,f,a⟩|_=>⟨[],.U,0⟩
theorem Qu (r:List AV)(h:DP r=true):r=(dCR r).cells:=by
 unfold DP at h
 split at h
 ·rfl
 ·cases h
def zn (v:AV):Bool:=eJ 3 DP v
def dn (v:AV):List CR:=(aP v).map dCR
theorem Qv {v:AV}(h:zn v=true):aP v=(dn v).map CR.cells:=jH h Qu
theorem DQ {v:AV}(h:zn v=true):∀r∈dn v,zT r.fields=true:=by
 intro r hr
 obtain⟨x,hx,rfl⟩:=List.mem_map.1 hr
 have:=jB h x hx
 unfold DP at this
 unfold dCR
 split at this
 ·simp only[Bool.and_eq_true]at this;exact this.1
 ·cases this
theorem Hw {v:AV}(h:zn v=true):v.view=v:=iE h
@[simp] theorem aaS (v:AV):dn v.view=dn v:=by simp[dn]
@[simp] theorem UA {v:AV} (h:zn v=true):cD 3 v=true:=gj h
@[simp] theorem K3 {v:AV} (h:zn v=true):aG v=true:=iK (UA h)
structure FN where
 name:List UInt8
 params:AV
 has:Bool
 on:List UInt8
 od:Int
 body:AV
 at_:Int
def FN.cells (f:FN):List AV:=[.str f.name,f.params,.bool f.has,.str f.on,.int .i64 f.od,f.body,.int .i64 f.at_]
def DR (r:List AV):Bool:=match r with | [.str _,p,.bool _,.str _,.int .i64 d,b,.int .i64 a]=>zT p&&gp b&&aG b&&nG d&&nG a|_=>false
def dFN (r:List AV):FN:=match r with | [.str n,p,.bool h,.str o,.int .i64 d,b,.int .i64 a]=>⟨n,p,h,o,d,b,a⟩|_=>⟨[],.U,false,[],0,.U,0⟩
theorem Qw (r:List AV)(h:DR r=true):r=(dFN r).cells:=by
 unfold DR at h
 split at h
 ·rfl
 ·cases h
def zo (v:AV):Bool:=eJ 7 DR v
def jr (v:AV):List FN:=(aP v).map dFN
theorem Qx {v:AV}(h:zo v=true):aP v=(jr v).map FN.cells:=jH h Qw
theorem ME {v:AV}(h:zo v=true):∀r∈jr v,zT r.params=true/\gp r.body=true/\aG r.body=true:=by
 intro r hr
 obtain⟨x,hx,rfl⟩:=List.mem_map.1 hr
 have:=jB h x hx
 unfold DR at this
 unfold dFN
 split at this
 ·simp only[Bool.and_eq_true]at this;exact⟨this.1.1.1.1,this.1.1.1.2,this.1.1.2⟩
 ·cases this
theorem Hx {v:AV}(h:zo v=true):v.view=v:=iE h
@[simp] theorem aaT (v:AV):jr v.view=jr v:=by simp[jr]
@[simp] theorem UB {v:AV} (h:zo v=true):cD 7 v=true:=gj h
@[simp] theorem K4 {v:AV} (h:zo v=true):aG v=true:=iK (UB h)
structure GD where
 aQ:AV
 globals:AV
 funcs:AV
def GD.cells (p:GD):List AV:=[p.aQ,p.globals,p.funcs]
structure GD.ok (p:GD):Prop where
 aQ:zn p.aQ=true
 globals:zT p.globals=true
 funcs:zo p.funcs=true
def kg (l:List CR):List (List UInt8):=l.map (·.name)
def EZ (rs:List (List UInt8))(p:PD):List AV:=.str p.name::(cM rs p.on p.od).1.cells
def gD (rs:List (List UInt8))(l:List PD):List (List AV):=l.map (EZ rs)
def vz (a b:Option Int):Option Int:=match a with|some x=>some x|none=>b
def xE (rs:List (List UInt8))(before:List PD)(p:PD):Option Int:=if before.any (λq=>decide (q.name=p.name)) || !(cM rs p.on p.od).2 then some p.at_ else none
def gb {α:Type}(bad:List α->α->Option Int)(l:List α):Nat->Option Int
 |0=>none
 |k+1=>vz (gb bad l k) (match l[k]? with|some x=>bad (l.take k) x|none=>none)
end V7
namespace lP
open Ax Go V7
structure Tk where
 k:Int
 t:List UInt8
 n:Int
 a:Int
def Tk.cells (x:Tk):List AV:=[.int .i64 x.k,.str x.t,.int .i64 x.n,.int .i64 x.a]
abbrev Tk0:Tk:=⟨0,[],0,0⟩
structure TL (l:AV)(T:List Tk):Prop where
 sz:cD 4 l=true
 rows:aP l=T.map Tk.cells
 len:T.length<1000000000
theorem TL.sl {l:AV}{T:List Tk}(h:TL l T):aG l=true:=iK h.sz
structure RQ where
 at_:Nat
 op:Int
 fe:Int
 fa:Int
def RQ.obj (l:AV)(q:RQ):fB:=.rows 0 5 [[l,.int .i64 q.at_,.int .i64 q.op,.int .i64 q.fe,.int .i64 q.fa]]
def cur (T:List Tk)(q:RQ):Tk:=T.getD q.at_ Tk0
def iu (T:List Tk)(q:RQ)(e:Int):RQ:=if q.fe=0 then ⟨q.at_,q.op,e,(cur T q).a⟩ else q
def wE (s:List UInt8):Int:=match s with|c::_=>if 97<=c.toNat/\c.toNat<=122 then 3 else 4 | []=>4
def gf (T:List Tk)(q:RQ)(s:List UInt8):Bool:=decide (q.fe=0)&&decide ((cur T q).k=wE s)&&decide ((cur T q).t=s)
def bE (q:RQ):RQ:=⟨q.at_+1,q.op,q.fe,q.fa⟩
def cJ (T:List Tk)(q:RQ)(s:List UInt8):RQ:=if gf T q s then bE q else iu T q 2
def tY (q:RQ)(d:Int):RQ:=⟨q.at_,IntKind.i64.wrap (q.op+d),q.fe,q.fa⟩
def iR (T:List Tk)(q:RQ)(s:List UInt8):RQ:=if gf T q s&&decide (50<=q.op) then iu T q 4 else tY (cJ T q s) 1
def kD (T:List Tk)(q:RQ)(s:List UInt8):RQ:=tY (cJ T q s) (-1)
def cY (T:List Tk)(q:RQ):List UInt8×RQ:=if q.fe=0/\(cur T q).k=1 then ((cur T q).t,bE q) else ([],iu T q 2)
def sw (T:List Tk)(q:RQ)(s:List UInt8):Nat->RQ
 |0=>q
 |k+1=>cJ T (sw T q s k) s
def Hy (T:List Tk):Nat->Nat->RQ->Nat×RQ
 |0,d,q=>(d,q)
 |k+1,d,q=>if gf T q [91] then Hy T k (d+1) (bE q) else (d,q)
def ofN (T:List Tk)(q:RQ):List UInt8×RQ:=if gf T q [105,110,116]||gf T q [98,111,111,108] then ((cur T q).t,bE q) else cY T q
def vQ (T:List Tk)(q:RQ):(List UInt8×Int)×RQ:=
 if gf T (Hy T 3 0 q).2 [91] then (([],0),iu T (Hy T 3 0 q).2 4)
 else (((ofN T (Hy T 3 0 q).2).1,((Hy T 3 0 q).1:Int)),sw T (ofN T (Hy T 3 0 q).2).2 [93] (Hy T 3 0 q).1)
def aD (sz:Nat)(rows:List (List AV)):AV:=(cp sz rows).view
inductive E where
 |mk (k n:Int) (nm on:List UInt8) (od:Int) (kids:List E) (a:Int) (ty:T3) (ref:Int)
def E.k:E->Int|.mk k _ _ _ _ _ _ _ _=>k
def E.n:E->Int|.mk _ n _ _ _ _ _ _ _=>n
def E.nm:E->List UInt8|.mk _ _ nm _ _ _ _ _ _=>nm
def E.on:E->List UInt8|.mk _ _ _ on _ _ _ _ _=>on
def E.od:E->Int|.mk _ _ _ _ od _ _ _ _=>od
def E.kids:E->List E|.mk _ _ _ _ _ kids _ _ _=>kids
def E.a:E->Int|.mk _ _ _ _ _ _ a _ _=>a
def E.ty:E->T3|.mk _ _ _ _ _ _ _ ty _=>ty
def E.ref:E->Int|.mk _ _ _ _ _ _ _ _ ref=>ref
mutual
def E.row:E->List AV
 |.mk k n nm on od kids a ty ref=>[.int .i64 k,.int .i64 n,.str nm,.str on,.int .i64 od,aD 11 (E.rows kids),.int .i64 a,.int .i64 ty.b,.int .i64 ty.r,.int .i64 ty.d,.int .i64 ref]
def E.rows:List E->List (List AV)
 |[]=>[]
 |e::l=>e.row::E.rows l
end
def Em (k n:Int)(nm on:List UInt8)(od:Int)(kids:List E)(a:Int):E:=.mk k n nm on od kids a T0 0
def aY (l:List E):AV:=aD 11 (E.rows l)
inductive Sm where
 |mk (k:Int) (nm on:List UInt8) (od:Int) (es:List E) (bd el:List Sm) (a ref:Int)
def Sm.k:Sm->Int|.mk k _ _ _ _ _ _ _ _=>k
def Sm.nm:Sm->List UInt8|.mk _ nm _ _ _ _ _ _ _=>nm
def Sm.on:Sm->List UInt8|.mk _ _ on _ _ _ _ _ _=>on
def Sm.od:Sm->Int|.mk _ _ _ od _ _ _ _ _=>od
def Sm.es:Sm->List E|.mk _ _ _ _ es _ _ _ _=>es
def Sm.bd:Sm->List Sm|.mk _ _ _ _ _ bd _ _ _=>bd
def Sm.el:Sm->List Sm|.mk _ _ _ _ _ _ el _ _=>el
def Sm.a:Sm->Int|.mk _ _ _ _ _ _ _ a _=>a
def Sm.ref:Sm->Int|.mk _ _ _ _ _ _ _ _ ref=>ref
mutual
def Sm.row:Sm->List AV
 |.mk k nm on od es bd el a ref=>[.int .i64 k,.str nm,.str on,.int .i64 od,aY es,aD 9 (Sm.rows bd),aD 9 (Sm.rows el),.int .i64 a,.int .i64 ref]
def Sm.rows:List Sm->List (List AV)
 |[]=>[]
 |s::l=>s.row::Sm.rows l
end
def bz (l:List Sm):AV:=aD 9 (Sm.rows l)
structure Rc where
 name:List UInt8
 fields:List PD
 a:Int
def Rc.row (r:Rc):List AV:=[.str r.name,aD 4 (r.fields.map PD.cells),.int .i64 r.a]
structure Fc where
 name:List UInt8
 params:List PD
 has:Bool
 on:List UInt8
 od:Int
 body:List Sm
 a:Int
def Fc.row (f:Fc):List AV:=[.str f.name,aD 4 (f.params.map PD.cells),.bool f.has,.str f.on,.int .i64 f.od,bz f.body,.int .i64 f.a]
structure Pg where
 aQ:List Rc
 globals:List PD
 funcs:List Fc
def Pg.row (p:Pg):List AV:=[aD 3 (p.aQ.map Rc.row),aD 4 (p.globals.map PD.cells),aD 7 (p.funcs.map Fc.row)]
@[simp] theorem bq {sz:Nat} {r:List (List AV)}:aG (aD sz r)=true:=by simp[aD]
@[simp] theorem aO {sz:Nat} {r:List (List AV)}:aP (aD sz r)=r:=by simp[aD]
@[simp] theorem br {sz:Nat} {r:List (List AV)}:(aD sz r).view=aD sz r:=by
 unfold aD cp;split<;>simp[AV.view]
@[simp] theorem oP {sz:Nat} {r:List (List AV)}:(aD sz r).cw=true:=bD bq
@[simp] theorem oQ {sz:Nat} {r:List (List AV)}:(aD sz r).au=true:=bC bq
@[simp] theorem bw {l:List E}:aG (aY l)=true:=bq
@[simp] theorem bF {l:List E}:(aY l).view=aY l:=br
@[simp] theorem ac6 {l:List E}:(aY l).cw=true:=oP
@[simp] theorem ac7 {l:List E}:(aY l).au=true:=oQ
@[simp] theorem bJ {l:List Sm}:aG (bz l)=true:=bq
@[simp] theorem bM {l:List Sm}:(bz l).view=bz l:=br
@[simp] theorem ac8 {l:List Sm}:(bz l).cw=true:=oP
@[simp] theorem ac9 {l:List Sm}:(bz l).au=true:=oQ
@[simp] theorem ada {sz:Nat}:aD sz []=.U:=rfl
@[simp] theorem MF {sz:Nat} {r:List AV} {l:List (List AV)}:aD sz (r::l)=.cU sz (r::l):=rfl
theorem gQ:∀l:List E,E.rows l=l.map E.row
 |[]=>by simp[E.rows]
 |e::l=>by simp[E.rows,gQ l]
theorem gr:∀l:List Sm,Sm.rows l=l.map Sm.row
 |[]=>by simp[Sm.rows]
 |e::l=>by simp[Sm.rows,gr l]
theorem oA:aY []=.U:=by simp[aY,E.rows,aD,nk,AV.view]
theorem E.aH (e:E):e.row=[.int .i64 e.k,.int .i64 e.n,.str e.nm,.str e.on,.int .i64 e.od,aY e.kids,.int .i64 e.a,.int .i64 e.ty.b,.int .i64 e.ty.r,.int .i64 e.ty.d,.int .i64 e.ref]:=by
 cases e;simp[E.row,E.k,E.n,E.nm,E.on,E.od,E.kids,E.a,E.ty,E.ref,aY]
theorem Sm.aH (s:Sm):s.row=[.int .i64 s.k,.str s.nm,.str s.on,.int .i64 s.od,aY s.es,bz s.bd,bz s.el,.int .i64 s.a,.int .i64 s.ref]:=by
 cases s;simp[Sm.row,Sm.k,Sm.nm,Sm.on,Sm.od,Sm.es,Sm.bd,Sm.el,Sm.a,Sm.ref,bz]
def dA:Nat->List (List UInt8×Int)
 |0=>[([124,124],24)]
 |1=>[([38,38],23)]
 |2=>[([60],19),([60,61],20),([61,61],21),([33,61],22)]
 |3=>[([43],14),([45],15)]
 |_=>[([42],16),([47],17),([37],18)]
def fI:List (List UInt8×Int)->List UInt8->Int
 |[],_=>0
 |(s,k)::r,t=>if s=t then k else fI r t
def sx (n:Nat)(c:Tk):Int:=if c.k=4 then fI (dA n) c.t else 0
mutual
def iw (T:List Tk):Nat->Nat->RQ->Option (E×RQ)
 |0,_,_=>none
 |f+1,n,q=>if n=5 then nZ T f q else (iw T f (n+1) q).bind λx=>mR T f n x.1 x.2
def mR (T:List Tk):Nat->Nat->E->RQ->Option (E×RQ)
 |0,_,_,_=>none
 |f+1,n,a,q=>if q.fe=0/\sx n (cur T q)≠0 then
   (iw T f (n+1) (bE q)).bind λx=>mR T f n (Em (sx n (cur T q)) 0 [] [] 0 [a,x.1] (cur T q).a) x.2
  else some (a,q)
def nZ (T:List Tk):Nat->RQ->Option (E×RQ)
 |0,_=>none
 |f+1,q=>if gf T q [45]||gf T q [33] then
   (iw T f 5 (iR T q (cur T q).t)).bind λx=>some (Em (if gf T q [45] then 12 else 13) 0 [] [] 0 [x.1] (cur T q).a,tY x.2 (-1))
  else (n5 T f q).bind λx=>jC T f x.1 x.2
def jC (T:List Tk):Nat->E->RQ->Option (E×RQ)
 |0,_,_=>none
 |f+1,a,q=>if gf T q [46] then jC T f (Em 5 0 (cY T (bE q)).1 [] 0 [a] (cur T q).a) (cY T (bE q)).2
  else if gf T q [91] then (iw T f 0 (iR T q [91])).bind λx=>jC T f (Em 6 0 [] [] 0 [a,x.1] (cur T q).a) (kD T x.2 [93])
  else some (a,q)
def l9 (T:List Tk):Nat->RQ->Option (E×RQ)
 |0,_=>none
 |f+1,q=>(iw T f 0 (iR T q [40])).bind λx=>some (x.1,kD T x.2 [41])
def n5 (T:List Tk):Nat->RQ->Option (E×RQ)
 |0,_=>none
 |f+1,q=>
  if q.fe=0/\(cur T q).k=2 then some (Em 1 (cur T q).n [] [] 0 [] (cur T q).a,bE q)
  else if gf T q [116,114,117,101]||gf T q [102,97,108,115,101] then some (Em 2 (if (cur T q).t=[116,114,117,101] then 1 else 0) [] [] 0 [] (cur T q).a,bE q)
  else if gf T q [110,117,108,108] then some (Em 3 0 [] (vQ T (bE q)).1.1 (vQ T (bE q)).1.2 [] (cur T q).a,(vQ T (bE q)).2)
  else if gf T q [110,101,119] then n6 T f (cur T q).a (bE q)
  else if gf T q [108,101,110] then (l9 T f (bE q)).bind λx=>some (Em 10 0 [] [] 0 [x.1] (cur T q).a,x.2)
  else if gf T q [114,101,97,100] then some (Em 11 0 [] [] 0 [] (cur T q).a,kD T (iR T (bE q) [40]) [41])
  else if gf T q [40] then l9 T f q
  else if gf T (cY T q).2 [40] then (sS T f (cY T q).2).bind λx=>some (Em 7 0 (cY T q).1 [] 0 x.1 (cur T q).a,x.2)
  else some (Em 4 0 (cY T q).1 [] 0 [] (cur T q).a,(cY T q).2)
def n6 (T:List Tk):Nat->Int->RQ->Option (E×RQ)
 |0,_,_=>none
 |f+1,a,q=>if gf T q [91] then
   (l9 T f (cJ T (vQ T (bE q)).2 [93])).bind λx=>some (Em 9 0 [] (vQ T (bE q)).1.1 (vQ T (bE q)).1.2 [x.1] a,x.2)
  else some (Em 8 0 [] (cY T q).1 0 [] a,(cY T q).2)
def sS (T:List Tk):Nat->RQ->Option (List E×RQ)
 |0,_=>none
 |f+1,q=>if gf T (iR T q [40]) [41] then some ([],kD T (iR T q [40]) [41])
  else (iw T f 0 (iR T q [40])).bind λx=>ri T f [x.1] x.2
def ri (T:List Tk):Nat->List E->RQ->Option (List E×RQ)
 |0,_,_=>none
 |f+1,l,q=>if gf T q [44] then (iw T f 0 (bE q)).bind λx=>ri T f (l++[x.1]) x.2
  else some (l,kD T q [41])
end
def qD (T:List Tk)(f:Nat)(a:Int)(q:RQ):Option (Sm×RQ):=
 (iw T f 0 q).bind λx=>if gf T x.2 [61] then
   (iw T f 0 (cJ T (if x.1.k=4\/x.1.k=5\/x.1.k=6 then x.2 else iu T x.2 2) [61])).bind λy=>
    some (if x.1.k=4 then .mk 3 x.1.nm [] 0 [y.1] [] [] a 0 else .mk 4 [] [] 0 [x.1,y.1] [] [] a 0,cJ T y.2 [59])
  else some (.mk 9 [] [] 0 [x.1] [] [] a 0,cJ T (if gf T x.2 [59]=true/\x.1.k≠7 then iu T x.2 2 else x.2) [59])
def cZ (T:List Tk)(q:RQ):PD×RQ:=
 (⟨(cY T q).1,(vQ T (cJ T (cY T q).2 [58])).1.1,(vQ T (cJ T (cY T q).2 [58])).1.2,(cur T q).a⟩,(vQ T (cJ T (cY T q).2 [58])).2)
mutual
def sU (T:List Tk):Nat->RQ->Option (Sm×RQ)
 |0,_=>none
 |f+1,q=>
  if gf T q [118,97,114] then
   some (.mk 1 (cZ T (bE q)).1.name (cZ T (bE q)).1.on (cZ T (bE q)).1.od [] [] [] (cur T q).a 0,cJ T (cZ T (bE q)).2 [59])
  else if gf T q [108,101,116] then (iw T f 0 (cJ T (cZ T (bE q)).2 [61])).bind λx=>
   some (.mk 2 (cZ T (bE q)).1.name (cZ T (bE q)).1.on (cZ T (bE q)).1.od [x.1] [] [] (cur T q).a 0,cJ T x.2 [59])
  else if gf T q [105,102] then (iw T f 0 (bE q)).bind λx=>(ji T f x.2).bind λy=>
   if gf T y.2 [101,108,115,101] then (ji T f (bE y.2)).bind λz=>some (.mk 5 [] [] 0 [x.1] y.1 z.1 (cur T q).a 0,z.2)
   else some (.mk 5 [] [] 0 [x.1] y.1 [] (cur T q).a 0,y.2)
  else if gf T q [119,104,105,108,101] then (iw T f 0 (bE q)).bind λx=>(ji T f x.2).bind λy=>
   some (.mk 6 [] [] 0 [x.1] y.1 [] (cur T q).a 0,y.2)
  else if gf T q [114,101,116,117,114,110] then
   if gf T (bE q) [59] then some (.mk 7 [] [] 0 [] [] [] (cur T q).a 0,cJ T (bE q) [59])
   else (iw T f 0 (bE q)).bind λx=>some (.mk 7 [] [] 0 [x.1] [] [] (cur T q).a 0,cJ T x.2 [59])
  else if gf T q [112,114,105,110,116] then (iw T f 0 (bE q)).bind λx=>some (.mk 8 [] [] 0 [x.1] [] [] (cur T q).a 0,cJ T x.2 [59])
  else qD T f (cur T q).a q
def ji (T:List Tk):Nat->RQ->Option (List Sm×RQ)
 |0,_=>none
 |f+1,q=>mS T f [] (iR T q [123])
def mS (T:List Tk):Nat->List Sm->RQ->Option (List Sm×RQ)
 |0,_,_=>none
 |f+1,l,q=>if q.fe=0/\gf T q [125]=false then (sU T f q).bind λx=>mS T f (l++[x.1]) x.2
  else some (l,kD T q [125])
end
def kE (T:List Tk):Nat->List PD->RQ->Option (List PD×RQ)
 |0,_,_=>none
 |f+1,l,q=>if q.fe=0/\gf T q [125]=false then
   if (cur T q).k=1/\l.length=8 then some (l,iu T q 4)
   else kE T f (l++[(cZ T q).1]) (cJ T (cZ T q).2 [59])
  else some (l,q)
def oB (T:List Tk)(f:Nat)(q:RQ):Option (Rc×RQ):=
 (kE T f [] (cJ T (cY T q).2 [123])).bind λx=>some (⟨(cY T q).1,x.1,(cur T q).a⟩,cJ T x.2 [125])
def B0 (T:List Tk)(q:RQ):RQ:=if gf T q [41] then q else if gf T (cJ T q [44]) [41] then iu T (cJ T q [44]) 2 else cJ T q [44]
def kF (T:List Tk):Nat->List PD->RQ->Option (List PD×RQ)
 |0,_,_=>none
 |f+1,l,q=>if q.fe=0/\gf T q [41]=false then
   if (cur T q).k=1/\l.length=6 then some (l,iu T q 4)
   else kF T f (l++[(cZ T q).1]) (B0 T (cZ T q).2)
  else some (l,q)
def tZ (T:List Tk)(f:Nat)(q:RQ):Option (Fc×RQ):=
 (kF T f [] (cJ T (cY T q).2 [40])).bind λx=>
  if gf T (cJ T x.2 [41]) [58] then
   (ji T f (vQ T (bE (cJ T x.2 [41]))).2).bind λy=>some (⟨(cY T q).1,x.1,true,(vQ T (bE (cJ T x.2 [41]))).1.1,(vQ T (bE (cJ T x.2 [41]))).1.2,y.1,(cur T q).a⟩,y.2)
  else (ji T f (cJ T x.2 [41])).bind λy=>some (⟨(cY T q).1,x.1,false,[],0,y.1,(cur T q).a⟩,y.2)
def Yq:List UInt8:=[114,101,99,111,114,100]
def Qy:List UInt8:=[103,108,111,98,97,108]
def Qz:List UInt8:=[102,117,110,99]
def nH (T:List Tk):Nat->Pg->RQ->Option (Pg×RQ)
 |0,_,_=>none
 |f+1,p,q=>if q.fe=0/\(cur T q).k≠0 then
   if gf T q Yq=true/\p.aQ.length=12\/gf T q Qy=true/\p.globals.length=8\/gf T q Qz=true/\p.funcs.length=16 then nH T f p (iu T q 4)
   else if gf T q Yq then (oB T f (bE q)).bind λx=>nH T f ⟨p.aQ++[x.1],p.globals,p.funcs⟩ x.2
   else if gf T q Qy then nH T f ⟨p.aQ,p.globals++[(cZ T (bE q)).1],p.funcs⟩ (cJ T (cZ T (bE q)).2 [59])
   else if gf T q Qz then (tZ T f (bE q)).bind λx=>nH T f ⟨p.aQ,p.globals,p.funcs++[x.1]⟩ x.2
   else nH T f p (iu T q 2)
  else some (p,q)
def Al:Pg:=⟨[],[],[]⟩
def sy (T:List Tk)(f:Nat):Option (Pg×Int×Int):=
 (nH T f Al ⟨0,0,0,0⟩).bind λx=>some (if x.2.fe=0 then (x.1,0,0) else (Al,x.2.fe,x.2.fa))
end lP
namespace lP
open Ax Go V7
structure Good (T:List Tk)(q r:RQ):Prop where
 le:q.at_<=r.at_
 ub:q.at_<=T.length->r.at_<=T.length
 bad:q.fe≠0->r.fe=q.fe/\r.at_=q.at_
theorem Good.refl (T:List Tk)(q:RQ):Good T q q:=⟨Nat.le_refl _,id,λ_=>⟨rfl,rfl⟩⟩
theorem Good.trans {T:List Tk}{q r s:RQ}(h:Good T q r)(k:Good T r s):Good T q s:=
 ⟨Nat.le_trans h.le k.le,λu=>k.ub (h.ub u),λb=>by
  obtain⟨a1,a2⟩:=h.bad b
  obtain⟨b1,b2⟩:=k.bad (by rw[a1];exact b)
  exact⟨b1.trans a1,b2.trans a2⟩⟩
theorem Good.zp {T:List Tk}{q r:RQ}(h:Good T q r)(f:r.fe=0):q.fe=0:=by
 apply Classical.byContradiction
 intro hn
 have:=(h.bad hn).1
 rw[f]at this
 exact hn this.symm
theorem sA {T:List Tk}{q:RQ}(h:(cur T q).k≠0):q.at_<T.length:=by
 apply Classical.byContradiction
 intro hn
 rw[cur,List.getD,List.getElem?_eq_none (by omega)]at h
 exact h rfl
theorem MG (s:List UInt8):wE s≠0:=by
 unfold wE
 split
 ·split<;>decide
 ·decide
theorem bg {T:List Tk}{q:RQ}{s:List UInt8}(h:gf T q s=true):q.fe=0/\q.at_<T.length:=by
 simp only[gf,Bool.and_eq_true,decide_eq_true_eq]at h
 exact⟨h.1.1,sA (by rw[h.1.2];exact MG s)⟩
theorem DS {T:List Tk}{q:RQ}{s:List UInt8}(h:gf T q s=true):(cur T q).t=s:=by
 simp only[gf,Bool.and_eq_true,decide_eq_true_eq]at h
 exact h.2
theorem UC {T:List Tk}{q:RQ}{s:List UInt8}(h:q.fe≠0):gf T q s=false:=by simp[gf,h]
theorem xF {T:List Tk}{q:RQ}{n:Nat}(h:sx n (cur T q)≠0):q.at_<T.length:=sA (by
 unfold sx at h
 split at h
 ·rename_i e;rw[e];decide
 ·exact absurd rfl h)
theorem cg {T:List Tk}{q:RQ}(h:q.fe=0)(h2:q.at_<T.length):Good T q (bE q):=⟨Nat.le_succ _,λ_=>h2,λb=>absurd h b⟩
theorem iF {T:List Tk}{q:RQ}{e:Int}:Good T q (iu T q e):=by
 unfold iu
 split
 ·rename_i h;exact⟨Nat.le_refl _,id,λb=>absurd h b⟩
 ·exact Good.refl T q
theorem yB {T:List Tk}{q:RQ}{d:Int}:Good T q (tY q d):=⟨Nat.le_refl _,id,λ_=>⟨rfl,rfl⟩⟩
theorem aW {T:List Tk}{q:RQ}{s:List UInt8}:Good T q (cJ T q s):=by
 unfold cJ
 split
 ·rename_i h;exact cg (bg h).1 (bg h).2
 ·exact iF
theorem eG {T:List Tk}{q:RQ}{s:List UInt8}:Good T q (iR T q s):=by
 unfold iR
 split
 ·exact iF
 ·exact aW.trans yB
theorem dY {T:List Tk}{q:RQ}{s:List UInt8}:Good T q (kD T q s):=aW.trans yB
theorem gm {T:List Tk}{q:RQ}:Good T q (cY T q).2:=by
 unfold cY
 split
 ·rename_i h;exact cg h.1 (sA (by rw[h.2];decide))
 ·exact iF
theorem B1 {T:List Tk}{q:RQ}{s:List UInt8}:∀k,Good T q (sw T q s k)
 |0=>Good.refl T q
 |k+1=>(B1 k).trans aW
theorem B2 {T:List Tk}:∀(k d:Nat)(q:RQ),Good T q (Hy T k d q).2/\(Hy T k d q).1<=d+k/\d<=(Hy T k d q).1
 |0,d,q=>⟨Good.refl T q,Nat.le_refl _,Nat.le_refl _⟩
 |k+1,d,q=>by
  unfold Hy
  split
  ·rename_i h
   obtain⟨h1,h2,h3⟩:=B2 (T:=T) k (d+1) (bE q)
   exact⟨(cg (bg h).1 (bg h).2).trans h1,by omega,by omega⟩
  ·exact⟨Good.refl T q,by simp,Nat.le_refl _⟩
theorem QA {T:List Tk}{q:RQ}:Good T q (ofN T q).2:=by
 unfold ofN
 split
 ·rename_i h
  rw[Bool.or_eq_true]at h
  rcases h with h|h<;>exact cg (bg h).1 (bg h).2
 ·exact gm
theorem mc {T:List Tk}{q:RQ}:Good T q (vQ T q).2:=by
 unfold vQ
 have h:=(B2 (T:=T) 3 0 q).1
 split
 ·exact h.trans iF
 ·exact(h.trans QA).trans (B1 _)
theorem JE {T:List Tk}{q:RQ}:0<=(vQ T q).1.2/\(vQ T q).1.2<=3:=by
 have h:=(B2 (T:=T) 3 0 q).2.1
 unfold vQ
 split
 ·exact⟨Int.le_refl _,by show (0:Int)<=3;decide⟩
 ·refine⟨Int.natCast_nonneg _,?_⟩
  simp only
  omega
theorem g9 {T:List Tk}{q:RQ}:Good T q (cZ T q).2:=(gm.trans aW).trans mc
def mu (T:List Tk)(q:RQ):Nat:=if q.fe=0 then T.length-q.at_+1 else 0
theorem kh {T:List Tk}{q r:RQ}(h:Good T q r):mu T r<=mu T q:=by
 unfold mu
 by_cases f:q.fe=0
 ·rw[if_pos f]
  split
  ·have:=h.le;omega
  ·omega
 ·obtain⟨a1,_⟩:=h.bad f
  rw[a1,if_neg f,if_neg f]
  exact Nat.le_refl _
def sB (T:List Tk)(q r:RQ):Prop:=r.fe≠0\/q.at_<T.length/\q.at_<r.at_
theorem B3 {T:List Tk}{q r:RQ}(f:q.fe=0)(w:sB T q r):mu T r<mu T q:=by
 unfold mu
 rw[if_pos f]
 rcases w with w|⟨w,v⟩
 ·rw[if_neg w];omega
 ·split<;>omega
theorem me {T:List Tk}{q r:RQ}(h:Good T q r)(w:sB T q r):mu T r<=mu T q-1:=by
 by_cases f:q.fe=0
 ·have:=B3 f w;omega
 ·have h0:mu T q=0:=by unfold mu;rw[if_neg f]
  have:=kh h
  omega
theorem pG {T:List Tk}{q:RQ}(f:q.fe=0):0<mu T q:=by unfold mu;rw[if_pos f];omega
theorem jI {T:List Tk}{q:RQ}{e:Int}(he:e≠0):(iu T q e).fe≠0:=by
 unfold iu
 split
 ·exact he
 ·assumption
theorem kG {T:List Tk}{q:RQ}(h:q.at_<T.length):sB T q (bE q):=.inr ⟨h,Nat.lt_succ_self _⟩
theorem jj {T:List Tk}{q:RQ}{s:List UInt8}:sB T q (cJ T q s):=by
 unfold cJ
 split
 ·rename_i h;exact kG (bg h).2
 ·exact .inl (jI (by decide))
theorem jD {T:List Tk}{q:RQ}{s:List UInt8}:sB T q (iR T q s):=by
 unfold iR
 split
 ·exact .inl (jI (by decide))
 ·exact jj
theorem mT {T:List Tk}{q:RQ}:sB T q (cY T q).2:=by
 unfold cY
 split
 ·rename_i h;exact kG (sA (by rw[h.2];decide))
 ·exact .inl (jI (by decide))
theorem sB.trans {T:List Tk}{q r s:RQ}(w:sB T q r)(h:Good T r s):sB T q s:=by
 rcases w with w|⟨w,v⟩
 ·exact .inl (by rw[(h.bad w).1];exact w)
 ·exact .inr ⟨w,Nat.lt_of_lt_of_le v h.le⟩
theorem Good.E1 {T:List Tk}{q r s:RQ}(h:Good T q r)(w:sB T r s):sB T q s:=by
 rcases w with w|⟨w,v⟩
 ·exact .inl w
 ·exact .inr ⟨Nat.lt_of_le_of_lt h.le w,Nat.lt_of_le_of_lt h.le v⟩
theorem sC {T:List Tk}{q:RQ}:sB T q (cZ T q).2:=(mT.trans aW).trans mc
theorem xG (T:List Tk):∀f:Nat,(∀n q e r,iw T f n q=some (e,r)->Good T q r)/\(∀n a q e r,mR T f n a q=some (e,r)->Good T q r)/\
  (∀q e r,nZ T f q=some (e,r)->Good T q r)/\(∀a q e r,jC T f a q=some (e,r)->Good T q r)/\(∀q e r,l9 T f q=some (e,r)->Good T q r)/\
  (∀q e r,n5 T f q=some (e,r)->Good T q r)/\(∀a q e r,n6 T f a q=some (e,r)->Good T q r)/\(∀q e r,sS T f q=some (e,r)->Good T q r)/\
  (∀l q e r,ri T f l q=some (e,r)->Good T q r)
 |0=>by simp[iw,mR,nZ,jC,l9,n5,n6,sS,ri]
 |f+1=>by
  obtain⟨hE,hS,hU,hB,hI,hF,hN,hA,hM⟩:=xG T f
  refine⟨λn q e r h=>?_,λn a q e r h=>?_,λq e r h=>?_,λa q e r h=>?_,λq e r h=>?_,λq e r h=>?_,λa q e r h=>?_,λq e r h=>?_,λl q e r h=>?_⟩
  ·unfold iw at h
   split at h
   ·exact hU _ _ _ h
   ·obtain⟨⟨x1,x2⟩,h1,h2⟩:=Option.bind_eq_some_iff.1 h
    exact(hE _ _ _ _ h1).trans (hS _ _ _ _ _ h2)
  ·unfold mR at h
   split at h
   ·rename_i c
    obtain⟨⟨x1,x2⟩,h1,h2⟩:=Option.bind_eq_some_iff.1 h
    exact((cg c.1 (xF c.2)).trans (hE _ _ _ _ h1)).trans (hS _ _ _ _ _ h2)
   ·cases h;exact Good.refl _ _
  ·unfold nZ at h
   split at h
   ·obtain⟨⟨x1,x2⟩,h1,h2⟩:=Option.bind_eq_some_iff.1 h
    cases h2
    exact(eG.trans (hE _ _ _ _ h1)).trans yB
   ·obtain⟨⟨x1,x2⟩,h1,h2⟩:=Option.bind_eq_some_iff.1 h
    exact(hF _ _ _ h1).trans (hB _ _ _ _ h2)
  ·unfold jC at h
   split at h
   ·rename_i c
    exact((cg (bg c).1 (bg c).2).trans gm).trans (hB _ _ _ _ h)
   ·split at h
    ·obtain⟨⟨x1,x2⟩,h1,h2⟩:=Option.bind_eq_some_iff.1 h
     exact((eG.trans (hE _ _ _ _ h1)).trans dY).trans (hB _ _ _ _ h2)
    ·cases h;exact Good.refl _ _
  ·unfold l9 at h
   obtain⟨⟨x1,x2⟩,h1,h2⟩:=Option.bind_eq_some_iff.1 h
   cases h2
   exact(eG.trans (hE _ _ _ _ h1)).trans dY
  ·unfold n5 at h
   split at h
   ·rename_i c;cases h;exact cg c.1 (sA (by rw[c.2];decide))
   split at h
   ·rename_i c;cases h
    rw[Bool.or_eq_true]at c
    rcases c with c|c<;>exact cg (bg c).1 (bg c).2
   split at h
   ·rename_i c;cases h;exact(cg (bg c).1 (bg c).2).trans mc
   split at h
   ·rename_i c;exact(cg (bg c).1 (bg c).2).trans (hN _ _ _ _ h)
   split at h
   ·rename_i c
    obtain⟨⟨x1,x2⟩,h1,h2⟩:=Option.bind_eq_some_iff.1 h
    cases h2
    exact(cg (bg c).1 (bg c).2).trans (hI _ _ _ h1)
   split at h
   ·rename_i c;cases h;exact((cg (bg c).1 (bg c).2).trans eG).trans dY
   split at h
   ·exact hI _ _ _ h
   split at h
   ·obtain⟨⟨x1,x2⟩,h1,h2⟩:=Option.bind_eq_some_iff.1 h
    cases h2
    exact gm.trans (hA _ _ _ h1)
   ·cases h;exact gm
  ·unfold n6 at h
   split at h
   ·rename_i c
    obtain⟨⟨x1,x2⟩,h1,h2⟩:=Option.bind_eq_some_iff.1 h
    cases h2
    exact(((cg (bg c).1 (bg c).2).trans mc).trans aW).trans (hI _ _ _ h1)
   ·cases h;exact gm
  ·unfold sS at h
   split at h
   ·cases h;exact eG.trans dY
   ·obtain⟨⟨x1,x2⟩,h1,h2⟩:=Option.bind_eq_some_iff.1 h
    exact(eG.trans (hE _ _ _ _ h1)).trans (hM _ _ _ _ h2)
  ·unfold ri at h
   split at h
   ·rename_i c
    obtain⟨⟨x1,x2⟩,h1,h2⟩:=Option.bind_eq_some_iff.1 h
    exact((cg (bg c).1 (bg c).2).trans (hE _ _ _ _ h1)).trans (hM _ _ _ _ h2)
   ·cases h;exact dY
theorem gT {T:List Tk}{f n:Nat}{q r:RQ}{e:E}(h:iw T f n q=some (e,r)):Good T q r:=(xG T f).1 _ _ _ _ h
theorem bind_some {α β:Type}{x:Option α}{g:α->Option β}(h1:∃a,x=some a)(h2:∀a,x=some a->∃b,g a=some b):∃b,x.bind g=some b:=by
 obtain⟨a,ha⟩:=h1
 obtain⟨b,hb⟩:=h2 a ha
 exact⟨b,by rw[ha];exact hb⟩
theorem Hz (T:List Tk):∀f:Nat,(∀n q,n<=5->40*mu T q+12<=f+n->∃x,iw T f n q=some x)/\(∀n a q,n<5->40*mu T q+1<=f->∃x,mR T f n a q=some x)/\
  (∀q,40*mu T q+6<=f->∃x,nZ T f q=some x)/\(∀a q,40*mu T q+1<=f->∃x,jC T f a q=some x)/\(∀q,40*(mu T q-1)+13<=f->∃x,l9 T f q=some x)/\
  (∀q,40*mu T q+5<=f->∃x,n5 T f q=some x)/\(∀a q,40*mu T q+15<=f->∃x,n6 T f a q=some x)/\(∀q,40*(mu T q-1)+13<=f->∃x,sS T f q=some x)/\
  (∀l q,40*mu T q+1<=f->∃x,ri T f l q=some x)
 |0=>by
  refine⟨λn q h1 h2=>?_,λn a q h1 h2=>?_,λq h=>?_,λa q h=>?_,λq h=>?_,λq h=>?_,λa q h=>?_,λq h=>?_,λl q h=>?_⟩<;>omega
 |f+1=>by
  obtain⟨hE,hS,hU,hB,hI,hF,hN,hA,hM⟩:=Hz T f
  obtain⟨gE,gS,gU,gB,gI,gF,gN,gA,gM⟩:=xG T f
  refine⟨λn q h1 h2=>?_,λn a q h1 h2=>?_,λq h=>?_,λa q h=>?_,λq h=>?_,λq h=>?_,λa q h=>?_,λq h=>?_,λl q h=>?_⟩
  ·unfold iw
   split
   ·exact hU _ (by omega)
   ·refine bind_some (hE _ _ (by omega) (by omega)) λ⟨x1,x2⟩ h3=>?_
    try dsimp only
    have:=kh (gE _ _ _ _ h3)
    exact hS _ _ _ (by omega) (by omega)
  ·unfold mR
   split
   ·rename_i c
    have m1:=me (cg c.1 (xF c.2)) (kG (xF c.2))
    have m0:=pG (T:=T) c.1
    refine bind_some (hE _ _ (by omega) (by omega)) λ⟨x1,x2⟩ h3=>?_
    try dsimp only
    have:=kh (gE _ _ _ _ h3)
    exact hS _ _ _ (by omega) (by omega)
   ·exact⟨_,rfl⟩
  ·unfold nZ
   split
   ·rename_i c
    rw[Bool.or_eq_true]at c
    have c0:q.fe=0:=by rcases c with c|c<;>exact(bg c).1
    have m1:=me (T:=T) (q:=q) (eG (s:=(cur T q).t)) jD
    have m0:=pG (T:=T) c0
    exact bind_some (hE _ _ (by omega) (by omega)) λx _=>⟨_,rfl⟩
   ·refine bind_some (hF _ (by omega)) λ⟨x1,x2⟩ h3=>?_
    try dsimp only
    have:=kh (gF _ _ _ h3)
    exact hB _ _ (by omega)
  ·unfold jC
   split
   ·rename_i c
    have m1:=me ((cg (bg c).1 (bg c).2).trans gm) ((kG (bg c).2).trans gm)
    have m0:=pG (T:=T) (bg c).1
    exact hB _ _ (by omega)
   ·split
    ·rename_i c
     have m0:=pG (T:=T) (bg c).1
     have m1:=me (T:=T) (q:=q) (eG (s:=[91])) jD
     refine bind_some (hE _ _ (by omega) (by omega)) λ⟨x1,x2⟩ h3=>?_
     try dsimp only
     have m2:=kh ((gE _ _ _ _ h3).trans (dY (s:=[93])))
     exact hB _ _ (by omega)
    ·exact⟨_,rfl⟩
  ·unfold l9
   have m1:=me (T:=T) (q:=q) (eG (s:=[40])) jD
   exact bind_some (hE _ _ (by omega) (by omega)) λx _=>⟨_,rfl⟩
  ·unfold n5
   split
   ·exact⟨_,rfl⟩
   split
   ·exact⟨_,rfl⟩
   split
   ·exact⟨_,rfl⟩
   split
   ·rename_i c
    have m1:=me (cg (bg c).1 (bg c).2) (kG (bg c).2)
    have m0:=pG (T:=T) (bg c).1
    exact hN _ _ (by omega)
   split
   ·rename_i c
    have m1:=me (cg (bg c).1 (bg c).2) (kG (bg c).2)
    have m0:=pG (T:=T) (bg c).1
    exact bind_some (hI _ (by omega)) λx _=>⟨_,rfl⟩
   split
   ·exact⟨_,rfl⟩
   split
   ·rename_i c
    have m0:=pG (T:=T) (bg c).1
    exact hI _ (by omega)
   split
   ·rename_i c
    have m0:=pG (T:=T) (bg c).1
    have m1:=kh (T:=T) (q:=q) gm
    exact bind_some (hA _ (by omega)) λx _=>⟨_,rfl⟩
   ·exact⟨_,rfl⟩
  ·unfold n6
   split
   ·rename_i c
    have m1:=kh (((cg (bg c).1 (bg c).2).trans mc).trans (aW (s:=[93])))
    exact bind_some (hI _ (by omega)) λx _=>⟨_,rfl⟩
   ·exact⟨_,rfl⟩
  ·unfold sS
   split
   ·exact⟨_,rfl⟩
   ·have m1:=me (T:=T) (q:=q) (eG (s:=[40])) jD
    refine bind_some (hE _ _ (by omega) (by omega)) λ⟨x1,x2⟩ h3=>?_
    try dsimp only
    have:=kh (gE _ _ _ _ h3)
    exact hM _ _ (by omega)
  ·unfold ri
   split
   ·rename_i c
    have m1:=me (cg (bg c).1 (bg c).2) (kG (bg c).2)
    have m0:=pG (T:=T) (bg c).1
    refine bind_some (hE _ _ (by omega) (by omega)) λ⟨x1,x2⟩ h3=>?_
    try dsimp only
    have:=kh (gE _ _ _ _ h3)
    exact hM _ _ (by omega)
   ·exact⟨_,rfl⟩
theorem mU {T:List Tk}{f:Nat}{q:RQ}(h:40*mu T q+12<=f):∃x,iw T f 0 q=some x:=(Hz T f).1 0 q (by omega) (by omega)
theorem JF {T:List Tk}{f:Nat}{a:Int}{q r:RQ}{s:Sm}(h:qD T f a q=some (s,r)):Good T q r/\sB T q r:=by
 unfold qD at h
 obtain⟨⟨x1,x2⟩,h1,h2⟩:=Option.bind_eq_some_iff.1 h
 have g1:=gT h1
 dsimp only at h2
 split at h2
 ·obtain⟨⟨y1,y2⟩,h3,h4⟩:=Option.bind_eq_some_iff.1 h2
  cases h4
  have g2:Good T x2 (cJ T (if x1.k=4\/x1.k=5\/x1.k=6 then x2 else iu T x2 2) [61]):=by
   refine Good.trans ?_ aW
   split
   ·exact Good.refl _ _
   ·exact iF
  have g3:=(g1.trans g2).trans (gT h3)
  exact⟨g3.trans aW,g3.E1 jj⟩
 ·cases h2
  have g2:Good T x2 (if gf T x2 [59]=true/\x1.k≠7 then iu T x2 2 else x2):=by
   split
   ·exact iF
   ·exact Good.refl _ _
  exact⟨(g1.trans g2).trans aW,(g1.trans g2).E1 jj⟩
theorem pH (T:List Tk):∀f:Nat,(∀q s r,sU T f q=some (s,r)->Good T q r/\sB T q r)/\(∀q s r,ji T f q=some (s,r)->Good T q r/\sB T q r)/\
  (∀l q s r,mS T f l q=some (s,r)->Good T q r)
 |0=>by simp[sU,ji,mS]
 |f+1=>by
  obtain⟨hS,hB,hL⟩:=pH T f
  refine⟨λq s r h=>?_,λq s r h=>?_,λl q s r h=>?_⟩
  ·unfold sU at h
   split at h
   ·rename_i c;cases h
    have g:=(cg (bg c).1 (bg c).2).trans g9
    exact⟨g.trans aW,g.E1 jj⟩
   split at h
   ·rename_i c
    obtain⟨⟨x1,x2⟩,h1,h2⟩:=Option.bind_eq_some_iff.1 h
    cases h2
    have g:=(((cg (bg c).1 (bg c).2).trans g9).trans aW).trans (gT h1)
    exact⟨g.trans aW,g.E1 jj⟩
   split at h
   ·rename_i c
    obtain⟨⟨x1,x2⟩,h1,h2⟩:=Option.bind_eq_some_iff.1 h
    obtain⟨⟨y1,y2⟩,h3,h4⟩:=Option.bind_eq_some_iff.1 h2
    have g1:=(cg (bg c).1 (bg c).2).trans (gT h1)
    have g:=g1.trans (hB _ _ _ h3).1
    have w:=g1.E1 (hB _ _ _ h3).2
    dsimp only at h4
    split at h4
    ·rename_i d
     obtain⟨⟨z1,z2⟩,h5,h6⟩:=Option.bind_eq_some_iff.1 h4
     cases h6
     have g2:=(cg (bg d).1 (bg d).2).trans (hB _ _ _ h5).1
     exact⟨g.trans g2,w.trans g2⟩
    ·cases h4;exact⟨g,w⟩
   split at h
   ·rename_i c
    obtain⟨⟨x1,x2⟩,h1,h2⟩:=Option.bind_eq_some_iff.1 h
    obtain⟨⟨y1,y2⟩,h3,h4⟩:=Option.bind_eq_some_iff.1 h2
    cases h4
    have g1:=(cg (bg c).1 (bg c).2).trans (gT h1)
    exact⟨g1.trans (hB _ _ _ h3).1,g1.E1 (hB _ _ _ h3).2⟩
   split at h
   ·rename_i c
    have g1:=cg (bg c).1 (bg c).2
    split at h
    ·cases h;exact⟨g1.trans aW,g1.E1 jj⟩
    ·obtain⟨⟨x1,x2⟩,h1,h2⟩:=Option.bind_eq_some_iff.1 h
     cases h2
     have g:=g1.trans (gT h1)
     exact⟨g.trans aW,g.E1 jj⟩
   split at h
   ·rename_i c
    obtain⟨⟨x1,x2⟩,h1,h2⟩:=Option.bind_eq_some_iff.1 h
    cases h2
    have g:=(cg (bg c).1 (bg c).2).trans (gT h1)
    exact⟨g.trans aW,g.E1 jj⟩
   ·exact JF h
  ·unfold ji at h
   have g:=hL _ _ _ _ h
   exact⟨eG.trans g,jD.trans g⟩
  ·unfold mS at h
   split at h
   ·obtain⟨⟨x1,x2⟩,h1,h2⟩:=Option.bind_eq_some_iff.1 h
    exact(hS _ _ _ h1).1.trans (hL _ _ _ _ h2)
   ·cases h;exact dY
theorem JG {T:List Tk}{f:Nat}{a:Int}{q:RQ}(h:40*mu T q+12<=f):∃x,qD T f a q=some x:=by
 unfold qD
 refine bind_some (mU h) λ⟨x1,x2⟩ h1=>?_
 try dsimp only
 have m1:=kh (gT h1)
 split
 ·have g2:Good T x2 (cJ T (if x1.k=4\/x1.k=5\/x1.k=6 then x2 else iu T x2 2) [61]):=by
   refine Good.trans ?_ aW
   split
   ·exact Good.refl _ _
   ·exact iF
  have m2:=kh g2
  exact bind_some (mU (by omega)) λx _=>⟨_,rfl⟩
 ·exact⟨_,rfl⟩
theorem B4 (T:List Tk):∀f:Nat,(∀q,40*mu T q+15<=f->∃x,sU T f q=some x)/\(∀q,40*(mu T q-1)+18<=f->∃x,ji T f q=some x)/\
  (∀l q,40*mu T q+17<=f->∃x,mS T f l q=some x)
 |0=>by refine⟨λq h=>?_,λq h=>?_,λl q h=>?_⟩<;>omega
 |f+1=>by
  obtain⟨hS,hB,hL⟩:=B4 T f
  obtain⟨gS,gB,gL⟩:=pH T f
  refine⟨λq h=>?_,λq h=>?_,λl q h=>?_⟩
  ·have one:∀s,gf T q s=true->mu T (bE q)<=mu T q-1/\0<mu T q:=λs c=>⟨me (cg (bg c).1 (bg c).2) (kG (bg c).2),pG (bg c).1⟩
   unfold sU
   split
   ·exact⟨_,rfl⟩
   split
   ·rename_i c
    have m0:=one _ c
    have m1:=kh (T:=T) (q:=bE q) (g9.trans (aW (s:=[61])))
    exact bind_some (mU (by omega)) λx _=>⟨_,rfl⟩
   split
   ·rename_i c
    have m0:=one _ c
    refine bind_some (mU (by omega)) λ⟨x1,x2⟩ h1=>?_
    try dsimp only
    have m1:=kh (gT h1)
    refine bind_some (hB _ (by omega)) λ⟨y1,y2⟩ h2=>?_
    try dsimp only
    have m2:=kh (gB _ _ _ h2).1
    split
    ·rename_i d
     have m3:=kh (cg (bg d).1 (bg d).2)
     exact bind_some (hB _ (by omega)) λx _=>⟨_,rfl⟩
    ·exact⟨_,rfl⟩
   split
   ·rename_i c
    have m0:=one _ c
    refine bind_some (mU (by omega)) λ⟨x1,x2⟩ h1=>?_
    try dsimp only
    have m1:=kh (gT h1)
    exact bind_some (hB _ (by omega)) λx _=>⟨_,rfl⟩
   split
   ·rename_i c
    have m0:=one _ c
    split
    ·exact⟨_,rfl⟩
    ·exact bind_some (mU (by omega)) λx _=>⟨_,rfl⟩
   split
   ·rename_i c
    have m0:=one _ c
    exact bind_some (mU (by omega)) λx _=>⟨_,rfl⟩
   ·exact JG (by omega)
  ·unfold ji
   have m1:=me (T:=T) (q:=q) (eG (s:=[123])) jD
   exact hL _ _ (by omega)
  ·unfold mS
   split
   ·rename_i c
    refine bind_some (hS _ (by omega)) λ⟨x1,x2⟩ h1=>?_
    try dsimp only
    have m1:=B3 c.1 (gS _ _ _ h1).2
    exact hL _ _ (by omega)
   ·exact⟨_,rfl⟩
theorem sD {T:List Tk}{f:Nat}{q r:RQ}{s:List Sm}(h:ji T f q=some (s,r)):Good T q r/\sB T q r:=(pH T f).2.1 _ _ _ h
theorem B5 {T:List Tk}{f:Nat}{q:RQ}(h:40*mu T q+18<=f):∃x,ji T f q=some x:=(B4 T f).2.1 _ (by omega)
theorem zq (T:List Tk):∀(f:Nat)(l:List PD)(q:RQ)(s:List PD)(r:RQ),kE T f l q=some (s,r)->Good T q r
 |0,_,_,_,_,h=>by simp[kE]at h
 |f+1,l,q,s,r,h=>by
  unfold kE at h
  split at h
  ·split at h
   ·cases h;exact iF
   ·exact(g9.trans aW).trans (zq T f _ _ _ _ h)
  ·cases h;exact Good.refl _ _
theorem zu (T:List Tk):∀(f:Nat)(l:List PD)(q:RQ),mu T q<f->∃x,kE T f l q=some x
 |0,_,_,h=>absurd h (by omega)
 |f+1,l,q,h=>by
  unfold kE
  split
  ·rename_i c
   split
   ·exact⟨_,rfl⟩
   ·have:=B3 c.1 ((sC (T:=T) (q:=q)).trans (aW (s:=[59])))
    exact zu T f _ _ (by omega)
  ·exact⟨_,rfl⟩
theorem zv {T:List Tk}{f:Nat}{q r:RQ}{s:Rc}(h:oB T f q=some (s,r)):Good T q r/\sB T q r:=by
 unfold oB at h
 obtain⟨⟨x1,x2⟩,h1,h2⟩:=Option.bind_eq_some_iff.1 h
 cases h2
 have g:=(aW (T:=T) (s:=[123])).trans (zq T f _ _ _ _ h1)
 exact⟨(gm.trans g).trans aW,((mT.trans g)).trans aW⟩
theorem HA {T:List Tk}{f:Nat}{q:RQ}(h:mu T q<f):∃x,oB T f q=some x:=by
 unfold oB
 have m:=kh (T:=T) (q:=q) (gm.trans (aW (s:=[123])))
 exact bind_some (zu T f _ _ (by omega)) λx _=>⟨_,rfl⟩
theorem pI {T:List Tk}{q:RQ}:Good T q (B0 T q):=by
 unfold B0
 split
 ·exact Good.refl _ _
 ·split
  ·exact aW.trans iF
  ·exact aW
theorem ua (T:List Tk):∀(f:Nat)(l:List PD)(q:RQ)(s:List PD)(r:RQ),kF T f l q=some (s,r)->Good T q r
 |0,_,_,_,_,h=>by simp[kF]at h
 |f+1,l,q,s,r,h=>by
  unfold kF at h
  split at h
  ·split at h
   ·cases h;exact iF
   ·exact(g9.trans pI).trans (ua T f _ _ _ _ h)
  ·cases h;exact Good.refl _ _
theorem zw (T:List Tk):∀(f:Nat)(l:List PD)(q:RQ),mu T q<f->∃x,kF T f l q=some x
 |0,_,_,h=>absurd h (by omega)
 |f+1,l,q,h=>by
  unfold kF
  split
  ·rename_i c
   split
   ·exact⟨_,rfl⟩
   ·have:=B3 c.1 ((sC (T:=T) (q:=q)).trans pI)
    exact zw T f _ _ (by omega)
  ·exact⟨_,rfl⟩
theorem DT {T:List Tk}{f:Nat}{q r:RQ}{s:Fc}(h:tZ T f q=some (s,r)):Good T q r/\sB T q r:=by
 unfold tZ at h
 obtain⟨⟨x1,x2⟩,h1,h2⟩:=Option.bind_eq_some_iff.1 h
 have g:=((aW (T:=T) (s:=[40])).trans (ua T f _ _ _ _ h1)).trans (aW (s:=[41]))
 have gg:=gm.trans g
 dsimp only at h2
 split at h2
 ·rename_i d
  obtain⟨⟨y1,y2⟩,h3,h4⟩:=Option.bind_eq_some_iff.1 h2
  cases h4
  have g2:=((cg (bg d).1 (bg d).2).trans mc).trans (sD h3).1
  exact⟨gg.trans g2,(mT.trans g).trans g2⟩
 ·obtain⟨⟨y1,y2⟩,h3,h4⟩:=Option.bind_eq_some_iff.1 h2
  cases h4
  have g2:=(sD h3).1
  exact⟨gg.trans g2,(mT.trans g).trans g2⟩
theorem MH {T:List Tk}{f:Nat}{q:RQ}(h:40*mu T q+18<=f):∃x,tZ T f q=some x:=by
 unfold tZ
 have m:=kh (T:=T) (q:=q) (gm.trans (aW (s:=[40])))
 refine bind_some (zw T f _ _ (by omega)) λ⟨x1,x2⟩ h1=>?_
 try dsimp only
 have m1:=kh ((ua T f _ _ _ _ h1).trans (aW (s:=[41])))
 split
 ·rename_i d
  have m2:=kh ((cg (bg d).1 (bg d).2).trans mc)
  exact bind_some (B5 (by omega)) λx _=>⟨_,rfl⟩
 ·exact bind_some (B5 (by omega)) λx _=>⟨_,rfl⟩
theorem oR (T:List Tk):∀(f:Nat)(p:Pg)(q:RQ),40*mu T q+19<=f->∃x,nH T f p q=some x
 |0,_,_,h=>absurd h (by omega)
 |f+1,p,q,h=>by
  unfold nH
  split
  ·rename_i c
   have m0:=pG (T:=T) c.1
   have w1:=B3 c.1 (T:=T) (r:=iu T q 4) (.inl (jI (by decide)))
   have w2:=B3 c.1 (T:=T) (r:=iu T q 2) (.inl (jI (by decide)))
   have m1:=B3 c.1 (kG (sA c.2))
   split
   ·exact oR T f _ _ (by omega)
   split
   ·refine bind_some (HA (by omega)) λ⟨x1,x2⟩ h1=>?_
    try dsimp only
    have:=kh (zv h1).1
    exact oR T f _ _ (by omega)
   split
   ·have:=kh (T:=T) (q:=bE q) (g9.trans (aW (s:=[59])))
    exact oR T f _ _ (by omega)
   split
   ·refine bind_some (MH (by omega)) λ⟨x1,x2⟩ h1=>?_
    try dsimp only
    have:=kh (DT h1).1
    exact oR T f _ _ (by omega)
   ·exact oR T f _ _ (by omega)
  ·exact⟨_,rfl⟩
theorem uc (T:List Tk):∃x,sy T (40*T.length+100)=some x:=by
 unfold sy
 exact bind_some (oR T _ _ _ (by simp[mu];omega)) λx _=>⟨_,rfl⟩
end lP
namespace lP
open Ax Go V7
def Wi (T:List Tk)(N:Int):Prop:=0<=N/\∀x∈T,0<=x.a/\x.a<=N
theorem E2 {T:List Tk}{N:Int}(h:Wi T N)(q:RQ):0<=(cur T q).a/\(cur T q).a<=N:=by
 by_cases hl:q.at_<T.length
 ·have:cur T q=T[q.at_]:=by simp[cur,hl]
  rw[this]
  exact h.2 _ (List.getElem_mem hl)
 ·have hc:cur T q=Tk0:=by simp[cur,List.getD,List.getElem?_eq_none (Nat.le_of_not_lt hl)]
  rw[hc]
  exact⟨Int.le_refl _,h.1⟩
def E3 (N:Int)(p:PD):Prop:=0<=p.od/\p.od<=3/\0<=p.at_/\p.at_<=N
theorem B6 {T:List Tk}{N:Int}(h:Wi T N)(q:RQ):E3 N (cZ T q).1:=⟨JE.1,JE.2,(E2 h q).1,(E2 h q).2⟩
structure Rc.In (N:Int)(r:Rc):Prop where
 a:0<=r.a/\r.a<=N
 len:r.fields.length<=9
 f:∀p∈r.fields,E3 N p
structure Fc.In (N:Int)(r:Fc):Prop where
 a:0<=r.a/\r.a<=N
 len:r.params.length<=7
 f:∀p∈r.params,E3 N p
 od:0<=r.od/\r.od<=3
structure Pg.In (N:Int)(p:Pg):Prop where
 r:p.aQ.length<=12/\∀x∈p.aQ,Rc.In N x
 g:p.globals.length<=8/\∀x∈p.globals,E3 N x
 f:p.funcs.length<=16/\∀x∈p.funcs,Fc.In N x
theorem pJ {α:Type}{P:α->Prop}{l:List α}{a:α}(h:∀x∈l,P x)(ha:P a):∀x∈l++[a],P x:=by
 intro x hx
 rcases List.mem_append.1 hx with h1|h1
 ·exact h x h1
 ·rw[List.mem_singleton.1 h1];exact ha
theorem HB {T:List Tk}{q:RQ}(h:(cur T q).k≠1):(cY T q).2.fe≠0:=by
 unfold cY
 rw[if_neg (λe=>h e.2)]
 exact jI (by decide)
theorem uW {T:List Tk}{q:RQ}(h:(cur T q).k≠1):(cZ T q).2.fe≠0:=by
 have g:Good T (cY T q).2 (cZ T q).2:=aW.trans mc
 rw[(g.bad (HB h)).1]
 exact HB h
theorem DU {T:List Tk}{N:Int}(hN:Wi T N):∀(f:Nat)(l:List PD)(q:RQ)(s:List PD)(r:RQ),kE T f l q=some (s,r)->(∀p∈l,E3 N p)->(l.length<=8\/q.fe≠0/\l.length<=9)->
  (∀p∈s,E3 N p)/\(s.length<=8\/r.fe≠0/\s.length<=9)
 |0,_,_,_,_,h,_,_=>by simp[kE]at h
 |f+1,l,q,s,r,h,hl,hn=>by
  unfold kE at h
  split at h
  ·rename_i c
   have h8:l.length<=8:=by
    rcases hn with hn|hn
    ·exact hn
    ·exact absurd c.1 hn.1
   split at h
   ·rename_i c2
    cases h;exact⟨hl,.inl h8⟩
   ·rename_i c2
    refine DU hN f _ _ _ _ h (pJ hl (B6 hN q)) ?_
    by_cases hk:(cur T q).k=1
    ·exact .inl (by
      have:l.length≠8:=λe=>c2 ⟨hk,e⟩
      simp;omega)
    ·refine .inr ⟨?_,by simp;omega⟩
     have g:=aW (T:=T) (q:=(cZ T q).2) (s:=[59])
     rw[(g.bad (uW hk)).1]
     exact uW hk
  ·cases h;exact⟨hl,hn⟩
theorem DW {T:List Tk}{N:Int}(hN:Wi T N):∀(f:Nat)(l:List PD)(q:RQ)(s:List PD)(r:RQ),kF T f l q=some (s,r)->(∀p∈l,E3 N p)->(l.length<=6\/q.fe≠0/\l.length<=7)->
  (∀p∈s,E3 N p)/\(s.length<=6\/r.fe≠0/\s.length<=7)
 |0,_,_,_,_,h,_,_=>by simp[kF]at h
 |f+1,l,q,s,r,h,hl,hn=>by
  unfold kF at h
  split at h
  ·rename_i c
   have h8:l.length<=6:=by
    rcases hn with hn|hn
    ·exact hn
    ·exact absurd c.1 hn.1
   split at h
   ·rename_i c2
    cases h;exact⟨hl,.inl h8⟩
   ·rename_i c2
    refine DW hN f _ _ _ _ h (pJ hl (B6 hN q)) ?_
    by_cases hk:(cur T q).k=1
    ·exact .inl (by
      have:l.length≠6:=λe=>c2 ⟨hk,e⟩
      simp;omega)
    ·refine .inr ⟨?_,by simp;omega⟩
     have g:=pI (T:=T) (q:=(cZ T q).2)
     rw[(g.bad (uW hk)).1]
     exact uW hk
  ·cases h;exact⟨hl,hn⟩
theorem MI {T:List Tk}{N:Int}(hN:Wi T N){f:Nat}{q r:RQ}{s:Rc}(h:oB T f q=some (s,r)):Rc.In N s/\(r.fe=0->s.fields.length<=8):=by
 unfold oB at h
 obtain⟨⟨x1,x2⟩,h1,h2⟩:=Option.bind_eq_some_iff.1 h
 cases h2
 obtain⟨a,b⟩:=DU hN _ _ _ _ _ h1 (by simp) (by simp)
 refine⟨⟨E2 hN q,by rcases b with b|b<;>simp only<;>omega,a⟩,λe=>?_⟩
 rcases b with b|b
 ·exact b
 ·exact absurd (aW.zp e) b.1
theorem UD {T:List Tk}{N:Int}(hN:Wi T N){f:Nat}{q r:RQ}{s:Fc}(h:tZ T f q=some (s,r)):Fc.In N s/\(r.fe=0->s.params.length<=6):=by
 unfold tZ at h
 obtain⟨⟨x1,x2⟩,h1,h2⟩:=Option.bind_eq_some_iff.1 h
 obtain⟨a,b⟩:=DW hN _ _ _ _ _ h1 (by simp) (by simp)
 have hc:=E2 hN q
 have fin:∀r:RQ,Good T x2 r->r.fe=0->x1.length<=6:=λr g e=>by
  rcases b with b|b
  ·exact b
  ·exact absurd (g.zp e) b.1
 have b7:x1.length<=7:=by rcases b with b|b<;>omega
 dsimp only at h2
 split at h2
 ·rename_i d
  obtain⟨⟨y1,y2⟩,h3,h4⟩:=Option.bind_eq_some_iff.1 h2
  cases h4
  exact⟨⟨hc,b7,a,JE⟩,fin _ (((aW.trans (cg (bg d).1 (bg d).2)).trans mc).trans (sD h3).1)⟩
 ·obtain⟨⟨y1,y2⟩,h3,h4⟩:=Option.bind_eq_some_iff.1 h2
  cases h4
  exact⟨⟨hc,b7,a,Int.le_refl _,by show (0:Int)<=3;decide⟩,fin _ (aW.trans (sD h3).1)⟩
def Pg.Wj (p:Pg):Prop:=(∀x∈p.aQ,x.fields.length<=8)/\∀x∈p.funcs,x.params.length<=6
theorem uX {T:List Tk}{N:Int}(hN:Wi T N):∀(f:Nat)(p:Pg)(q:RQ)(s:Pg)(r:RQ),nH T f p q=some (s,r)->Pg.In N p->(q.fe=0->p.Wj)->Pg.In N s/\(r.fe=0->s.Wj)
 |0,_,_,_,_,h,_,_=>by simp[nH]at h
 |f+1,p,q,s,r,h,hp,hf=>by
  unfold nH at h
  split at h
  ·rename_i c
   split at h
   ·exact uX hN f _ _ _ _ h hp λe=>absurd e (jI (by decide))
   rename_i aa
   split at h
   ·rename_i d
    obtain⟨⟨x1,x2⟩,h1,h2⟩:=Option.bind_eq_some_iff.1 h
    obtain⟨i1,i2⟩:=MI hN h1
    have:p.aQ.length≠12:=λe=>aa (.inl ⟨d,e⟩)
    have:=hp.r.1
    exact uX hN f _ _ _ _ h2 ⟨⟨by simp;omega,pJ hp.r.2 i1⟩,hp.g,hp.f⟩ λe=>⟨pJ (hf c.1).1 (i2 e),(hf c.1).2⟩
   split at h
   ·rename_i d
    have:p.globals.length≠8:=λe=>aa (.inr (.inl ⟨d,e⟩))
    have:=hp.g.1
    exact uX hN f _ _ _ _ h ⟨hp.r,⟨by simp;omega,pJ hp.g.2 (B6 hN _)⟩,hp.f⟩ λe=>hf c.1
   split at h
   ·rename_i d
    obtain⟨⟨x1,x2⟩,h1,h2⟩:=Option.bind_eq_some_iff.1 h
    obtain⟨i1,i2⟩:=UD hN h1
    have:p.funcs.length≠16:=λe=>aa (.inr (.inr ⟨d,e⟩))
    have:=hp.f.1
    exact uX hN f _ _ _ _ h2 ⟨hp.r,hp.g,⟨by simp;omega,pJ hp.f.2 i1⟩⟩ λe=>⟨(hf c.1).1,pJ (hf c.1).2 (i2 e)⟩
   ·exact uX hN f _ _ _ _ h hp λe=>absurd e (jI (by decide))
  ·cases h;exact⟨hp,hf⟩
theorem E4 {N:Int}:Pg.In N Al:=⟨⟨by simp[Al],by simp[Al]⟩,⟨by simp[Al],by simp[Al]⟩,⟨by simp[Al],by simp[Al]⟩⟩
theorem Am:Al.Wj:=⟨by simp[Al],by simp[Al]⟩
theorem MJ {T:List Tk}{N:Int}(hN:Wi T N){f:Nat}{x:Pg×Int×Int}(h:sy T f=some x):Pg.In N x.1/\x.1.Wj:=by
 unfold sy at h
 obtain⟨⟨x1,x2⟩,h1,h2⟩:=Option.bind_eq_some_iff.1 h
 obtain⟨a,b⟩:=uX hN _ _ _ _ _ h1 E4 λ_=>Am
 simp only[Option.some.injEq]at h2
 subst h2
 split
 ·rename_i e;exact⟨a,b e⟩
 ·exact⟨E4,Am⟩
end lP
namespace mV
open Ax Go V7 lP
abbrev tI:T3:=⟨1,0,0⟩
abbrev tB:T3:=⟨2,0,0⟩
structure Vd where
 nm:List UInt8
 ty:T3
 deriving DecidableEq
structure Sg where
 nm:List UInt8
 ps:List Vd
 has:Bool
 res:T3
structure Hd where
 rs:List (List UInt8)
 bQ:List (List UInt8×List Vd)
 globals:List Vd
 sigs:List Sg
def lC (rs:List (List UInt8))(l:List PD):List Vd:=l.map λq=>⟨q.name,(cM rs q.on q.od).1⟩
def bS (p:Pg):List (List UInt8):=p.aQ.map (·.name)
def ud (rs:List (List UInt8))(f:Fc):Sg:=⟨f.name,lC rs f.params,f.has,if f.has then (cM rs f.on f.od).1 else T0⟩
def aS (p:Pg):Hd:=⟨bS p,p.aQ.map λr=>(r.name,lC (bS p) r.fields),lC (bS p) p.globals,p.funcs.map (ud (bS p))⟩
def gK (s:List UInt8):Nat->List Vd->Option (Nat×T3)
 |_,[]=>none
 |i,f::l=>if f.nm=s then some (i,f.ty) else gK s (i+1) l
def tf (H:Hd)(V:List Vd)(s:List UInt8):Option (T3×Int):=match gK s 0 V with
 |some (k,t)=>some (t,(k:Int))
 |none=>match gK s 0 H.globals with
  |some (k,t)=>some (t,-1-(k:Int))
  |none=>none
def oe (s:List UInt8):Nat->List Sg->Option (Nat×Sg)
 |_,[]=>none
 |i,g::l=>if g.nm=s then some (i,g) else oe s (i+1) l
def ld:List Vd->List E->Bool
 |[],[]=>true
 |f::l,e::r=>decide (e.ty=f.ty)&&ld l r
 |_,_=>false
def hJ (k n:Int)(m:Nat):Bool:=
 if k=1\/k=3\/k=4\/k=8\/k=11 then decide (m=0)
 else if k=2 then decide (m=0)&&(decide (n=0)||decide (n=1))
 else if k=7 then true
 else if k=5\/k=9\/k=10\/k=12\/k=13 then decide (m=1)
 else (decide (k=6)||decide (14<=k)&&decide (k<=24))&&decide (m=2)
def vR (ks:List E):T3:=match ks with|e::_=>e.ty | []=>T0
def C7 (ks:List E):T3:=match ks with|_::e::_=>e.ty|_=>T0
def nI (k n:Int):Int:=if k=1\/k=2 then n else 0
def lf (k:Int)(nm:List UInt8):List UInt8:=if k=4\/k=5\/k=7 then nm else []
def lg (k:Int)(on:List UInt8):List UInt8:=if k=3\/k=8\/k=9 then on else []
def lp (k:Int)(od:Int):Int:=if k=3\/k=8\/k=9 then od else 0
def F6 (b:Bool)(t:T3):Option (T3×Int):=if b then some (t,0) else none
def sE (H:Hd)(t:T3)(nm:List UInt8):Option (T3×Int):=if t.b=3/\t.d=0 then match H.bQ[t.r.toNat]? with
  |some s=>match gK nm 0 s.2 with
   |some (i,u)=>some (u,(i:Int))
   |none=>none
  |none=>none
 else none
def xH (H:Hd)(nm:List UInt8)(ks:List E):Option (T3×Int):=match oe nm 0 H.sigs with
 |some (i,s)=>if ld s.ps ks then some (s.res,(i:Int)) else none
 |none=>none
def ue (k:Int)(a b:T3):Option (T3×Int):=
 if k=14\/k=15\/k=16\/k=17\/k=18 then F6 (decide (a=tI)&&decide (b=tI)) tI
 else if k=19\/k=20 then F6 (decide (a=tI)&&decide (b=tI)) tB
 else if k=21\/k=22 then F6 (decide (a=b)) tB
 else F6 (decide (a=tB)&&decide (b=tB)) tB
def oC (H:Hd)(V:List Vd)(k:Int)(nm on:List UInt8)(od:Int)(ks:List E):Option (T3×Int):=
 if k=1\/k=11 then some (tI,0)
 else if k=2 then some (tB,0)
 else if k=3 then F6 ((cM H.rs on od).2&&kX (cM H.rs on od).1) (cM H.rs on od).1
 else if k=4 then tf H V nm
 else if k=5 then sE H (vR ks) nm
 else if k=6 then F6 (decide (0<(vR ks).d)&&decide (C7 ks=tI)) ⟨(vR ks).b,(vR ks).r,(vR ks).d-1⟩
 else if k=7 then xH H nm ks
 else if k=8 then F6 ((cM H.rs on od).2&&decide ((cM H.rs on od).1.b=3)&&decide ((cM H.rs on od).1.d=0)) (cM H.rs on od).1
 else if k=9 then F6 ((cM H.rs on od).2&&decide ((cM H.rs on od).1.d<3)&&decide (vR ks=tI)) ⟨(cM H.rs on od).1.b,(cM H.rs on od).1.r,(cM H.rs on od).1.d+1⟩
 else if k=10 then F6 (decide (0<(vR ks).d)) tI
 else if k=12 then F6 (decide (vR ks=tI)) tI
 else if k=13 then F6 (decide (vR ks=tB)) tB
 else ue k (vR ks) (C7 ks)
mutual
def uf (H:Hd)(V:List Vd):E->Except Int E
 |.mk k n nm on od kids a _ _=>if hJ k n kids.length then
   match nJ H V kids with
   |.error x=>.error x
   |.ok ks=>match oC H V k nm on od ks with
    |none=>.error a
    |some (t,r)=>.ok (.mk k (nI k n) (lf k nm) (lg k on) (lp k od) ks a t r)
  else .error a
def nJ (H:Hd)(V:List Vd):List E->Except Int (List E)
 |[]=>.ok []
 |e::l=>match uf H V e with
  |.error x=>.error x
  |.ok y=>if y.ty=T0 then .error y.a else match nJ H V l with
   |.error x=>.error x
   |.ok ys=>.ok (y::ys)
end
def dK (has:Bool)(k:Int)(es:List E):Bool:=
 if k=1 then decide (es.length=0)
 else if k=4 then match es with | [e,_]=>decide (e.k=5)||decide (e.k=6)|_=>false
 else if k=7 then decide (es.length=1)&&has||decide (es.length=0) && !has
 else if k=9 then match es with | [e]=>decide (e.k=7)|_=>false
 else if k=2\/k=3\/k=5\/k=6\/k=8 then decide (es.length=1)
 else false
def jR (H:Hd)(res:T3)(V:List Vd)(k:Int)(nm:List UInt8)(es:List E)(t:T3):Option (Int×List Vd):=
 if k=1 then (match gK nm 0 V with|some _=>none|none=>some ((V.length:Int),V++[⟨nm,t⟩]))
 else if k=2 then (if vR es=t then match gK nm 0 V with|some _=>none|none=>some ((V.length:Int),V++[⟨nm,t⟩]) else none)
 else if k=3 then (match tf H V nm with|some (u,r)=>if u=vR es then some (r,V) else none|none=>none)
 else if k=4 then (if vR es=C7 es then some (0,V) else none)
 else if k=5\/k=6 then (if vR es=tB then some (0,V) else none)
 else if k=7 then (if es.length=0\/vR es=res then some (0,V) else none)
 else if k=8 then (if vR es=tI then some (0,V) else none)
 else some (0,V)
def lD (H:Hd)(k:Int)(on:List UInt8)(od:Int):Option T3:=if k=1\/k=2 then (if (cM H.rs on od).2 then some (cM H.rs on od).1 else none) else some T0
def An (H:Hd)(V:List Vd)(k:Int)(es:List E):Except Int (List E):=if k=9 then match es with
  |e::_=>match uf H V e with
   |.error x=>.error x
   |.ok y=>.ok [y]
  |[]=>.ok []
 else nJ H V es
def cq (k:Int)(nm:List UInt8):List UInt8:=if k=1\/k=2\/k=3 then nm else []
def bN (k:Int)(on:List UInt8):List UInt8:=if k=1\/k=2 then on else []
def bO (k:Int)(od:Int):Int:=if k=1\/k=2 then od else 0
mutual
def wF (H:Hd)(has:Bool)(res:T3):List Vd->Sm->Except Int (Sm×List Vd)
 |V,.mk k nm on od es bd el a _=>if dK has k es then
   match lD H k on od with
   |none=>.error a
   |some t=>match An H V k es with
    |.error x=>.error x
    |.ok ys=>match jR H res V k nm ys t with
     |none=>.error a
     |some (r,W)=>if k=5 then
       match kQ H has res W bd with
       |.error x=>.error x
       |.ok (b,W1)=>match kQ H has res W1 el with
        |.error x=>.error x
        |.ok (c,W2)=>.ok (.mk k (cq k nm) (bN k on) (bO k od) ys b c a r,W2)
      else if k=6 then
       match kQ H has res W bd with
       |.error x=>.error x
       |.ok (b,W1)=>.ok (.mk k (cq k nm) (bN k on) (bO k od) ys b [] a r,W1)
      else .ok (.mk k (cq k nm) (bN k on) (bO k od) ys [] [] a r,W)
  else .error a
def kQ (H:Hd)(has:Bool)(res:T3):List Vd->List Sm->Except Int (List Sm×List Vd)
 |V,[]=>.ok ([],V)
 |V,s::l=>match wF H has res V s with
  |.error x=>.error x
  |.ok (y,W)=>match kQ H has res W l with
   |.error x=>.error x
   |.ok (ys,X)=>.ok (y::ys,X)
end
structure Bd where
 vars:List Vd
 code:List Sm
 a:Int
def qk (H:Hd):List Sg->List Fc->Except Int (List Bd)
 |s::ss,f::fs=>match kQ H s.has s.res s.ps f.body with
  |.error x=>.error x
  |.ok (c,W)=>match qk H ss fs with
   |.error x=>.error x
   |.ok l=>.ok (⟨W,c,f.a⟩::l)
 |_,_=>.ok []
def Vd.row (f:Vd):List AV:=.str f.nm::f.ty.cells
def bT (l:List Vd):AV:=aD 4 (l.map Vd.row)
def Sg.row (s:Sg):List AV:=[.str s.nm,bT s.ps,.bool s.has,.int .i64 s.res.b,.int .i64 s.res.r,.int .i64 s.res.d]
def iT (s:List UInt8×List Vd):List AV:=[.str s.1,bT s.2]
def Bd.row (b:Bd):List AV:=[bT b.vars,bz b.code,.int .i64 b.a]
end mV
namespace mV
open Ax Go V7 lP
theorem E.ind {P:E->Prop}(h:∀e,(∀x∈e.kids,P x)->P e)(e:E):P e:=h e λx _=>E.ind h x
termination_by sizeOf e
decreasing_by
 have hx:x∈e.kids:=by assumption
 cases e
 simp only[E.kids]at hx
 have:=List.sizeOf_lt_of_mem hx
 simp only[E.mk.sizeOf_spec]
 omega
theorem Sm.ind {P:Sm->Prop}(h:∀s,(∀x∈s.bd,P x)->(∀x∈s.el,P x)->P s)(s:Sm):P s:=h s (λx _=>Sm.ind h x) λx _=>Sm.ind h x
termination_by sizeOf s
decreasing_by
 all_goals
  rename_i hx
  cases s
  simp only[Sm.bd,Sm.el]at hx
  have:=List.sizeOf_lt_of_mem hx
  simp only[Sm.mk.sizeOf_spec]
  omega
mutual
def E.sz:E->Nat
 |.mk _ _ _ _ _ kids _ _ _=>1+E.dV kids
def E.dV:List E->Nat
 |[]=>0
 |e::l=>E.sz e+E.dV l
end
theorem E.JH (e:E):0<E.sz e:=by cases e;simp only[E.sz];omega
theorem E.ff:∀l:List E,l.length<=E.dV l
 |[]=>Nat.le_refl _
 |e::l=>by
  have:=E.ff l
  have:=E.JH e
  simp only[E.dV,List.length_cons]
  omega
theorem E.iW:∀{l:List E}{e:E},e∈l->E.sz e<=E.dV l
 |[],_,h=>by cases h
 |x::l,e,h=>by
  rcases List.mem_cons.1 h with h|h
  ·subst h;simp only[E.dV];omega
  ·have:=E.iW h
   simp only[E.dV];omega
theorem E.sF (e:E):E.sz e=1+E.dV e.kids:=by cases e;rfl
def WT (n:Nat)(t:T3):Prop:=0<=t.d/\t.d<=3/\(t.b=3->0<=t.r/\t.r<n)
structure Hd.ok (H:Hd):Prop where
 rs:H.rs.length=H.bQ.length
 bQ:∀s∈H.bQ,∀f∈s.2,WT H.rs.length f.ty
 globals:∀f∈H.globals,WT H.rs.length f.ty
 sigs:∀s∈H.sigs,WT H.rs.length s.res/\∀f∈s.ps,WT H.rs.length f.ty
theorem QB {n:Nat}:WT n T0:=⟨Int.le_refl _,by decide,λh=>by cases h⟩
theorem UE {n:Nat}:WT n tI:=⟨Int.le_refl _,by decide,λh=>by cases h⟩
theorem QC {n:Nat}:WT n tB:=⟨Int.le_refl _,by decide,λh=>by cases h⟩
theorem kH (l:List (List UInt8))(s:List UInt8)(d:Int):WT l.length (cM l s d).1:=by
 unfold cM
 split
 ·exact QB
 ·rename_i h
  have hd:0<=d/\d<=3:=by omega
  split
  ·exact⟨hd.1,hd.2,λh=>by cases h⟩
  split
  ·exact⟨hd.1,hd.2,λh=>by cases h⟩
  split
  ·exact QB
  ·rename_i h
   refine⟨hd.1,hd.2,λ_=>?_⟩
   rcases Uy l s with e|⟨k,e,hk⟩
   ·rw[e]at h;exact absurd (by decide) h
   ·simp only;rw[e];omega
theorem xI {s:List UInt8}:∀{l:List Vd}{i k:Nat}{t:T3},gK s i l=some (k,t)->∃f∈l,f.ty=t
 |[],_,_,_,h=>by cases h
 |f::l,i,k,t,h=>by
  unfold gK at h
  split at h
  ·cases h;exact⟨f,List.mem_cons_self,rfl⟩
  ·obtain⟨g,h1,h2⟩:=xI h
   exact⟨g,List.mem_cons_of_mem _ h1,h2⟩
theorem DX {s:List UInt8}:∀{l:List Sg}{i k:Nat}{t:Sg},oe s i l=some (k,t)->t∈l
 |[],_,_,_,h=>by cases h
 |f::l,i,k,t,h=>by
  unfold oe at h
  split at h
  ·cases h;exact List.mem_cons_self
  ·exact List.mem_cons_of_mem _ (DX h)
theorem pK {n:Nat}{b:Bool}{t u:T3}{r:Int}(h:F6 b t=some (u,r))(ht:b=true->WT n t):WT n u:=by
 cases b with
 |false=>cases h
 |true=>cases h;exact ht rfl
theorem Yr {H:Hd}{V:List Vd}{s:List UInt8}{t:T3}{r:Int}(hH:H.ok)(hV:∀f∈V,WT H.rs.length f.ty)(h:tf H V s=some (t,r)):WT H.rs.length t:=by
 unfold tf at h
 split at h
 ·rename_i k u e
  cases h
  obtain⟨f,h1,h2⟩:=xI e
  rw[<-h2];exact hV f h1
 ·split at h
  ·rename_i k u e
   cases h
   obtain⟨f,h1,h2⟩:=xI e
   rw[<-h2];exact hH.globals f h1
  ·cases h
theorem Ys {H:Hd}{V:List Vd}{k:Int}{nm on:List UInt8}{od:Int}{ks:List E}{t:T3}{r:Int}(hH:H.ok)(hV:∀f∈V,WT H.rs.length f.ty)(hk:∀e∈ks,WT H.rs.length e.ty)(h:oC H V k nm on od ks=some (t,r)):WT H.rs.length t:=by
 have h1:WT H.rs.length (vR ks):=by
  unfold vR
  split
  ·exact hk _ List.mem_cons_self
  ·exact QB
 have Dr:=kH H.rs on od
 unfold oC at h
 by_cases c1:k=1\/k=11
 ·rw[if_pos c1]at h;cases h;exact UE
 rw[if_neg c1]at h
 by_cases c2:k=2
 ·rw[if_pos c2]at h;cases h;exact QC
 rw[if_neg c2]at h
 by_cases c3:k=3
 ·rw[if_pos c3]at h;exact pK h λ_=>Dr
 rw[if_neg c3]at h
 by_cases c4:k=4
 ·rw[if_pos c4]at h;exact Yr hH hV h
 rw[if_neg c4]at h
 by_cases c5:k=5
 ·rw[if_pos c5]at h
  unfold sE at h
  split at h
  ·split at h
   ·rename_i s hs
    split at h
    ·rename_i i u e
     cases h
     obtain⟨f,h2,h3⟩:=xI e
     rw[<-h3]
     exact hH.bQ _ (List.mem_of_getElem? hs) f h2
    ·cases h
   ·cases h
  ·cases h
 rw[if_neg c5]at h
 by_cases c6:k=6
 ·rw[if_pos c6]at h
  refine pK h λhb=>?_
  simp only[Bool.and_eq_true,decide_eq_true_eq]at hb
  exact⟨by simp only;omega,by have:=h1.2.1;simp only;omega,h1.2.2⟩
 rw[if_neg c6]at h
 by_cases c7:k=7
 ·rw[if_pos c7]at h
  unfold xH at h
  split at h
  ·rename_i i s e
   split at h
   ·cases h;exact(hH.sigs s (DX e)).1
   ·cases h
  ·cases h
 rw[if_neg c7]at h
 by_cases c8:k=8
 ·rw[if_pos c8]at h;exact pK h λ_=>Dr
 rw[if_neg c8]at h
 by_cases c9:k=9
 ·rw[if_pos c9]at h
  refine pK h λhb=>?_
  simp only[Bool.and_eq_true,decide_eq_true_eq]at hb
  exact⟨by have:=Dr.1;simp only;omega,by simp only;omega,Dr.2.2⟩
 rw[if_neg c9]at h
 by_cases zx:k=10
 ·rw[if_pos zx]at h;exact pK h λ_=>UE
 rw[if_neg zx]at h
 by_cases zU:k=12
 ·rw[if_pos zU]at h;exact pK h λ_=>UE
 rw[if_neg zU]at h
 by_cases CN:k=13
 ·rw[if_pos CN]at h;exact pK h λ_=>QC
 rw[if_neg CN]at h
 unfold ue at h
 split at h
 ·exact pK h λ_=>UE
 split at h
 ·exact pK h λ_=>QC
 split at h
 ·exact pK h λ_=>QC
 ·exact pK h λ_=>QC
theorem jJ {H:Hd}{V:List Vd}{e:E}{l:List E}{ys:List E}(h:nJ H V (e::l)=.ok ys):∃y zs,uf H V e=.ok y/\y.ty≠T0/\nJ H V l=.ok zs/\ys=y::zs:=by
 unfold nJ at h
 split at h
 ·cases h
 ·rename_i y hy
  split at h
  ·cases h
  ·rename_i ht
   split at h
   ·cases h
   ·rename_i zs hz
    cases h
    exact⟨y,zs,hy,ht,hz,rfl⟩
theorem iN {H:Hd}{V:List Vd}{P:E->Prop}:∀{l ys:List E},nJ H V l=.ok ys->(∀e∈l,∀y,uf H V e=.ok y->P y)->∀y∈ys,P y
 |[],ys,h,_=>by
  unfold nJ at h
  cases h
  simp
 |e::l,ys,h,hp=>by
  obtain⟨y,zs,h1,_,h2,rfl⟩:=jJ h
  intro z hz
  rcases List.mem_cons.1 hz with e1|e1
  ·subst e1;exact hp e List.mem_cons_self _ h1
  ·exact iN h2 (λe he=>hp e (List.mem_cons_of_mem _ he)) z e1
theorem pL {H:Hd}{V:List Vd}{e y:E}(h:uf H V e=.ok y):∃ks t r,hJ e.k e.n e.kids.length=true/\nJ H V e.kids=.ok ks/\oC H V e.k e.nm e.on e.od ks=some (t,r)/\y=.mk e.k (nI e.k e.n) (lf e.k e.nm) (lg e.k e.on) (lp e.k e.od) ks e.a t r:=by
 obtain⟨k,n,nm,on,od,kids,a,ty,ref⟩:=e
 unfold uf at h
 split at h
 ·rename_i hk
  split at h
  ·cases h
  ·rename_i ks s8
   split at h
   ·cases h
   ·rename_i t r ht
    cases h
    exact⟨ks,t,r,hk,s8,ht,rfl⟩
 ·cases h
theorem E5 {H:Hd}{V:List Vd}(hH:H.ok)(hV:∀f∈V,WT H.rs.length f.ty)(e:E):∀y,uf H V e=.ok y->WT H.rs.length y.ty:=by
 induction e using E.ind with
 |_ e ih=>
  intro y h
  obtain⟨ks,t,r,_,h2,h3,rfl⟩:=pL h
  exact Ys hH hV (iN h2 ih) h3
theorem oD {H:Hd}{V:List Vd}:∀{l ys:List E},nJ H V l=.ok ys->ys.length=l.length
 |[],ys,h=>by unfold nJ at h;cases h;rfl
 |e::l,ys,h=>by
  obtain⟨y,zs,_,_,h2,rfl⟩:=jJ h
  simp[oD h2]
theorem JI {k n:Int}{m:Nat}(h:hJ k n m=true):hJ k (nI k n) m=true:=by
 unfold hJ nI at *
 split
 ·rename_i c;rw[if_pos c]at h;exact h
 ·rename_i c
  rw[if_neg c]at h
  split
  ·rename_i c2;rw[if_pos c2]at h;rw[if_pos (.inr c2)];exact h
  ·rename_i c2;rw[if_neg c2]at h;exact h
theorem QD {H:Hd}{V:List Vd}{k:Int}{nm on:List UInt8}{od:Int}{ks:List E}:oC H V k (lf k nm) (lg k on) (lp k od) ks=oC H V k nm on od ks:=by
 unfold oC
 by_cases c3:k=3
 ·simp[lg,lp,c3]
 by_cases c4:k=4
 ·simp[lf,c4]
 by_cases c5:k=5
 ·simp[lf,c5]
 by_cases c7:k=7
 ·simp[lf,c7]
 by_cases c8:k=8
 ·simp[lg,lp,c8]
 by_cases c9:k=9
 ·simp[lg,lp,c9]
 simp only[if_neg c3,if_neg c4,if_neg c5,if_neg c7,if_neg c8,if_neg c9]
end mV
namespace mV
open Ax Go V7 lP
mutual
def Sm.sz:Sm->Nat
 |.mk _ _ _ _ es bd el _ _=>1+E.dV es+Sm.dV bd+Sm.dV el
def Sm.dV:List Sm->Nat
 |[]=>0
 |s::l=>Sm.sz s+Sm.dV l
end
theorem Sm.JH (s:Sm):0<Sm.sz s:=by cases s;simp only[Sm.sz];omega
theorem Sm.ff:∀l:List Sm,l.length<=Sm.dV l
 |[]=>Nat.le_refl _
 |e::l=>by
  have:=Sm.ff l
  have:=Sm.JH e
  simp only[Sm.dV,List.length_cons]
  omega
theorem Sm.iW:∀{l:List Sm}{e:Sm},e∈l->Sm.sz e<=Sm.dV l
 |[],_,h=>by cases h
 |x::l,e,h=>by
  rcases List.mem_cons.1 h with h|h
  ·subst h;simp only[Sm.dV];omega
  ·have:=Sm.iW h
   simp only[Sm.dV];omega
theorem Sm.nK (s:Sm):Sm.sz s=1+E.dV s.es+Sm.dV s.bd+Sm.dV s.el:=by cases s;rfl
theorem Yt (H:Hd)(has:Bool)(res:T3)(V:List Vd)(k:Int)(nm on:List UInt8)(od:Int)(es:List E)(bd el:List Sm)(a ref:Int):wF H has res V (.mk k nm on od es bd el a ref)=if dK has k es then
   match lD H k on od with
   |none=>.error a
   |some t=>match An H V k es with
    |.error x=>.error x
    |.ok ys=>match jR H res V k nm ys t with
     |none=>.error a
     |some (r,W)=>if k=5 then
       match kQ H has res W bd with
       |.error x=>.error x
       |.ok (b,W1)=>match kQ H has res W1 el with
        |.error x=>.error x
        |.ok (c,W2)=>.ok (.mk k (cq k nm) (bN k on) (bO k od) ys b c a r,W2)
      else if k=6 then
       match kQ H has res W bd with
       |.error x=>.error x
       |.ok (b,W1)=>.ok (.mk k (cq k nm) (bN k on) (bO k od) ys b [] a r,W1)
      else .ok (.mk k (cq k nm) (bN k on) (bO k od) ys [] [] a r,W)
  else .error a:=by
 (conv=>lhs;unfold wF)<;>rfl
theorem pM (H:Hd)(has:Bool)(res:T3)(V:List Vd)(s:Sm):wF H has res V s=if dK has s.k s.es then
   match lD H s.k s.on s.od with
   |none=>.error s.a
   |some t=>match An H V s.k s.es with
    |.error x=>.error x
    |.ok ys=>match jR H res V s.k s.nm ys t with
     |none=>.error s.a
     |some (r,W)=>if s.k=5 then
       match kQ H has res W s.bd with
       |.error x=>.error x
       |.ok (b,W1)=>match kQ H has res W1 s.el with
        |.error x=>.error x
        |.ok (c,W2)=>.ok (.mk s.k (cq s.k s.nm) (bN s.k s.on) (bO s.k s.od) ys b c s.a r,W2)
      else if s.k=6 then
       match kQ H has res W s.bd with
       |.error x=>.error x
       |.ok (b,W1)=>.ok (.mk s.k (cq s.k s.nm) (bN s.k s.on) (bO s.k s.od) ys b [] s.a r,W1)
      else .ok (.mk s.k (cq s.k s.nm) (bN s.k s.on) (bO s.k s.od) ys [] [] s.a r,W)
  else .error s.a:=by
 obtain⟨k,nm,on,od,es,bd,el,a,ref⟩:=s
 exact Yt H has res V k nm on od es bd el a ref
theorem ug {H:Hd}{has:Bool}{res:T3}{V X:List Vd}{s y:Sm}(h:wF H has res V s=.ok (y,X)):∃t ys r W,dK has s.k s.es=true/\lD H s.k s.on s.od=some t/\An H V s.k s.es=.ok ys/\jR H res V s.k s.nm ys t=some (r,W)/\
  (s.k=5/\(∃b W1 c,kQ H has res W s.bd=.ok (b,W1)/\kQ H has res W1 s.el=.ok (c,X)/\y=.mk s.k (cq s.k s.nm) (bN s.k s.on) (bO s.k s.od) ys b c s.a r)\/
   s.k=6/\(∃b,kQ H has res W s.bd=.ok (b,X)/\y=.mk s.k (cq s.k s.nm) (bN s.k s.on) (bO s.k s.od) ys b [] s.a r)\/
   s.k≠5/\s.k≠6/\X=W/\y=.mk s.k (cq s.k s.nm) (bN s.k s.on) (bO s.k s.od) ys [] [] s.a r):=by
 rw[pM]at h
 split at h
 ·rename_i hf
  split at h
  ·cases h
  ·rename_i t ht
   split at h
   ·cases h
   ·rename_i ys sV
    split at h
    ·cases h
    ·rename_i r W bn
     refine⟨t,ys,r,W,hf,ht,sV,bn,?_⟩
     split at h
     ·rename_i h5
      split at h
      ·cases h
      ·rename_i b W1 hb
       split at h
       ·cases h
       ·rename_i c W2 hc
        cases h
        exact .inl ⟨h5,b,W1,c,hb,hc,rfl⟩
     ·rename_i h5
      split at h
      ·rename_i h6
       split at h
       ·cases h
       ·rename_i b W1 hb
        cases h
        exact .inr (.inl ⟨h6,b,hb,rfl⟩)
      ·rename_i h6
       cases h
       exact .inr (.inr ⟨h5,h6,rfl,rfl⟩)
 ·cases h
theorem nL {H:Hd}{has:Bool}{res:T3}{V X:List Vd}{s:Sm}{l:List Sm}{zs:List Sm}(h:kQ H has res V (s::l)=.ok (zs,X)):∃y W ys,wF H has res V s=.ok (y,W)/\kQ H has res W l=.ok (ys,X)/\zs=y::ys:=by
 unfold kQ at h
 split at h
 ·cases h
 ·rename_i y W hy
  split at h
  ·cases h
  ·rename_i ys X' hz
   cases h
   exact⟨y,W,ys,hy,hz,rfl⟩
theorem HC {H:Hd}{res:T3}{V W:List Vd}{k:Int}{nm:List UInt8}{es:List E}{t:T3}{r:Int}(h:jR H res V k nm es t=some (r,W)):W=V\/(k=1\/k=2)/\W=V++[⟨nm,t⟩]:=by
 unfold jR at h
 split at h
 ·rename_i c
  split at h
  ·cases h
  ·cases h;exact .inr ⟨.inl c,rfl⟩
 split at h
 ·rename_i c
  split at h
  ·split at h
   ·cases h
   ·cases h;exact .inr ⟨.inr c,rfl⟩
  ·cases h
 all_goals left
 split at h
 ·split at h
  ·split at h<;>cases h;rfl
  ·cases h
 split at h
 ·split at h<;>cases h;rfl
 split at h
 ·split at h<;>cases h;rfl
 split at h
 ·split at h<;>cases h;rfl
 split at h
 ·split at h<;>cases h;rfl
 ·cases h;rfl
theorem UF {H:Hd}{k:Int}{on:List UInt8}{od:Int}{t:T3}(h:lD H k on od=some t):WT H.rs.length t:=by
 unfold lD at h
 split at h
 ·split at h<;>cases h;exact kH _ _ _
 ·cases h;exact QB
theorem xJ {H:Hd}{has:Bool}{res:T3}:∀{l ys:List Sm}{V X:List Vd},(∀s∈l,∀V y W,(∀f∈V,WT H.rs.length f.ty)->wF H has res V s=.ok (y,W)->(∀f∈W,WT H.rs.length f.ty)/\W.length<=V.length+Sm.sz s)->
  (∀f∈V,WT H.rs.length f.ty)->kQ H has res V l=.ok (ys,X)->(∀f∈X,WT H.rs.length f.ty)/\X.length<=V.length+Sm.dV l
 |[],ys,V,X,_,hV,h=>by unfold kQ at h;cases h;exact⟨hV,by simp[Sm.dV]⟩
 |s::l,ys,V,X,hp,hV,h=>by
  obtain⟨y,W,zs,h1,h2,rfl⟩:=nL h
  obtain⟨a1,a2⟩:=hp s List.mem_cons_self V y W hV h1
  obtain⟨b1,b2⟩:=xJ (λs hs=>hp s (List.mem_cons_of_mem _ hs)) a1 h2
  exact⟨b1,by simp only[Sm.dV];omega⟩
theorem JJ {H:Hd}{has:Bool}{res:T3}(s:Sm):∀V y W,(∀f∈V,WT H.rs.length f.ty)->wF H has res V s=.ok (y,W)->(∀f∈W,WT H.rs.length f.ty)/\W.length<=V.length+Sm.sz s:=by
 induction s using Sm.ind with
 |_ s sW uh=>
  intro V y X hV h
  obtain⟨t,ys,r,W,hf,ht,sV,bn,hh⟩:=ug h
  have hW:(∀f∈W,WT H.rs.length f.ty)/\W.length<=V.length+1:=by
   rcases HC bn with e|⟨_,e⟩
   ·subst e;exact⟨hV,by omega⟩
   ·subst e
    refine⟨λf hf=>?_,by simp⟩
    rcases List.mem_append.1 hf with h|h
    ·exact hV f h
    ·rw[List.mem_singleton.1 h];exact UF ht
  have hz:=Sm.nK s
  rcases hh with⟨_,b,W1,c,hb,hc,_⟩|⟨_,b,hb,_⟩|⟨_,_,rfl,_⟩
  ·obtain⟨a1,a2⟩:=xJ sW hW.1 hb
   obtain⟨b1,b2⟩:=xJ uh a1 hc
   exact⟨b1,by omega⟩
  ·obtain⟨a1,a2⟩:=xJ sW hW.1 hb
   exact⟨a1,by omega⟩
  ·exact⟨hW.1,by omega⟩
theorem QE {H:Hd}{has:Bool}{res:T3}{l ys:List Sm}{V X:List Vd}(hV:∀f∈V,WT H.rs.length f.ty)(h:kQ H has res V l=.ok (ys,X)):(∀f∈X,WT H.rs.length f.ty)/\X.length<=V.length+Sm.dV l:=
 xJ (λs _=>JJ s) hV h
theorem K5 {H:Hd}{V:List Vd}{e y:E}(h:uf H V e=.ok y):y.k=e.k:=by
 obtain⟨ks,t,r,_,_,_,rfl⟩:=pL h;rfl
theorem mh {H:Hd}{V:List Vd}{has:Bool}{k:Int}{l ys:List E}(h:nJ H V l=.ok ys)(hf:dK has k l=true):dK has k ys=true:=by
 have hl:=oD h
 unfold dK at hf ⊢
 rw[hl]
 match l,hl,hf,h with
 |[],hl,hf,_=>rw[List.length_nil]at hl;rw[List.eq_nil_of_length_eq_zero hl];exact hf
 |[e],hl,hf,h=>
  obtain⟨y,zs,h1,_,h2,rfl⟩:=jJ h
  unfold nJ at h2;cases h2
  simpa [K5 h1] using hf
 |[e,e2],hl,hf,h=>
  obtain⟨y,zs,h1,_,h2,rfl⟩:=jJ h
  obtain⟨y2,zs2,h3,_,h4,rfl⟩:=jJ h2
  unfold nJ at h4;cases h4
  simpa [K5 h1] using hf
 |e::e2::e3::l,hl,hf,h=>
  obtain⟨y,zs,h1,_,h2,rfl⟩:=jJ h
  obtain⟨y2,zs2,h3,_,h4,rfl⟩:=jJ h2
  obtain⟨y3,zs3,h5,_,h6,rfl⟩:=jJ h4
  simp at hf
theorem mj {H:Hd}{V:List Vd}{k:Int}{es:List E}(h:k≠9):An H V k es=nJ H V es:=by unfold An;rw[if_neg h]
theorem K6 {H:Hd}{V:List Vd}{e:E}:An H V 9 [e]=match uf H V e with|.error x=>.error x|.ok y=>.ok [y]:=by unfold An;rfl
theorem JK {has:Bool}{es:List E}(h:dK has 9 es=true):∃e,es=[e]/\e.k=7:=by
 unfold dK at h
 match es,h with
 |[],h=>cases h
 |[e],h=>exact⟨e,rfl,by simpa using h⟩
 |_::_::_,h=>cases h
theorem QF {H:Hd}{V:List Vd}{has:Bool}{k:Int}{l ys:List E}(h:An H V k l=.ok ys)(hf:dK has k l=true):dK has k ys=true:=by
 by_cases h9:k=9
 ·subst h9
  obtain⟨e,rfl,he⟩:=JK hf
  rw[K6]at h
  split at h
  ·cases h
  ·rename_i y hy
   cases h
   unfold dK
   simpa [K5 hy] using he
 ·rw[mj h9]at h;exact mh h hf
theorem mm {H:Hd}{res:T3}{V:List Vd}{k:Int}{nm:List UInt8}{es:List E}{t:T3}:jR H res V k (cq k nm) es t=jR H res V k nm es t:=by
 unfold jR
 by_cases h1:k=1
 ·simp[cq,h1]
 by_cases h2:k=2
 ·simp[cq,h2]
 by_cases h3:k=3
 ·simp[cq,h3]
 simp only[if_neg h1,if_neg h2,if_neg h3]
theorem E6 {H:Hd}{V:List Vd}:∀{l ys:List E},(∀e∈l,∀y,uf H V e=.ok y->E.sz y=E.sz e)->nJ H V l=.ok ys->E.dV ys=E.dV l
 |[],ys,_,h=>by unfold nJ at h;cases h;rfl
 |e::l,ys,hp,h=>by
  obtain⟨y,zs,h1,_,h2,rfl⟩:=jJ h
  simp only[E.dV,hp e List.mem_cons_self y h1,E6 (λe he=>hp e (List.mem_cons_of_mem _ he)) h2]
theorem QG {H:Hd}{V:List Vd}(e:E):∀y,uf H V e=.ok y->E.sz y=E.sz e:=by
 induction e using E.ind with
 |_ e ih=>
  intro y h
  obtain⟨ks,t,r,_,h2,_,rfl⟩:=pL h
  rw[E.sF e]
  simp only[E.sz,E6 ih h2]
theorem Yu {H:Hd}{V:List Vd}{l ys:List E}(h:nJ H V l=.ok ys):E.dV ys=E.dV l:=E6 (λe _=>QG e) h
theorem Yv {H:Hd}{V:List Vd}{has:Bool}{k:Int}{l ys:List E}(h:An H V k l=.ok ys)(hf:dK has k l=true):E.dV ys=E.dV l:=by
 by_cases h9:k=9
 ·subst h9
  obtain⟨e,rfl,he⟩:=JK hf
  rw[K6]at h
  split at h
  ·cases h
  ·rename_i y hy
   cases h
   simp only[E.dV,QG e y hy]
 ·rw[mj h9]at h
  exact Yu h
theorem xK {H:Hd}{has:Bool}{res:T3}:∀{l ys:List Sm}{V X:List Vd},(∀s∈l,∀V y W,wF H has res V s=.ok (y,W)->Sm.sz y<=Sm.sz s)->kQ H has res V l=.ok (ys,X)->Sm.dV ys<=Sm.dV l
 |[],ys,V,X,_,h=>by unfold kQ at h;cases h;exact Nat.le_refl _
 |s::l,ys,V,X,hp,h=>by
  obtain⟨y,W,zs,h1,h2,rfl⟩:=nL h
  have a:=hp s List.mem_cons_self V y W h1
  have b:=xK (λs hs=>hp s (List.mem_cons_of_mem _ hs)) h2
  simp only[Sm.dV];omega
theorem Yw {H:Hd}{has:Bool}{res:T3}(s:Sm):∀V y W,wF H has res V s=.ok (y,W)->Sm.sz y<=Sm.sz s:=by
 induction s using Sm.ind with
 |_ s sW uh=>
  intro V y X h
  obtain⟨t,ys,r,W,hf,ht,sV,bn,hh⟩:=ug h
  have e:=Yv sV hf
  have hz:=Sm.nK s
  rcases hh with⟨h5,b,W1,c,hb,hc,rfl⟩|⟨h6,b,hb,rfl⟩|⟨h5,h6,rfl,rfl⟩
  ·have b2:=xK sW hb
   have c2:=xK uh hc
   simp only[Sm.sz];omega
  ·have b2:=xK sW hb
   simp only[Sm.sz,Sm.dV];omega
  ·simp only[Sm.sz,Sm.dV];omega
theorem Yx {H:Hd}{has:Bool}{res:T3}{l ys:List Sm}{V X:List Vd}(h:kQ H has res V l=.ok (ys,X)):Sm.dV ys<=Sm.dV l:=xK (λs _=>Yw s) h
theorem xL {H:Hd}:∀{ss:List Sg}{fs:List Fc}{bs:List Bd},ss.length=fs.length->qk H ss fs=.ok bs->bs.length=fs.length
 |[],[],bs,_,h=>by unfold qk at h;cases h;rfl
 |s::ss,f::fs,bs,hl,h=>by
  unfold qk at h
  split at h
  ·cases h
  ·split at h
   ·cases h
   ·rename_i l F2
    cases h
    simp[xL (by simpa using hl) F2]
 |[],_::_,_,hl,_=>by cases hl
 |_::_,[],_,hl,_=>by cases hl
theorem DY {H:Hd}{n:Nat}:∀{ss:List Sg}{fs:List Fc}{bs:List Bd},qk H ss fs=.ok bs->(∀f∈fs,Sm.dV f.body<=n)->∀b∈bs,Sm.dV b.code<=n
 |[],fs,bs,h,_=>by unfold qk at h;cases h;simp
 |_::_,[],bs,h,_=>by unfold qk at h;cases h;simp
 |s::ss,f::fs,bs,h,hp=>by
  unfold qk at h
  split at h
  ·cases h
  ·rename_i c W hc
   split at h
   ·cases h
   ·rename_i l F2
    cases h
    intro b hb
    rcases List.mem_cons.1 hb with e|e
    ·subst e
     have:=Yx hc
     have:=hp f List.mem_cons_self
     simp only;omega
    ·exact DY F2 (λf hf=>hp f (List.mem_cons_of_mem _ hf)) b e
theorem HD {H:Hd}(hH:H.ok){n:Nat}:∀{ss:List Sg}{fs:List Fc}{bs:List Bd},qk H ss fs=.ok bs->(∀s∈ss,∀f∈s.ps,WT H.rs.length f.ty)->(∀s∈ss,s.ps.length<=n)->(∀f∈fs,Sm.dV f.body<=n)->∀b∈bs,b.vars.length<=n+n
 |[],fs,bs,h,_,_,_=>by unfold qk at h;cases h;simp
 |_::_,[],bs,h,_,_,_=>by unfold qk at h;cases h;simp
 |s::ss,f::fs,bs,h,hs,hp,hq=>by
  unfold qk at h
  split at h
  ·cases h
  ·rename_i c W hc
   split at h
   ·cases h
   ·rename_i l F2
    cases h
    intro b hb
    rcases List.mem_cons.1 hb with e|e
    ·subst e
     have:=(QE (hs s List.mem_cons_self) hc).2
     have:=hp s List.mem_cons_self
     have:=hq f List.mem_cons_self
     simp only;omega
    ·exact HD hH F2 (λs h=>hs s (List.mem_cons_of_mem _ h)) (λs h=>hp s (List.mem_cons_of_mem _ h)) (λf h=>hq f (List.mem_cons_of_mem _ h)) b e
end mV
namespace mV
open Ax Go V7 lP
theorem yC {k n:Int}{nm on:List UInt8}{od:Int}{ks:List E}{a:Int}:E.sz (Em k n nm on od ks a)=1+E.dV ks:=rfl
theorem oE:E.dV []=0:=rfl
theorem jW {e:E}:E.dV [e]=E.sz e:=by simp[E.dV]
theorem E7 {e f:E}:E.dV [e,f]=E.sz e+E.sz f:=by simp[E.dV]
theorem K7:∀l r:List E,E.dV (l++r)=E.dV l+E.dV r
 |[],r=>by simp[E.dV]
 |e::l,r=>by
  have:=K7 l r
  simp only[List.cons_append,E.dV];omega
theorem K8:∀l r:List Sm,Sm.dV (l++r)=Sm.dV l+Sm.dV r
 |[],r=>by simp[Sm.dV]
 |e::l,r=>by
  have:=K8 l r
  simp only[List.cons_append,Sm.dV];omega
theorem mo:Sm.dV []=0:=rfl
theorem UG {e:Sm}:Sm.dV [e]=Sm.sz e:=by simp[Sm.dV]
theorem B7 {k:Int}{nm on:List UInt8}{od:Int}{es:List E}{bd el:List Sm}{a ref:Int}:Sm.sz (.mk k nm on od es bd el a ref)=1+E.dV es+Sm.dV bd+Sm.dV el:=rfl
theorem ig {q:RQ}:(bE q).at_=q.at_+1:=rfl
theorem UH {q:RQ}{d:Int}:(tY q d).at_=q.at_:=rfl
theorem UI {q:RQ}{d:Int}:(tY q d).fe=q.fe:=rfl
theorem oF {T:List Tk}{q r:RQ}(w:sB T q r)(f:r.fe=0):q.at_+1<=r.at_:=by
 rcases w with w|⟨_,w⟩
 ·exact absurd f w
 ·exact w
theorem HE (T:List Tk):∀f:Nat,(∀n q e r,iw T f n q=some (e,r)->r.fe=0->E.sz e+q.at_<=r.at_)/\(∀n a q e r,mR T f n a q=some (e,r)->r.fe=0->E.sz e+q.at_<=r.at_+E.sz a)/\
  (∀q e r,nZ T f q=some (e,r)->r.fe=0->E.sz e+q.at_<=r.at_)/\(∀a q e r,jC T f a q=some (e,r)->r.fe=0->E.sz e+q.at_<=r.at_+E.sz a)/\(∀q e r,l9 T f q=some (e,r)->r.fe=0->E.sz e+q.at_<=r.at_)/\
  (∀q e r,n5 T f q=some (e,r)->r.fe=0->E.sz e+q.at_<=r.at_)/\(∀a q e r,n6 T f a q=some (e,r)->r.fe=0->E.sz e+q.at_<=r.at_)/\(∀q e r,sS T f q=some (e,r)->r.fe=0->E.dV e+q.at_<=r.at_)/\
  (∀l q e r,ri T f l q=some (e,r)->r.fe=0->E.dV e+q.at_<=r.at_+E.dV l)
 |0=>by simp[iw,mR,nZ,jC,l9,n5,n6,sS,ri]
 |f+1=>by
  obtain⟨hE,hS,hU,hB,hI,hF,hN,hA,hM⟩:=HE T f
  obtain⟨gE,gS,gU,gB,gI,gF,gN,gA,gM⟩:=xG T f
  refine⟨λn q e r h fr=>?_,λn a q e r h fr=>?_,λq e r h fr=>?_,λa q e r h fr=>?_,λq e r h fr=>?_,λq e r h fr=>?_,λa q e r h fr=>?_,λq e r h fr=>?_,λl q e r h fr=>?_⟩
  ·unfold iw at h
   split at h
   ·exact hU _ _ _ h fr
   ·obtain⟨⟨x1,x2⟩,h1,h2⟩:=Option.bind_eq_some_iff.1 h
    have f2:=(gS _ _ _ _ _ h2).zp fr
    have:=hE _ _ _ _ h1 f2
    have:=hS _ _ _ _ _ h2 fr
    (try dsimp only at *);omega
  ·unfold mR at h
   split at h
   ·rename_i c
    obtain⟨⟨x1,x2⟩,h1,h2⟩:=Option.bind_eq_some_iff.1 h
    have f2:=(gS _ _ _ _ _ h2).zp fr
    have a1:=hE _ _ _ _ h1 f2
    have a2:=hS _ _ _ _ _ h2 fr
    rw[yC,E7]at a2
    rw[ig]at a1
    (try dsimp only at *);omega
   ·cases h;omega
  ·unfold nZ at h
   split at h
   ·obtain⟨⟨x1,x2⟩,h1,h2⟩:=Option.bind_eq_some_iff.1 h
    cases h2
    rw[UI]at fr
    have a1:=hE _ _ _ _ h1 fr
    have a2:=oF jD ((gE _ _ _ _ h1).zp fr)
    rw[yC,jW,UH]
    (try dsimp only at *);omega
   ·obtain⟨⟨x1,x2⟩,h1,h2⟩:=Option.bind_eq_some_iff.1 h
    have f2:=(gB _ _ _ _ h2).zp fr
    have:=hF _ _ _ h1 f2
    have:=hB _ _ _ _ h2 fr
    (try dsimp only at *);omega
  ·unfold jC at h
   split at h
   ·rename_i c
    have a1:=hB _ _ _ _ h fr
    rw[yC,jW]at a1
    have a2:=(gm (T:=T) (q:=bE q)).le
    rw[ig]at a2
    omega
   ·split at h
    ·obtain⟨⟨x1,x2⟩,h1,h2⟩:=Option.bind_eq_some_iff.1 h
     have f2:=(gB _ _ _ _ h2).zp fr
     have f3:=(dY (T:=T) (q:=x2) (s:=[93])).zp f2
     have a1:=hE _ _ _ _ h1 f3
     have a2:=oF jD ((gE _ _ _ _ h1).zp f3)
     have a3:=hB _ _ _ _ h2 fr
     have a4:=(dY (T:=T) (q:=x2) (s:=[93])).le
     rw[yC,E7]at a3
     (try dsimp only at *);omega
    ·cases h;omega
  ·unfold l9 at h
   obtain⟨⟨x1,x2⟩,h1,h2⟩:=Option.bind_eq_some_iff.1 h
   cases h2
   have f3:=(dY (T:=T) (q:=x2) (s:=[41])).zp fr
   have a1:=hE _ _ _ _ h1 f3
   have a2:=oF jD ((gE _ _ _ _ h1).zp f3)
   have a4:=(dY (T:=T) (q:=x2) (s:=[41])).le
   (try dsimp only at *);omega
  ·unfold n5 at h
   split at h
   ·cases h;rw[yC,oE,ig];omega
   split at h
   ·cases h;rw[yC,oE,ig];omega
   split at h
   ·cases h
    have:=(mc (T:=T) (q:=bE q)).le
    rw[ig]at this
    rw[yC,oE];omega
   split at h
   ·have:=hN _ _ _ _ h fr
    rw[ig]at this;omega
   split at h
   ·obtain⟨⟨x1,x2⟩,h1,h2⟩:=Option.bind_eq_some_iff.1 h
    cases h2
    have a1:=hI _ _ _ h1 fr
    rw[ig]at a1
    rw[yC,jW]
    (try dsimp only at *);omega
   split at h
   ·cases h
    have a1:=((eG (T:=T) (q:=bE q) (s:=[40])).trans (dY (s:=[41]))).le
    rw[ig]at a1
    rw[yC,oE];omega
   split at h
   ·exact hI _ _ _ h fr
   split at h
   ·obtain⟨⟨x1,x2⟩,h1,h2⟩:=Option.bind_eq_some_iff.1 h
    cases h2
    have a1:=hA _ _ _ h1 fr
    have a2:=oF mT ((gA _ _ _ h1).zp fr)
    rw[yC]
    (try dsimp only at *);omega
   ·cases h
    have a2:=oF mT fr
    rw[yC,oE];omega
  ·unfold n6 at h
   split at h
   ·obtain⟨⟨x1,x2⟩,h1,h2⟩:=Option.bind_eq_some_iff.1 h
    cases h2
    have a1:=hI _ _ _ h1 fr
    have a2:=((mc (T:=T) (q:=bE q)).trans (aW (s:=[93]))).le
    rw[ig]at a2
    rw[yC,jW]
    (try dsimp only at *);omega
   ·cases h
    have a2:=oF mT fr
    rw[yC,oE];omega
  ·unfold sS at h
   split at h
   ·cases h
    have a1:=((eG (T:=T) (q:=q) (s:=[40])).trans (dY (s:=[41]))).le
    rw[oE];omega
   ·obtain⟨⟨x1,x2⟩,h1,h2⟩:=Option.bind_eq_some_iff.1 h
    have f2:=(gM _ _ _ _ h2).zp fr
    have a1:=hE _ _ _ _ h1 f2
    have a2:=(eG (T:=T) (q:=q) (s:=[40])).le
    have a3:=hM _ _ _ _ h2 fr
    rw[jW]at a3
    (try dsimp only at *);omega
  ·unfold ri at h
   split at h
   ·obtain⟨⟨x1,x2⟩,h1,h2⟩:=Option.bind_eq_some_iff.1 h
    have f2:=(gM _ _ _ _ h2).zp fr
    have a1:=hE _ _ _ _ h1 f2
    rw[ig]at a1
    have a3:=hM _ _ _ _ h2 fr
    rw[K7,jW]at a3
    (try dsimp only at *);omega
   ·cases h
    have a1:=(dY (T:=T) (q:=q) (s:=[41])).le
    omega
theorem kI {T:List Tk}{f n:Nat}{q r:RQ}{e:E}(h:iw T f n q=some (e,r))(fr:r.fe=0):E.sz e+q.at_<=r.at_:=(HE T f).1 _ _ _ _ h fr
theorem JL {T:List Tk}{f:Nat}{a:Int}{q r:RQ}{s:Sm}(h:qD T f a q=some (s,r))(fr:r.fe=0):Sm.sz s+q.at_<=r.at_:=by
 unfold qD at h
 obtain⟨⟨x1,x2⟩,h1,h2⟩:=Option.bind_eq_some_iff.1 h
 dsimp only at h2
 split at h2
 ·obtain⟨⟨y1,y2⟩,h3,h4⟩:=Option.bind_eq_some_iff.1 h2
  cases h4
  have f1:=(aW (T:=T) (q:=y2) (s:=[59])).zp fr
  have w:=oF jj fr
  have a3:=kI h3 f1
  have f3:=(gT h3).zp f1
  have w2:=oF jj f3
  have f4:=aW.zp f3
  by_cases c:x1.k=4\/x1.k=5\/x1.k=6
  ·rw[if_pos c]at w2 f4
   have a1:=kI h1 f4
   rw[if_pos c]at a3
   by_cases c4:x1.k=4
   ·rw[if_pos c4,B7,jW,mo];(try dsimp only at *);omega
   ·rw[if_neg c4,B7,E7,mo];(try dsimp only at *);omega
  ·rw[if_neg c]at f4
   exact absurd f4 (jI (by decide))
 ·cases h2
  have f1:=(aW).zp fr
  have w:=oF jj fr
  by_cases c:gf T x2 [59]=true/\x1.k≠7
  ·rw[if_pos c]at f1
   exact absurd f1 (jI (by decide))
  ·rw[if_neg c]at f1 w
   have a1:=kI h1 f1
   rw[B7,jW,mo,if_neg c];(try dsimp only at *);omega
theorem B8 (T:List Tk):∀f:Nat,(∀q s r,sU T f q=some (s,r)->r.fe=0->Sm.sz s+q.at_<=r.at_)/\(∀q s r,ji T f q=some (s,r)->r.fe=0->Sm.dV s+q.at_<=r.at_)/\
  (∀l q s r,mS T f l q=some (s,r)->r.fe=0->Sm.dV s+q.at_<=r.at_+Sm.dV l)
 |0=>by simp[sU,ji,mS]
 |f+1=>by
  obtain⟨hS,hB,hL⟩:=B8 T f
  obtain⟨gS,gB,gL⟩:=pH T f
  refine⟨λq s r h fr=>?_,λq s r h fr=>?_,λl q s r h fr=>?_⟩
  ·unfold sU at h
   split at h
   ·cases h
    have:=((g9 (T:=T) (q:=bE q)).trans (aW (s:=[59]))).le
    rw[ig]at this
    rw[B7,oE,mo];omega
   split at h
   ·obtain⟨⟨x1,x2⟩,h1,h2⟩:=Option.bind_eq_some_iff.1 h
    cases h2
    have f1:=aW.zp fr
    have a1:=kI h1 f1
    have a2:=((g9 (T:=T) (q:=bE q)).trans (aW (s:=[61]))).le
    have a3:=(aW (T:=T) (q:=x2) (s:=[59])).le
    rw[ig]at a2
    rw[B7,jW,mo];(try dsimp only at *);omega
   split at h
   ·obtain⟨⟨x1,x2⟩,h1,h2⟩:=Option.bind_eq_some_iff.1 h
    obtain⟨⟨y1,y2⟩,h3,h4⟩:=Option.bind_eq_some_iff.1 h2
    dsimp only at h4
    split at h4
    ·rename_i d
     obtain⟨⟨z1,z2⟩,h5,h6⟩:=Option.bind_eq_some_iff.1 h4
     cases h6
     have f1:=(gB _ _ _ h5).1.zp fr
     have f2:y2.fe=0:=f1
     have f3:=(gB _ _ _ h3).1.zp f2
     have a1:=kI h1 f3
     have a2:=hB _ _ _ h3 f2
     have a3:=hB _ _ _ h5 fr
     rw[ig]at a1 a3
     rw[B7,jW];(try dsimp only at *);omega
    ·cases h4
     have f3:=(gB _ _ _ h3).1.zp fr
     have a1:=kI h1 f3
     have a2:=hB _ _ _ h3 fr
     rw[ig]at a1
     rw[B7,jW,mo];(try dsimp only at *);omega
   split at h
   ·obtain⟨⟨x1,x2⟩,h1,h2⟩:=Option.bind_eq_some_iff.1 h
    obtain⟨⟨y1,y2⟩,h3,h4⟩:=Option.bind_eq_some_iff.1 h2
    cases h4
    have f3:=(gB _ _ _ h3).1.zp fr
    have a1:=kI h1 f3
    have a2:=hB _ _ _ h3 fr
    rw[ig]at a1
    rw[B7,jW,mo];(try dsimp only at *);omega
   split at h
   ·split at h
    ·cases h
     have a2:=(aW (T:=T) (q:=bE q) (s:=[59])).le
     rw[ig]at a2
     rw[B7,oE,mo];omega
    ·obtain⟨⟨x1,x2⟩,h1,h2⟩:=Option.bind_eq_some_iff.1 h
     cases h2
     have f1:=aW.zp fr
     have a1:=kI h1 f1
     have a3:=(aW (T:=T) (q:=x2) (s:=[59])).le
     rw[ig]at a1
     rw[B7,jW,mo];(try dsimp only at *);omega
   split at h
   ·obtain⟨⟨x1,x2⟩,h1,h2⟩:=Option.bind_eq_some_iff.1 h
    cases h2
    have f1:=aW.zp fr
    have a1:=kI h1 f1
    have a3:=(aW (T:=T) (q:=x2) (s:=[59])).le
    rw[ig]at a1
    rw[B7,jW,mo];(try dsimp only at *);omega
   ·exact JL h fr
  ·unfold ji at h
   have a1:=hL _ _ _ _ h fr
   have a2:=(eG (T:=T) (q:=q) (s:=[123])).le
   rw[mo]at a1
   omega
  ·unfold mS at h
   split at h
   ·obtain⟨⟨x1,x2⟩,h1,h2⟩:=Option.bind_eq_some_iff.1 h
    have f1:=(gL _ _ _ _ h2).zp fr
    have a1:=hS _ _ _ h1 f1
    have a2:=hL _ _ _ _ h2 fr
    rw[K8,UG]at a2
    (try dsimp only at *);omega
   ·cases h
    have a2:=(dY (T:=T) (q:=q) (s:=[125])).le
    omega
theorem B9 {T:List Tk}{f:Nat}{q r:RQ}{s:List Sm}(h:ji T f q=some (s,r))(fr:r.fe=0):Sm.dV s+q.at_<=r.at_:=(B8 T f).2.1 _ _ _ h fr
theorem MK {T:List Tk}{f:Nat}{q r:RQ}{s:Fc}(h:tZ T f q=some (s,r))(fr:r.fe=0):Sm.dV s.body<=r.at_:=by
 unfold tZ at h
 obtain⟨⟨x1,x2⟩,h1,h2⟩:=Option.bind_eq_some_iff.1 h
 dsimp only at h2
 split at h2
 ·obtain⟨⟨y1,y2⟩,h3,h4⟩:=Option.bind_eq_some_iff.1 h2
  cases h4
  have:=B9 h3 fr
  (try dsimp only at *);omega
 ·obtain⟨⟨y1,y2⟩,h3,h4⟩:=Option.bind_eq_some_iff.1 h2
  cases h4
  have:=B9 h3 fr
  (try dsimp only at *);omega
theorem mW {T:List Tk}:∀(f:Nat)(p:Pg)(q:RQ)(s:Pg)(r:RQ),nH T f p q=some (s,r)->q.at_<=T.length->(q.fe=0->∀g∈p.funcs,Sm.dV g.body<=T.length)->r.fe=0->∀g∈s.funcs,Sm.dV g.body<=T.length
 |0,_,_,_,_,h,_,_=>by simp[nH]at h
 |f+1,p,q,s,r,h,hq,hp=>by
  unfold nH at h
  split at h
  ·rename_i c
   split at h
   ·exact mW f _ _ _ _ h (iF.ub hq) λe=>absurd e (jI (by decide))
   split at h
   ·rename_i d
    obtain⟨⟨x1,x2⟩,h1,h2⟩:=Option.bind_eq_some_iff.1 h
    exact mW f _ _ _ _ h2 ((zv h1).1.ub (bg d).2) λe=>hp c.1
   split at h
   ·rename_i d
    exact mW f _ _ _ _ h ((g9.trans aW).ub (bg d).2) λe=>hp c.1
   split at h
   ·rename_i d
    obtain⟨⟨x1,x2⟩,h1,h2⟩:=Option.bind_eq_some_iff.1 h
    have hu:=(DT h1).1.ub (bg d).2
    exact mW f _ _ _ _ h2 hu λe g hg=>by
     rcases List.mem_append.1 hg with hg|hg
     ·exact hp c.1 g hg
     ·rw[List.mem_singleton.1 hg]
      have:=MK h1 e
      (try dsimp only at *);omega
   ·exact mW f _ _ _ _ h (iF.ub hq) λe=>absurd e (jI (by decide))
  ·cases h;exact λe=>hp e
theorem ML {T:List Tk}{f:Nat}{x:Pg×Int×Int}(h:sy T f=some x):∀g∈x.1.funcs,Sm.dV g.body<=T.length:=by
 unfold sy at h
 obtain⟨⟨p,r⟩,h1,h2⟩:=Option.bind_eq_some_iff.1 h
 dsimp only at h2
 split at h2
 ·rename_i c
  cases h2
  exact mW f _ _ _ _ h1 (Nat.zero_le _) (λ_ g hg=>by cases hg) c
 ·cases h2
  intro g hg
  cases hg
end mV
namespace mV
open Ax Go V7 lP
def oG (a b:Option Int):Option Int:=match a with
 |some x=>some x
 |none=>b
theorem rj {a:Option Int}:oG a none=a:=by cases a<;>rfl
theorem mX {a b c:Option Int}:oG (oG a b) c=oG a (oG b c):=by cases a<;>rfl
mutual
def E8 (su:List Bool):E->Option Int
 |.mk k _ _ _ _ kids a _ ref=>oG (mY su kids) (if k=4/\0<=ref/\su[ref.toNat]?=some false then some a else none)
def mY (su:List Bool):List E->Option Int
 |[]=>none
 |e::l=>oG (E8 su e) (mY su l)
end
mutual
def pN:List Bool->Sm->List Bool×Option Int
 |su,.mk k _ _ _ es bd el _ ref=>
  if k=1 then (su.set ref.toNat false,mY su es)
  else if k=2\/k=3 then (if 0<=ref then su.set ref.toNat true else su,mY su es)
  else if k=7 then (su.map λ_=>true,mY su es)
  else if k=6 then (su,oG (mY su es) (js su bd).2)
  else if k=5 then (List.zipWith (λa b=>a&&b) (js su bd).1 (js su el).1,oG (mY su es) (oG (js su bd).2 (js su el).2))
  else (su,mY su es)
def js:List Bool->List Sm->List Bool×Option Int
 |su,[]=>(su,none)
 |su,s::l=>((js (pN su s).1 l).1,oG (pN su s).2 (js (pN su s).1 l).2)
end
theorem UJ (su:List Bool)(e:E):E8 su e=oG (mY su e.kids) (if e.k=4/\0<=e.ref/\su[e.ref.toNat]?=some false then some e.a else none):=by
 obtain⟨k,n,nm,on,od,kids,a,ty,ref⟩:=e
 (conv=>lhs;unfold E8)<;>rfl
theorem DZ (su:List Bool)(e:E)(l:List E):mY su (e::l)=oG (E8 su e) (mY su l):=by
 (conv=>lhs;unfold mY)<;>rfl
theorem UK (su:List Bool)(s:Sm):pN su s =
  if s.k=1 then (su.set s.ref.toNat false,mY su s.es)
  else if s.k=2\/s.k=3 then (if 0<=s.ref then su.set s.ref.toNat true else su,mY su s.es)
  else if s.k=7 then (su.map λ_=>true,mY su s.es)
  else if s.k=6 then (su,oG (mY su s.es) (js su s.bd).2)
  else if s.k=5 then (List.zipWith (λa b=>a&&b) (js su s.bd).1 (js su s.el).1,oG (mY su s.es) (oG (js su s.bd).2 (js su s.el).2))
  else (su,mY su s.es):=by
 obtain⟨k,nm,on,od,es,bd,el,a,ref⟩:=s
 (conv=>lhs;unfold pN)<;>rfl
theorem MM (su:List Bool)(s:Sm)(l:List Sm):js su (s::l)=((js (pN su s).1 l).1,oG (pN su s).2 (js (pN su s).1 l).2):=by
 (conv=>lhs;unfold js)<;>rfl
theorem QH (su:List Bool):js su []=(su,none):=by unfold js;rfl
mutual
theorem HF:∀(su:List Bool)(s:Sm),(pN su s).1.length=su.length
 |su,.mk k nm on od es bd el a ref=>by
  unfold pN
  split
  ·simp
  split
  ·split<;>simp
  split
  ·simp
  split
  ·rfl
  split
  ·simp[uk su bd,uk su el]
  ·rfl
theorem uk:∀(su:List Bool)(l:List Sm),(js su l).1.length=su.length
 |su,[]=>by unfold js;rfl
 |su,s::l=>by
  unfold js
  simp only
  rw[uk (pN su s).1 l,HF su s]
end
mutual
def HH (n:Nat):E->Prop
 |.mk k _ _ _ _ kids _ _ ref=>(k=4->ref<n)/\yD n kids
def yD (n:Nat):List E->Prop
 |[]=>True
 |e::l=>HH n e/\yD n l
end
mutual
def E9 (n:Nat):Sm->Prop
 |.mk k _ _ _ es bd el _ ref=>yD n es/\(k=1\/k=2->0<=ref/\ref<n)/\(k=3->ref<n)/\sG n bd/\sG n el
def sG (n:Nat):List Sm->Prop
 |[]=>True
 |s::l=>E9 n s/\sG n l
end
theorem Ao (n:Nat)(e:E):HH n e↔(e.k=4->e.ref<n)/\yD n e.kids:=by
 obtain⟨k,_,nm,on,od,kids,a,ty,ref⟩:=e
 unfold HH;exact Iff.rfl
theorem uY (n:Nat)(s:Sm):E9 n s↔yD n s.es/\(s.k=1\/s.k=2->0<=s.ref/\s.ref<n)/\(s.k=3->s.ref<n)/\sG n s.bd/\sG n s.el:=by
 obtain⟨k,nm,on,od,es,bd,el,a,ref⟩:=s
 unfold E9;exact Iff.rfl
theorem mq (n:Nat):∀l:List E,yD n l↔∀e∈l,HH n e
 |[]=>by simp[yD]
 |e::l=>by simp[yD,mq n l]
theorem rm (n:Nat):∀l:List Sm,sG n l↔∀e∈l,E9 n e
 |[]=>by simp[sG]
 |e::l=>by simp[sG,rm n l]
theorem MN {n m:Nat}(h:n<=m)(e:E):HH n e->HH m e:=by
 induction e using E.ind with
 |_ e ih=>
  rw[Ao,Ao,mq,mq]
  exact λ⟨h1,h2⟩=>⟨λhk=>by have:=h1 hk;omega,λx hx=>ih x hx (h2 x hx)⟩
theorem uZ {n m:Nat}(h:n<=m)(l:List E):yD n l->yD m l:=by
 rw[mq,mq]
 exact λh2 x hx=>MN h x (h2 x hx)
theorem D0 {n m:Nat}(h:n<=m)(s:Sm):E9 n s->E9 m s:=by
 induction s using Sm.ind with
 |_ s sW uh=>
  rw[uY,uY]
  rintro⟨h1,h2,h3,h4,h5⟩
  rw[rm]at h4 h5 ⊢
  refine⟨uZ h _ h1,λhk=>?_,λhk=>?_,λx hx=>sW x hx (h4 x hx),?_⟩
  ·have:=h2 hk;omega
  ·have:=h3 hk;omega
  ·rw[rm];exact λx hx=>uh x hx (h5 x hx)
theorem MO {n m:Nat}(h:n<=m)(l:List Sm):sG n l->sG m l:=by
 rw[rm,rm]
 exact λh2 x hx=>D0 h x (h2 x hx)
theorem xM {s:List UInt8}:∀{l:List Vd}{i k:Nat}{t:T3},gK s i l=some (k,t)->k<i+l.length
 |[],_,_,_,h=>by cases h
 |f::l,i,k,t,h=>by
  unfold gK at h
  split at h
  ·cases h;simp
  ·have:=xM h
   simp only[List.length_cons];omega
theorem QI {H:Hd}{V:List Vd}{s:List UInt8}{t:T3}{r:Int}(h:tf H V s=some (t,r)):r<V.length:=by
 unfold tf at h
 split at h
 ·rename_i e;cases h;have:=xM e;omega
 ·split at h
  ·cases h;omega
  ·cases h
theorem La {H:Hd}{V:List Vd}(e:E):∀y,uf H V e=.ok y->HH V.length y:=by
 induction e using E.ind with
 |_ e ih=>
  intro y h
  obtain⟨ks,t,r,_,h2,h3,rfl⟩:=pL h
  rw[Ao]
  refine⟨λhk=>?_,?_⟩
  ·have hk:e.k=4:=hk
   show r<_
   unfold oC at h3
   rw[if_neg (by omega),if_neg (by omega),if_neg (by omega),if_pos hk]at h3
   exact QI h3
  ·show yD _ ks
   rw[mq]
   exact iN h2 ih
theorem xN {H:Hd}{has:Bool}{res:T3}:∀{l ys:List Sm}{V X:List Vd},(∀s∈l,∀V y W,wF H has res V s=.ok (y,W)->V.length<=W.length/\E9 W.length y)->kQ H has res V l=.ok (ys,X)->V.length<=X.length/\sG X.length ys
 |[],ys,V,X,_,h=>by
  unfold kQ at h
  cases h
  exact⟨Nat.le_refl _,by simp[sG]⟩
 |s::l,ys,V,X,hp,h=>by
  obtain⟨y,W,zs,h1,h2,rfl⟩:=nL h
  obtain⟨a1,a2⟩:=hp s List.mem_cons_self V y W h1
  obtain⟨b1,b2⟩:=xN (λt ht=>hp t (List.mem_cons_of_mem _ ht)) h2
  refine⟨by omega,?_⟩
  unfold sG
  exact⟨D0 b1 _ a2,b2⟩
theorem adb {H:Hd}{res:T3}{V W:List Vd}{k:Int}{nm:List UInt8}{es:List E}{t:T3}{r:Int}(h:jR H res V k nm es t=some (r,W)):(k=1\/k=2->r=V.length)/\(k=3->r<V.length):=by
 unfold jR at h
 split at h
 ·rename_i c
  split at h
  ·cases h
  ·cases h;exact⟨λ_=>rfl,λh=>by omega⟩
 rename_i n1
 split at h
 ·rename_i c
  split at h
  ·split at h
   ·cases h
   ·cases h;exact⟨λ_=>rfl,λh=>by omega⟩
  ·cases h
 rename_i n2
 split at h
 ·rename_i c
  split at h
  ·rename_i u r' e
   split at h
   ·cases h;exact⟨λh=>by omega,λ_=>QI e⟩
   ·cases h
  ·cases h
 rename_i n3
 exact⟨λh=>by omega,λh=>by omega⟩
theorem Yy {H:Hd}{V:List Vd}{k:Int}{es ys:List E}(h:An H V k es=.ok ys):yD V.length ys:=by
 unfold An at h
 rw[mq]
 split at h
 ·split at h
  ·rename_i e l
   cases hx:uf H V e with
   |error a=>rw[hx]at h;cases h
   |ok y=>
    rw[hx]at h;cases h
    intro z hz
    rw[List.mem_singleton.1 hz]
    exact La e y hx
  ·cases h;simp
 ·exact iN h λe _ y hy=>La e y hy
theorem UL {H:Hd}{has:Bool}{res:T3}(s:Sm):∀V y X,wF H has res V s=.ok (y,X)->V.length<=X.length/\E9 X.length y:=by
 induction s using Sm.ind with
 |_ s sW uh=>
  intro V y X h
  obtain⟨t,ys,r,W,hf,ht,sV,bn,hh⟩:=ug h
  have qK:=Yy sV
  have Wk:V.length<=W.length:=by
   rcases HC bn with e|⟨_,e⟩
   ·rw[e];exact Nat.le_refl _
   ·rw[e];simp
  have hr:=adb bn
  have C2:s.k=1\/s.k=2->0<=r/\r<(W.length:Int):=λhk=>by
   rcases HC bn with e|⟨_,e⟩
   ·have h1:=hr.1 hk
    have:W.length=V.length+1:=by
     unfold jR at bn
     rcases hk with hk|hk
     ·rw[if_pos hk]at bn
      split at bn
      ·cases bn
      ·cases bn;simp
     ·rw[if_neg (by omega),if_pos hk]at bn
      split at bn
      ·split at bn
       ·cases bn
       ·cases bn;simp
      ·cases bn
    omega
   ·have h1:=hr.1 hk
    rw[e,h1];simp;omega
  have hr3:s.k=3->r<(W.length:Int):=λhk=>by have:=hr.2 hk;omega
  rcases hh with⟨h5,b,W1,c,hb,hc,rfl⟩|⟨h6,b,hb,rfl⟩|⟨h5,h6,rfl,rfl⟩
  ·obtain⟨a1,a2⟩:=xN (λx hx V y W hw=>sW x hx V y W hw) hb
   obtain⟨b1,b2⟩:=xN (λx hx V y W hw=>uh x hx V y W hw) hc
   refine⟨by omega,(uY _ _).2 ⟨uZ (by omega) _ qK,λhk=>?_,λhk=>?_,MO b1 _ a2,b2⟩⟩
   ·have hk:s.k=1\/s.k=2:=hk
    omega
   ·have hk:s.k=3:=hk
    omega
  ·obtain⟨a1,a2⟩:=xN (λx hx V y W hw=>sW x hx V y W hw) hb
   refine⟨by omega,(uY _ _).2 ⟨uZ (by omega) _ qK,λhk=>?_,λhk=>?_,a2,by simp[Sm.el,sG]⟩⟩
   ·have hk:s.k=1\/s.k=2:=hk
    omega
   ·have hk:s.k=3:=hk
    omega
  ·exact⟨Wk,(uY _ _).2 ⟨uZ Wk _ qK,C2,hr3,by simp[Sm.bd,sG],by simp[Sm.el,sG]⟩⟩
theorem UM {H:Hd}{has:Bool}{res:T3}{l ys:List Sm}{V X:List Vd}(h:kQ H has res V l=.ok (ys,X)):V.length<=X.length/\sG X.length ys:=
 xN (λs _ V y W=>UL s V y W) h
def su0 (g:Sg)(b:Bd):List Bool:=List.replicate g.ps.length true++List.replicate (b.vars.length-g.ps.length) false
def C8:List Sg->List Bd->Option Int
 |s::ss,b::bs=>oG (js (su0 s b) b.code).2 (C8 ss bs)
 |_,_=>none
theorem HI {H:Hd}:∀{ss:List Sg}{fs:List Fc}{bs:List Bd},qk H ss fs=.ok bs->∀(k:Nat)(h1:k<ss.length)(h2:k<bs.length),ss[k].ps.length<=bs[k].vars.length/\sG bs[k].vars.length bs[k].code
 |[],_,bs,h,k,h1,_=>by simp at h1
 |s::ss,[],bs,h,k,_,h2=>by
  unfold qk at h;cases h;simp at h2
 |s::ss,f::fs,bs,h,k,h1,h2=>by
  unfold qk at h
  split at h
  ·cases h
  ·rename_i c W hb
   split at h
   ·cases h
   ·rename_i l hl
    cases h
    match k with
    |0=>exact UM hb
    |k+1=>
     have:=HI hl k (by simpa using h1) (by simpa using h2)
     simpa using this
end mV
