/-
  Lists of texts, types, as those who run see them.
-/
import Derived.Test.YtachcambnjecnaaA6

namespace V7
open Ax Go
def qU:AV->Bool
 |.je _ _=>false
 |_=>true
theorem zV{v:AV}(h:qU v=true)(hs:aJ v=true):v.view=v:=by cases v<;>simp_all [qU,aJ,AV.view]
@[simp]theorem Ic(v:AV):qU v.view=true:=by cases v<;>simp[qU,AV.view]
def kY(sz:Nat)(p:List AV->Bool)(v:AV):Bool:=qU v&&dc sz v&&(aZ v).all p
theorem oW{sz:Nat}{p:List AV->Bool}{v:AV}(h:kY sz p v=true):dc sz v=true:=by simp only[kY,Bool.and_eq_true]at h;exact h.1.2
theorem wO{sz:Nat}{p:List AV->Bool}{v:AV}(h:kY sz p v=true):∀r∈aZ v,p r=true:=by simp only[kY,Bool.and_eq_true,List.all_eq_true]at h;exact h.2
theorem va{sz:Nat}{p:List AV->Bool}{v:AV}(h:kY sz p v=true):v.view=v:=by
 have h2:=nD (oW h)
 simp only[kY,Bool.and_eq_true]at h
 exact zV h.1.1 h2
theorem xL{α:Type}{sz:Nat}{p:List AV->Bool}{d:List AV->α}{e:α->List AV}{v:AV}(h:kY sz p v=true)(he:∀r,p r=true->r=e (d r)):aZ v=((aZ v).map d).map e:=by
 rw[List.map_map]
 conv=>lhs;rw[<-List.map_id (aZ v)]
 exact List.map_congr_left λr hr=>he r (wO h r hr)
def Tj(n:Int):Bool:=decide (-9223372036854775808<=n)&&decide (n<=9223372036854775807)
structure T3 where
 b:Int
 r:Int
 d:Int
 deriving DecidableEq
abbrev T0:T3:=⟨0,0,0⟩
@[simp]def T3.cells(t:T3):List AV:=[.int .i64 t.b,.int .i64 t.r,.int .i64 t.d]
def adV(r:List AV):Bool:=match r with | [.int .i64 a,.int .i64 b,.int .i64 c]=>Tj a&&Tj b&&Tj c|_=>false
def dT(r:List AV):T3:=match r with | [.int .i64 a,.int .i64 b,.int .i64 c]=>⟨a,b,c⟩|_=>T0
def adW(v:AV):Bool:=kY 3 adV v
def dTs(v:AV):List T3:=(aZ v).map dT
@[simp]theorem adX(v:AV):dTs v.view=dTs v:=by simp[dTs]
@[simp]theorem Y4{v:AV}(h:adW v=true):dc 3 v=true:=oW h
@[simp]theorem aiX{v:AV}(h:adW v=true):aJ v=true:=nD (Y4 h)
def Q7(r:List AV):Bool:=match r with | [.str _]=>true|_=>false
def dSt(r:List AV):List UInt8:=match r with | [.str s]=>s|_=>[]
def sY(v:AV):Bool:=kY 1 Q7 v
def gp(v:AV):List (List UInt8):=(aZ v).map dSt
theorem Q8(r:List AV)(h:Q7 r=true):r=[.str (dSt r)]:=by
 unfold Q7 at h
 split at h
 ·rfl
 ·cases h
theorem Q9{v:AV}(h:sY v=true):aZ v=(gp v).map λs=>[.str s]:=xL h Q8
theorem Cv{v:AV}(h:sY v=true):v.view=v:=va h
@[simp]theorem Eo(v:AV):gp v.view=gp v:=by simp[gp]
@[simp]theorem Ve{v:AV}(h:sY v=true):dc 1 v=true:=oW h
@[simp]theorem AT{v:AV}(h:sY v=true):aJ v=true:=nD (Ve h)
def Ie{α:Type}(p:α->Bool)(l:List α)(k:Nat):Prop:=∀j (h:j<l.length),j<k->p l[j]=false
theorem yV{α:Type}{p:α->Bool}{l:List α}:Ie p l 0:=λ_ _ h=>absurd h (by omega)
theorem yW{α:Type}{p:α->Bool}{l:List α}{k:Nat}(h:Ie p l k)(h1:k<l.length)(hp:p l[k]=false):Ie p l (k+1):=by
 intro j j1 hj
 rcases Nat.lt_or_ge j k with B3|B3
 ·exact h j j1 B3
 ·have:j=k:=by omega
  subst this;exact hp
def tr(l:List (List UInt8))(s:List UInt8):Int:=match l.findIdx? λx=>decide (x=s) with
 |some k=>k
 |none=>-1
theorem L1{l:List (List UInt8)}{s:List UInt8}{k:Nat}(h:Ie (λx=>decide (x=s)) l k)(hk:k<l.length)(e:l[k]=s):tr l s=k:=by
 have:l.findIdx? (λx=>decide (x=s))=some k:=by
  rw[List.findIdx?_eq_some_iff_getElem]
  refine⟨hk,by simpa using e,λj hj=>?_⟩
  have:=h j (by omega) hj
  simpa using this
 unfold tr
 rw[this]
theorem Ep{l:List (List UInt8)}{s:List UInt8}(h:Ie (λx=>decide (x=s)) l l.length):tr l s = -1:=by
 have:l.findIdx? (λx=>decide (x=s))=none:=by
  rw[List.findIdx?_eq_none_iff]
  intro x hx
  obtain⟨j,hj,rfl⟩:=List.mem_iff_getElem.1 hx
  exact h j hj hj
 unfold tr
 rw[this]
theorem Vf(l:List (List UInt8))(s:List UInt8):tr l s = -1\/∃k:Nat,tr l s=k/\k<l.length:=by
 unfold tr
 cases e:l.findIdx? λx=>decide (x=s) with
 |none=>exact .inl rfl
 |some k=>exact .inr ⟨k,rfl,(List.findIdx?_eq_some_iff_getElem.1 e).1⟩
def dh(l:List (List UInt8))(s:List UInt8)(d:Int):T3×Bool:=
 if d<0\/3<d then (T0,false) else
 if s=[105,110,116] then (⟨1,0,d⟩,true) else
 if s=[98,111,111,108] then (⟨2,0,d⟩,true) else
 if tr l s<0 then (T0,false) else (⟨3,tr l s,d⟩,true)
def xM(t:T3):Bool:=decide (t.b=3)||decide (0<t.d)
structure PD where
 name:List UInt8
 on:List UInt8
 od:Int
 at_:Int
def PD.cells(p:PD):List AV:=[.str p.name,.str p.on,.int .i64 p.od,.int .i64 p.at_]
def L2(r:List AV):Bool:=match r with | [.str _,.str _,.int .i64 d,.int .i64 a]=>Tj d&&Tj a|_=>false
def dP(r:List AV):PD:=match r with | [.str n,.str o,.int .i64 d,.int .i64 a]=>⟨n,o,d,a⟩|_=>⟨[],[],0,0⟩
theorem Ra(r:List AV)(h:L2 r=true):r=(dP r).cells:=by
 unfold L2 at h
 split at h
 ·rfl
 ·cases h
def Aw(v:AV):Bool:=kY 4 L2 v
def oq(v:AV):List PD:=(aZ v).map dP
theorem Vg{v:AV}(h:Aw v=true):aZ v=(oq v).map PD.cells:=xL h Ra
theorem xN{v:AV}(h:Aw v=true):v.view=v:=va h
@[simp]theorem adY(v:AV):oq v.view=oq v:=by simp[oq]
@[simp]theorem Y5{v:AV}(h:Aw v=true):dc 4 v=true:=oW h
@[simp]theorem Cw{v:AV}(h:Aw v=true):aJ v=true:=nD (Y5 h)
structure CR where
 name:List UInt8
 cq:AV
 at_:Int
def CR.cells(r:CR):List AV:=[.str r.name,r.cq,.int .i64 r.at_]
def Er(r:List AV):Bool:=match r with | [.str _,f,.int .i64 a]=>Aw f&&Tj a|_=>false
def dCR(r:List AV):CR:=match r with | [.str s,f,.int .i64 a]=>⟨s,f,a⟩|_=>⟨[],.U,0⟩
theorem Rb(r:List AV)(h:Er r=true):r=(dCR r).cells:=by
 unfold Er at h
 split at h
 ·rfl
 ·cases h
def zW(v:AV):Bool:=kY 3 Er v
def dA(v:AV):List CR:=(aZ v).map dCR
theorem Rd{v:AV}(h:zW v=true):aZ v=(dA v).map CR.cells:=xL h Rb
theorem Es{v:AV}(h:zW v=true):∀r∈dA v,Aw r.cq=true:=by
 intro r hr
 obtain⟨x,hx,rfl⟩:=List.mem_map.1 hr
 have:=wO h x hx
 unfold Er at this
 unfold dCR
 split at this
 ·simp only[Bool.and_eq_true]at this;exact this.1
 ·cases this
theorem Ig{v:AV}(h:zW v=true):v.view=v:=va h
@[simp]theorem abA(v:AV):dA v.view=dA v:=by simp[dA]
@[simp]theorem Vh{v:AV}(h:zW v=true):dc 3 v=true:=oW h
@[simp]theorem L3{v:AV}(h:zW v=true):aJ v=true:=nD (Vh h)
structure FN where
 name:List UInt8
 params:AV
 bO:Bool
 on:List UInt8
 od:Int
 body:AV
 at_:Int
def FN.cells(f:FN):List AV:=[.str f.name,f.params,.bool f.bO,.str f.on,.int .i64 f.od,f.body,.int .i64 f.at_]
def Et(r:List AV):Bool:=match r with | [.str _,p,.bool _,.str _,.int .i64 d,b,.int .i64 a]=>Aw p&&qU b&&aJ b&&Tj d&&Tj a|_=>false
def dFN(r:List AV):FN:=match r with | [.str n,p,.bool h,.str o,.int .i64 d,b,.int .i64 a]=>⟨n,p,h,o,d,b,a⟩|_=>⟨[],.U,false,[],0,.U,0⟩
theorem Re(r:List AV)(h:Et r=true):r=(dFN r).cells:=by
 unfold Et at h
 split at h
 ·rfl
 ·cases h
def zX(v:AV):Bool:=kY 7 Et v
def jE(v:AV):List FN:=(aZ v).map dFN
theorem Rf{v:AV}(h:zX v=true):aZ v=(jE v).map FN.cells:=xL h Re
theorem Nx{v:AV}(h:zX v=true):∀r∈jE v,Aw r.params=true/\qU r.body=true/\aJ r.body=true:=by
 intro r hr
 obtain⟨x,hx,rfl⟩:=List.mem_map.1 hr
 have:=wO h x hx
 unfold Et at this
 unfold dFN
 split at this
 ·simp only[Bool.and_eq_true]at this;exact⟨this.1.1.1.1,this.1.1.1.2,this.1.1.2⟩
 ·cases this
theorem Ih{v:AV}(h:zX v=true):v.view=v:=va h
@[simp]theorem abB(v:AV):jE v.view=jE v:=by simp[jE]
@[simp]theorem Vi{v:AV}(h:zX v=true):dc 7 v=true:=oW h
@[simp]theorem L4{v:AV}(h:zX v=true):aJ v=true:=nD (Vi h)
structure GD where
 bG:AV
 globals:AV
 funcs:AV
def GD.cells(p:GD):List AV:=[p.bG,p.globals,p.funcs]
structure GD.ok (p:GD):Prop where
 bG:zW p.bG=true
 globals:Aw p.globals=true
 funcs:zX p.funcs=true
def kA(l:List CR):List (List UInt8):=l.map (·.name)
def FE(rs:List (List UInt8))(p:PD):List AV:=.str p.name::(dh rs p.on p.od).1.cells
def gZ(rs:List (List UInt8))(l:List PD):List (List AV):=l.map (FE rs)
def wk(a b:Option Int):Option Int:=match a with|some x=>some x|none=>b
def xO(rs:List (List UInt8))(before:List PD)(p:PD):Option Int:=if before.any (λq=>decide (q.name=p.name)) || !(dh rs p.on p.od).2 then some p.at_ else none
def gw{α:Type}(zY:List α->α->Option Int)(l:List α):Nat->Option Int
 |0=>none
 |k+1=>wk (gw zY l k) (match l[k]? with|some x=>zY (l.take k) x|none=>none)
end V7
namespace kL
open Ax Go V7
structure Tk where
 k:Int
 t:List UInt8
 n:Int
 a:Int
def Tk.cells(x:Tk):List AV:=[.int .i64 x.k,.str x.t,.int .i64 x.n,.int .i64 x.a]
abbrev Rg:Tk:=⟨0,[],0,0⟩
structure TL (l:AV)(T:List Tk):Prop where
 sz:dc 4 l=true
 rows:aZ l=T.map Tk.cells
 len:T.length<1000000000
theorem TL.sl{l:AV}{T:List Tk}(h:TL l T):aJ l=true:=nD h.sz
structure RQ where
 at_:Nat
 op:Int
 fe:Int
 fa:Int
def RQ.bC(l:AV)(q:RQ):fL:=.rows 0 5 [[l,.int .i64 q.at_,.int .i64 q.op,.int .i64 q.fe,.int .i64 q.fa]]
def ey(T:List Tk)(q:RQ):Tk:=T.getD q.at_ Rg
def iN(T:List Tk)(q:RQ)(e:Int):RQ:=if q.fe=0 then ⟨q.at_,q.op,e,(ey T q).a⟩ else q
def kZ(s:List UInt8):Int:=match s with|c::_=>if 97<=c.toNat/\c.toNat<=122 then 3 else 4 | []=>4
def fP(T:List Tk)(q:RQ)(s:List UInt8):Bool:=decide (q.fe=0)&&decide ((ey T q).k=kZ s)&&decide ((ey T q).t=s)
def ay(q:RQ):RQ:=⟨q.at_+1,q.op,q.fe,q.fa⟩
def cR(T:List Tk)(q:RQ)(s:List UInt8):RQ:=if fP T q s then ay q else iN T q 2
def pS(q:RQ)(d:Int):RQ:=⟨q.at_,IntKind.i64.wrap (q.op+d),q.fe,q.fa⟩
def gj(T:List Tk)(q:RQ)(s:List UInt8):RQ:=if fP T q s&&decide (50<=q.op) then iN T q 4 else pS (cR T q s) 1
def jO(T:List Tk)(q:RQ)(s:List UInt8):RQ:=pS (cR T q s) (-1)
def di(T:List Tk)(q:RQ):List UInt8×RQ:=if q.fe=0/\(ey T q).k=1 then ((ey T q).t,ay q) else ([],iN T q 2)
def pU(T:List Tk)(q:RQ)(s:List UInt8):Nat->RQ
 |0=>q
 |k+1=>cR T (pU T q s k) s
def Eu(T:List Tk):Nat->Nat->RQ->Nat×RQ
 |0,d,q=>(d,q)
 |k+1,d,q=>if fP T q [91] then Eu T k (d+1) (ay q) else (d,q)
def Y6(T:List Tk)(q:RQ):List UInt8×RQ:=if fP T q [105,110,116]||fP T q [98,111,111,108] then ((ey T q).t,ay q) else di T q
def vg(T:List Tk)(q:RQ):(List UInt8×Int)×RQ:=
 if fP T (Eu T 3 0 q).2 [91] then (([],0),iN T (Eu T 3 0 q).2 4)
 else (((Y6 T (Eu T 3 0 q).2).1,((Eu T 3 0 q).1:Int)),pU T (Y6 T (Eu T 3 0 q).2).2 [93] (Eu T 3 0 q).1)
def aB(sz:Nat)(rows:List (List AV)):AV:=(cD sz rows).view
inductive E where
 |mk (k n:Int) (nm on:List UInt8) (od:Int) (az:List E) (a:Int) (ty:T3) (cN:Int)
def E.k:E->Int|.mk k _ _ _ _ _ _ _ _=>k
def E.n:E->Int|.mk _ n _ _ _ _ _ _ _=>n
def E.nm:E->List UInt8|.mk _ _ nm _ _ _ _ _ _=>nm
def E.on:E->List UInt8|.mk _ _ _ on _ _ _ _ _=>on
def E.od:E->Int|.mk _ _ _ _ od _ _ _ _=>od
def E.az:E->List E|.mk _ _ _ _ _ az _ _ _=>az
def E.a:E->Int|.mk _ _ _ _ _ _ a _ _=>a
def E.ty:E->T3|.mk _ _ _ _ _ _ _ ty _=>ty
def E.cN:E->Int|.mk _ _ _ _ _ _ _ _ cN=>cN
mutual
def E.row:E->List AV
 |.mk k n nm on od az a ty cN=>[.int .i64 k,.int .i64 n,.str nm,.str on,.int .i64 od,aB 11 (E.rows az),.int .i64 a,.int .i64 ty.b,.int .i64 ty.r,.int .i64 ty.d,.int .i64 cN]
def E.rows:List E->List (List AV)
 |[]=>[]
 |e::l=>e.row::E.rows l
end
def Em(k n:Int)(nm on:List UInt8)(od:Int)(az:List E)(a:Int):E:=.mk k n nm on od az a T0 0
def aW(l:List E):AV:=aB 11 (E.rows l)
inductive Sm where
 |mk (k:Int) (nm on:List UInt8) (od:Int) (es:List E) (bd el:List Sm) (a cN:Int)
def Sm.k:Sm->Int|.mk k _ _ _ _ _ _ _ _=>k
def Sm.nm:Sm->List UInt8|.mk _ nm _ _ _ _ _ _ _=>nm
def Sm.on:Sm->List UInt8|.mk _ _ on _ _ _ _ _ _=>on
def Sm.od:Sm->Int|.mk _ _ _ od _ _ _ _ _=>od
def Sm.es:Sm->List E|.mk _ _ _ _ es _ _ _ _=>es
def Sm.bd:Sm->List Sm|.mk _ _ _ _ _ bd _ _ _=>bd
def Sm.el:Sm->List Sm|.mk _ _ _ _ _ _ el _ _=>el
def Sm.a:Sm->Int|.mk _ _ _ _ _ _ _ a _=>a
def Sm.cN:Sm->Int|.mk _ _ _ _ _ _ _ _ cN=>cN
mutual
def Sm.row:Sm->List AV
 |.mk k nm on od es bd el a cN=>[.int .i64 k,.str nm,.str on,.int .i64 od,aW es,aB 9 (Sm.rows bd),aB 9 (Sm.rows el),.int .i64 a,.int .i64 cN]
def Sm.rows:List Sm->List (List AV)
 |[]=>[]
 |s::l=>s.row::Sm.rows l
end
def bD(l:List Sm):AV:=aB 9 (Sm.rows l)
structure Rc where
 name:List UInt8
 cq:List PD
 a:Int
def Rc.row(r:Rc):List AV:=[.str r.name,aB 4 (r.cq.map PD.cells),.int .i64 r.a]
structure Fc where
 name:List UInt8
 params:List PD
 bO:Bool
 on:List UInt8
 od:Int
 body:List Sm
 a:Int
def Fc.row(f:Fc):List AV:=[.str f.name,aB 4 (f.params.map PD.cells),.bool f.bO,.str f.on,.int .i64 f.od,bD f.body,.int .i64 f.a]
structure Pg where
 bG:List Rc
 globals:List PD
 funcs:List Fc
def Pg.row(p:Pg):List AV:=[aB 3 (p.bG.map Rc.row),aB 4 (p.globals.map PD.cells),aB 7 (p.funcs.map Fc.row)]
@[simp]theorem bp{sz:Nat}{r:List (List AV)}:aJ (aB sz r)=true:=by simp[aB]
@[simp]theorem aT{sz:Nat}{r:List (List AV)}:aZ (aB sz r)=r:=by simp[aB]
@[simp]theorem bq{sz:Nat}{r:List (List AV)}:(aB sz r).view=aB sz r:=by
 unfold aB cD;split<;>simp[AV.view]
@[simp]theorem oX{sz:Nat}{r:List (List AV)}:(aB sz r).cH=true:=bE bp
@[simp]theorem oY{sz:Nat}{r:List (List AV)}:(aB sz r).an=true:=cC bp
@[simp]theorem bu{l:List E}:aJ (aW l)=true:=bp
@[simp]theorem bF{l:List E}:(aW l).view=aW l:=bq
@[simp]theorem adZ{l:List E}:(aW l).cH=true:=oX
@[simp]theorem ad0{l:List E}:(aW l).an=true:=oY
@[simp]theorem bL{l:List Sm}:aJ (bD l)=true:=bp
@[simp]theorem bR{l:List Sm}:(bD l).view=bD l:=bq
@[simp]theorem ad1{l:List Sm}:(bD l).cH=true:=oX
@[simp]theorem ad2{l:List Sm}:(bD l).an=true:=oY
@[simp]theorem ad3{sz:Nat}:aB sz []=.U:=rfl
@[simp]theorem abC{sz:Nat}{r:List AV}{l:List (List AV)}:aB sz (r::l)=.dj sz (r::l):=rfl
theorem iu:∀l:List E,E.rows l=l.map E.row
 |[]=>by simp[E.rows]
 |e::l=>by simp[E.rows,iu l]
theorem gH:∀l:List Sm,Sm.rows l=l.map Sm.row
 |[]=>by simp[Sm.rows]
 |e::l=>by simp[Sm.rows,gH l]
theorem oN:aW []=.U:=by simp[aW,E.rows,aB,nE,AV.view]
theorem E.aG(e:E):e.row=[.int .i64 e.k,.int .i64 e.n,.str e.nm,.str e.on,.int .i64 e.od,aW e.az,.int .i64 e.a,.int .i64 e.ty.b,.int .i64 e.ty.r,.int .i64 e.ty.d,.int .i64 e.cN]:=by
 cases e;simp[E.row,E.k,E.n,E.nm,E.on,E.od,E.az,E.a,E.ty,E.cN,aW]
theorem Sm.aG(s:Sm):s.row=[.int .i64 s.k,.str s.nm,.str s.on,.int .i64 s.od,aW s.es,bD s.bd,bD s.el,.int .i64 s.a,.int .i64 s.cN]:=by
 cases s;simp[Sm.row,Sm.k,Sm.nm,Sm.on,Sm.od,Sm.es,Sm.bd,Sm.el,Sm.a,Sm.cN,bD]
def dD:Nat->List (List UInt8×Int)
 |0=>[([124,124],24)]
 |1=>[([38,38],23)]
 |2=>[([60],19),([60,61],20),([61,61],21),([33,61],22)]
 |3=>[([43],14),([45],15)]
 |_=>[([42],16),([47],17),([37],18)]
def fI:List (List UInt8×Int)->List UInt8->Int
 |[],_=>0
 |(s,k)::r,t=>if s=t then k else fI r t
def ot(n:Nat)(c:Tk):Int:=if c.k=4 then fI (dD n) c.t else 0
mutual
def fA(T:List Tk):Nat->Nat->RQ->Option (E×RQ)
 |0,_,_=>none
 |f+1,n,q=>if n=5 then jW T f q else (fA T f (n+1) q).bind λx=>jg T f n x.1 x.2
def jg(T:List Tk):Nat->Nat->E->RQ->Option (E×RQ)
 |0,_,_,_=>none
 |f+1,n,a,q=>if q.fe=0/\ot n (ey T q)≠0 then
   (fA T f (n+1) (ay q)).bind λx=>jg T f n (Em (ot n (ey T q)) 0 [] [] 0 [a,x.1] (ey T q).a) x.2
  else some (a,q)
def jW(T:List Tk):Nat->RQ->Option (E×RQ)
 |0,_=>none
 |f+1,q=>if fP T q [45]||fP T q [33] then
   (fA T f 5 (gj T q (ey T q).t)).bind λx=>some (Em (if fP T q [45] then 12 else 13) 0 [] [] 0 [x.1] (ey T q).a,pS x.2 (-1))
  else (jX T f q).bind λx=>eZ T f x.1 x.2
def eZ(T:List Tk):Nat->E->RQ->Option (E×RQ)
 |0,_,_=>none
 |f+1,a,q=>if fP T q [46] then eZ T f (Em 5 0 (di T (ay q)).1 [] 0 [a] (ey T q).a) (di T (ay q)).2
  else if fP T q [91] then (fA T f 0 (gj T q [91])).bind λx=>eZ T f (Em 6 0 [] [] 0 [a,x.1] (ey T q).a) (jO T x.2 [93])
  else some (a,q)
def kB(T:List Tk):Nat->RQ->Option (E×RQ)
 |0,_=>none
 |f+1,q=>(fA T f 0 (gj T q [40])).bind λx=>some (x.1,jO T x.2 [41])
def jX(T:List Tk):Nat->RQ->Option (E×RQ)
 |0,_=>none
 |f+1,q=>
  if q.fe=0/\(ey T q).k=2 then some (Em 1 (ey T q).n [] [] 0 [] (ey T q).a,ay q)
  else if fP T q [116,114,117,101]||fP T q [102,97,108,115,101] then some (Em 2 (if (ey T q).t=[116,114,117,101] then 1 else 0) [] [] 0 [] (ey T q).a,ay q)
  else if fP T q [110,117,108,108] then some (Em 3 0 [] (vg T (ay q)).1.1 (vg T (ay q)).1.2 [] (ey T q).a,(vg T (ay q)).2)
  else if fP T q [110,101,119] then k6 T f (ey T q).a (ay q)
  else if fP T q [108,101,110] then (kB T f (ay q)).bind λx=>some (Em 10 0 [] [] 0 [x.1] (ey T q).a,x.2)
  else if fP T q [114,101,97,100] then some (Em 11 0 [] [] 0 [] (ey T q).a,jO T (gj T (ay q) [40]) [41])
  else if fP T q [40] then kB T f q
  else if fP T (di T q).2 [40] then (oA T f (di T q).2).bind λx=>some (Em 7 0 (di T q).1 [] 0 x.1 (ey T q).a,x.2)
  else some (Em 4 0 (di T q).1 [] 0 [] (ey T q).a,(di T q).2)
def k6(T:List Tk):Nat->Int->RQ->Option (E×RQ)
 |0,_,_=>none
 |f+1,a,q=>if fP T q [91] then
   (kB T f (cR T (vg T (ay q)).2 [93])).bind λx=>some (Em 9 0 [] (vg T (ay q)).1.1 (vg T (ay q)).1.2 [x.1] a,x.2)
  else some (Em 8 0 [] (di T q).1 0 [] a,(di T q).2)
def oA(T:List Tk):Nat->RQ->Option (List E×RQ)
 |0,_=>none
 |f+1,q=>if fP T (gj T q [40]) [41] then some ([],jO T (gj T q [40]) [41])
  else (fA T f 0 (gj T q [40])).bind λx=>nU T f [x.1] x.2
def nU(T:List Tk):Nat->List E->RQ->Option (List E×RQ)
 |0,_,_=>none
 |f+1,l,q=>if fP T q [44] then (fA T f 0 (ay q)).bind λx=>nU T f (l++[x.1]) x.2
  else some (l,jO T q [41])
end
def nh(T:List Tk)(f:Nat)(a:Int)(q:RQ):Option (Sm×RQ):=
 (fA T f 0 q).bind λx=>if fP T x.2 [61] then
   (fA T f 0 (cR T (if x.1.k=4\/x.1.k=5\/x.1.k=6 then x.2 else iN T x.2 2) [61])).bind λy=>
    some (if x.1.k=4 then .mk 3 x.1.nm [] 0 [y.1] [] [] a 0 else .mk 4 [] [] 0 [x.1,y.1] [] [] a 0,cR T y.2 [59])
  else some (.mk 9 [] [] 0 [x.1] [] [] a 0,cR T (if fP T x.2 [59]=true/\x.1.k≠7 then iN T x.2 2 else x.2) [59])
def cY(T:List Tk)(q:RQ):PD×RQ:=
 (⟨(di T q).1,(vg T (cR T (di T q).2 [58])).1.1,(vg T (cR T (di T q).2 [58])).1.2,(ey T q).a⟩,(vg T (cR T (di T q).2 [58])).2)
mutual
def pV(T:List Tk):Nat->RQ->Option (Sm×RQ)
 |0,_=>none
 |f+1,q=>
  if fP T q [118,97,114] then
   some (.mk 1 (cY T (ay q)).1.name (cY T (ay q)).1.on (cY T (ay q)).1.od [] [] [] (ey T q).a 0,cR T (cY T (ay q)).2 [59])
  else if fP T q [108,101,116] then (fA T f 0 (cR T (cY T (ay q)).2 [61])).bind λx=>
   some (.mk 2 (cY T (ay q)).1.name (cY T (ay q)).1.on (cY T (ay q)).1.od [x.1] [] [] (ey T q).a 0,cR T x.2 [59])
  else if fP T q [105,102] then (fA T f 0 (ay q)).bind λx=>(iD T f x.2).bind λy=>
   if fP T y.2 [101,108,115,101] then (iD T f (ay y.2)).bind λz=>some (.mk 5 [] [] 0 [x.1] y.1 z.1 (ey T q).a 0,z.2)
   else some (.mk 5 [] [] 0 [x.1] y.1 [] (ey T q).a 0,y.2)
  else if fP T q [119,104,105,108,101] then (fA T f 0 (ay q)).bind λx=>(iD T f x.2).bind λy=>
   some (.mk 6 [] [] 0 [x.1] y.1 [] (ey T q).a 0,y.2)
  else if fP T q [114,101,116,117,114,110] then
   if fP T (ay q) [59] then some (.mk 7 [] [] 0 [] [] [] (ey T q).a 0,cR T (ay q) [59])
   else (fA T f 0 (ay q)).bind λx=>some (.mk 7 [] [] 0 [x.1] [] [] (ey T q).a 0,cR T x.2 [59])
  else if fP T q [112,114,105,110,116] then (fA T f 0 (ay q)).bind λx=>some (.mk 8 [] [] 0 [x.1] [] [] (ey T q).a 0,cR T x.2 [59])
  else nh T f (ey T q).a q
def iD(T:List Tk):Nat->RQ->Option (List Sm×RQ)
 |0,_=>none
 |f+1,q=>kC T f [] (gj T q [123])
def kC(T:List Tk):Nat->List Sm->RQ->Option (List Sm×RQ)
 |0,_,_=>none
 |f+1,l,q=>if q.fe=0/\fP T q [125]=false then (pV T f q).bind λx=>kC T f (l++[x.1]) x.2
  else some (l,jO T q [125])
end
def iX(T:List Tk):Nat->List PD->RQ->Option (List PD×RQ)
 |0,_,_=>none
 |f+1,l,q=>if q.fe=0/\fP T q [125]=false then
   if (ey T q).k=1/\l.length=8 then some (l,iN T q 4)
   else iX T f (l++[(cY T q).1]) (cR T (cY T q).2 [59])
  else some (l,q)
def mA(T:List Tk)(f:Nat)(q:RQ):Option (Rc×RQ):=
 (iX T f [] (cR T (di T q).2 [123])).bind λx=>some (⟨(di T q).1,x.1,(ey T q).a⟩,cR T x.2 [125])
def sG(T:List Tk)(q:RQ):RQ:=if fP T q [41] then q else if fP T (cR T q [44]) [41] then iN T (cR T q [44]) 2 else cR T q [44]
def iI(T:List Tk):Nat->List PD->RQ->Option (List PD×RQ)
 |0,_,_=>none
 |f+1,l,q=>if q.fe=0/\fP T q [41]=false then
   if (ey T q).k=1/\l.length=6 then some (l,iN T q 4)
   else iI T f (l++[(cY T q).1]) (sG T (cY T q).2)
  else some (l,q)
def pW(T:List Tk)(f:Nat)(q:RQ):Option (Fc×RQ):=
 (iI T f [] (cR T (di T q).2 [40])).bind λx=>
  if fP T (cR T x.2 [41]) [58] then
   (iD T f (vg T (ay (cR T x.2 [41]))).2).bind λy=>some (⟨(di T q).1,x.1,true,(vg T (ay (cR T x.2 [41]))).1.1,(vg T (ay (cR T x.2 [41]))).1.2,y.1,(ey T q).a⟩,y.2)
  else (iD T f (cR T x.2 [41])).bind λy=>some (⟨(di T q).1,x.1,false,[],0,y.1,(ey T q).a⟩,y.2)
def Vj:List UInt8:=[114,101,99,111,114,100]
def L5:List UInt8:=[103,108,111,98,97,108]
def L6:List UInt8:=[102,117,110,99]
def jv(T:List Tk):Nat->Pg->RQ->Option (Pg×RQ)
 |0,_,_=>none
 |f+1,p,q=>if q.fe=0/\(ey T q).k≠0 then
   if fP T q Vj=true/\p.bG.length=12\/fP T q L5=true/\p.globals.length=8\/fP T q L6=true/\p.funcs.length=16 then jv T f p (iN T q 4)
   else if fP T q Vj then (mA T f (ay q)).bind λx=>jv T f ⟨p.bG++[x.1],p.globals,p.funcs⟩ x.2
   else if fP T q L5 then jv T f ⟨p.bG,p.globals++[(cY T (ay q)).1],p.funcs⟩ (cR T (cY T (ay q)).2 [59])
   else if fP T q L6 then (pW T f (ay q)).bind λx=>jv T f ⟨p.bG,p.globals,p.funcs++[x.1]⟩ x.2
   else jv T f p (iN T q 2)
  else some (p,q)
def AU:Pg:=⟨[],[],[]⟩
def pX(T:List Tk)(f:Nat):Option (Pg×Int×Int):=
 (jv T f AU ⟨0,0,0,0⟩).bind λx=>some (if x.2.fe=0 then (x.1,0,0) else (AU,x.2.fe,x.2.fa))
end kL
namespace kL
open Ax Go V7
structure eL (T:List Tk)(q r:RQ):Prop where
 le:q.at_<=r.at_
 ub:q.at_<=T.length->r.at_<=T.length
 zY:q.fe≠0->r.fe=q.fe/\r.at_=q.at_
theorem eL.refl(T:List Tk)(q:RQ):eL T q q:=⟨Nat.le_refl _,id,λ_=>⟨rfl,rfl⟩⟩
theorem eL.trans{T:List Tk}{q r s:RQ}(h:eL T q r)(k:eL T r s):eL T q s:=
 ⟨Nat.le_trans h.le k.le,λu=>k.ub (h.ub u),λb=>by
  obtain⟨a1,a2⟩:=h.zY b
  obtain⟨b1,b2⟩:=k.zY (by rw[a1];exact b)
  exact⟨b1.trans a1,b2.trans a2⟩⟩
theorem eL.mS{T:List Tk}{q r:RQ}(h:eL T q r)(f:r.fe=0):q.fe=0:=by
 apply Classical.byContradiction
 intro hn
 have:=(h.zY hn).1
 rw[f]at this
 exact hn this.symm
theorem sH{T:List Tk}{q:RQ}(h:(ey T q).k≠0):q.at_<T.length:=by
 apply Classical.byContradiction
 intro hn
 rw[ey,List.getD,List.getElem?_eq_none (by omega)]at h
 exact h rfl
theorem Ev(s:List UInt8):kZ s≠0:=by
 unfold kZ
 split
 ·split<;>decide
 ·decide
theorem bf{T:List Tk}{q:RQ}{s:List UInt8}(h:fP T q s=true):q.fe=0/\q.at_<T.length:=by
 simp only[fP,Bool.and_eq_true,decide_eq_true_eq]at h
 exact⟨h.1.1,sH (by rw[h.1.2];exact Ev s)⟩
theorem Ew{T:List Tk}{q:RQ}{s:List UInt8}(h:fP T q s=true):(ey T q).t=s:=by
 simp only[fP,Bool.and_eq_true,decide_eq_true_eq]at h
 exact h.2
theorem Vk{T:List Tk}{q:RQ}{s:List UInt8}(h:q.fe≠0):fP T q s=false:=by simp[fP,h]
theorem xP{T:List Tk}{q:RQ}{n:Nat}(h:ot n (ey T q)≠0):q.at_<T.length:=sH (by
 unfold ot at h
 split at h
 ·rename_i e;rw[e];decide
 ·exact absurd rfl h)
theorem cp{T:List Tk}{q:RQ}(h:q.fe=0)(h2:q.at_<T.length):eL T q (ay q):=⟨Nat.le_succ _,λ_=>h2,λb=>absurd h b⟩
theorem eW{T:List Tk}{q:RQ}{e:Int}:eL T q (iN T q e):=by
 unfold iN
 split
 ·rename_i h;exact⟨Nat.le_refl _,id,λb=>absurd h b⟩
 ·exact eL.refl T q
theorem vh{T:List Tk}{q:RQ}{d:Int}:eL T q (pS q d):=⟨Nat.le_refl _,id,λ_=>⟨rfl,rfl⟩⟩
theorem aN{T:List Tk}{q:RQ}{s:List UInt8}:eL T q (cR T q s):=by
 unfold cR
 split
 ·rename_i h;exact cp (bf h).1 (bf h).2
 ·exact eW
theorem eR{T:List Tk}{q:RQ}{s:List UInt8}:eL T q (gj T q s):=by
 unfold gj
 split
 ·exact eW
 ·exact aN.trans vh
theorem cP{T:List Tk}{q:RQ}{s:List UInt8}:eL T q (jO T q s):=aN.trans vh
theorem gD{T:List Tk}{q:RQ}:eL T q (di T q).2:=by
 unfold di
 split
 ·rename_i h;exact cp h.1 (sH (by rw[h.2];decide))
 ·exact eW
theorem Cx{T:List Tk}{q:RQ}{s:List UInt8}:∀k,eL T q (pU T q s k)
 |0=>eL.refl T q
 |k+1=>(Cx k).trans aN
theorem Cy{T:List Tk}:∀(k d:Nat)(q:RQ),eL T q (Eu T k d q).2/\(Eu T k d q).1<=d+k/\d<=(Eu T k d q).1
 |0,d,q=>⟨eL.refl T q,Nat.le_refl _,Nat.le_refl _⟩
 |k+1,d,q=>by
  unfold Eu
  split
  ·rename_i h
   obtain⟨h1,h2,h3⟩:=Cy (T:=T) k (d+1) (ay q)
   exact⟨(cp (bf h).1 (bf h).2).trans h1,by omega,by omega⟩
  ·exact⟨eL.refl T q,by simp,Nat.le_refl _⟩
theorem Rh{T:List Tk}{q:RQ}:eL T q (Y6 T q).2:=by
 unfold Y6
 split
 ·rename_i h
  rw[Bool.or_eq_true]at h
  rcases h with h|h<;>exact cp (bf h).1 (bf h).2
 ·exact gD
theorem mB{T:List Tk}{q:RQ}:eL T q (vg T q).2:=by
 unfold vg
 have h:=(Cy (T:=T) 3 0 q).1
 split
 ·exact h.trans eW
 ·exact(h.trans Rh).trans (Cx _)
theorem Ko{T:List Tk}{q:RQ}:0<=(vg T q).1.2/\(vg T q).1.2<=3:=by
 have h:=(Cy (T:=T) 3 0 q).2.1
 unfold vg
 split
 ·exact⟨Int.le_refl _,by show (0:Int)<=3;decide⟩
 ·refine⟨Int.natCast_nonneg _,?_⟩
  simp only
  omega
theorem iE{T:List Tk}{q:RQ}:eL T q (cY T q).2:=(gD.trans aN).trans mB
def mu(T:List Tk)(q:RQ):Nat:=if q.fe=0 then T.length-q.at_+1 else 0
theorem kD{T:List Tk}{q r:RQ}(h:eL T q r):mu T r<=mu T q:=by
 unfold mu
 by_cases f:q.fe=0
 ·rw[if_pos f]
  split
  ·have:=h.le;omega
  ·omega
 ·obtain⟨a1,_⟩:=h.zY f
  rw[a1,if_neg f,if_neg f]
  exact Nat.le_refl _
def sI(T:List Tk)(q r:RQ):Prop:=r.fe≠0\/q.at_<T.length/\q.at_<r.at_
theorem Cz{T:List Tk}{q r:RQ}(f:q.fe=0)(w:sI T q r):mu T r<mu T q:=by
 unfold mu
 rw[if_pos f]
 rcases w with w|⟨w,v⟩
 ·rw[if_neg w];omega
 ·split<;>omega
theorem mC{T:List Tk}{q r:RQ}(h:eL T q r)(w:sI T q r):mu T r<=mu T q-1:=by
 by_cases f:q.fe=0
 ·have:=Cz f w;omega
 ·have h0:mu T q=0:=by unfold mu;rw[if_neg f]
  have:=kD h
  omega
theorem pY{T:List Tk}{q:RQ}(f:q.fe=0):0<mu T q:=by unfold mu;rw[if_pos f];omega
theorem jw{T:List Tk}{q:RQ}{e:Int}(he:e≠0):(iN T q e).fe≠0:=by
 unfold iN
 split
 ·exact he
 ·assumption
theorem kM{T:List Tk}{q:RQ}(h:q.at_<T.length):sI T q (ay q):=.inr ⟨h,Nat.lt_succ_self _⟩
theorem jx{T:List Tk}{q:RQ}{s:List UInt8}:sI T q (cR T q s):=by
 unfold cR
 split
 ·rename_i h;exact kM (bf h).2
 ·exact .inl (jw (by decide))
theorem jP{T:List Tk}{q:RQ}{s:List UInt8}:sI T q (gj T q s):=by
 unfold gj
 split
 ·exact .inl (jw (by decide))
 ·exact jx
theorem ni{T:List Tk}{q:RQ}:sI T q (di T q).2:=by
 unfold di
 split
 ·rename_i h;exact kM (sH (by rw[h.2];decide))
 ·exact .inl (jw (by decide))
theorem sI.trans{T:List Tk}{q r s:RQ}(w:sI T q r)(h:eL T r s):sI T q s:=by
 rcases w with w|⟨w,v⟩
 ·exact .inl (by rw[(h.zY w).1];exact w)
 ·exact .inr ⟨w,Nat.lt_of_lt_of_le v h.le⟩
theorem eL.FF{T:List Tk}{q r s:RQ}(h:eL T q r)(w:sI T r s):sI T q s:=by
 rcases w with w|⟨w,v⟩
 ·exact .inl w
 ·exact .inr ⟨Nat.lt_of_le_of_lt h.le w,Nat.lt_of_le_of_lt h.le v⟩
theorem sJ{T:List Tk}{q:RQ}:sI T q (cY T q).2:=(ni.trans aN).trans mB
theorem kE(T:List Tk):∀f:Nat,(∀n q e r,fA T f n q=some (e,r)->eL T q r)/\(∀n a q e r,jg T f n a q=some (e,r)->eL T q r)/\
  (∀q e r,jW T f q=some (e,r)->eL T q r)/\(∀a q e r,eZ T f a q=some (e,r)->eL T q r)/\(∀q e r,kB T f q=some (e,r)->eL T q r)/\
  (∀q e r,jX T f q=some (e,r)->eL T q r)/\(∀a q e r,k6 T f a q=some (e,r)->eL T q r)/\(∀q e r,oA T f q=some (e,r)->eL T q r)/\
  (∀l q e r,nU T f l q=some (e,r)->eL T q r)
 |0=>by simp[fA,jg,jW,eZ,kB,jX,k6,oA,nU]
 |f+1=>by
  obtain⟨hE,hS,hU,hB,hI,hF,hN,hA,hM⟩:=kE T f
  refine⟨λn q e r h=>?_,λn a q e r h=>?_,λq e r h=>?_,λa q e r h=>?_,λq e r h=>?_,λq e r h=>?_,λa q e r h=>?_,λq e r h=>?_,λl q e r h=>?_⟩
  ·unfold fA at h
   split at h
   ·exact hU _ _ _ h
   ·obtain⟨⟨x1,x2⟩,h1,h2⟩:=Option.bind_eq_some_iff.1 h
    exact(hE _ _ _ _ h1).trans (hS _ _ _ _ _ h2)
  ·unfold jg at h
   split at h
   ·rename_i c
    obtain⟨⟨x1,x2⟩,h1,h2⟩:=Option.bind_eq_some_iff.1 h
    exact((cp c.1 (xP c.2)).trans (hE _ _ _ _ h1)).trans (hS _ _ _ _ _ h2)
   ·cases h;exact eL.refl _ _
  ·unfold jW at h
   split at h
   ·obtain⟨⟨x1,x2⟩,h1,h2⟩:=Option.bind_eq_some_iff.1 h
    cases h2
    exact(eR.trans (hE _ _ _ _ h1)).trans vh
   ·obtain⟨⟨x1,x2⟩,h1,h2⟩:=Option.bind_eq_some_iff.1 h
    exact(hF _ _ _ h1).trans (hB _ _ _ _ h2)
  ·unfold eZ at h
   split at h
   ·rename_i c
    exact((cp (bf c).1 (bf c).2).trans gD).trans (hB _ _ _ _ h)
   ·split at h
    ·obtain⟨⟨x1,x2⟩,h1,h2⟩:=Option.bind_eq_some_iff.1 h
     exact((eR.trans (hE _ _ _ _ h1)).trans cP).trans (hB _ _ _ _ h2)
    ·cases h;exact eL.refl _ _
  ·unfold kB at h
   obtain⟨⟨x1,x2⟩,h1,h2⟩:=Option.bind_eq_some_iff.1 h
   cases h2
   exact(eR.trans (hE _ _ _ _ h1)).trans cP
  ·unfold jX at h
   split at h
   ·rename_i c;cases h;exact cp c.1 (sH (by rw[c.2];decide))
   split at h
   ·rename_i c;cases h
    rw[Bool.or_eq_true]at c
    rcases c with c|c<;>exact cp (bf c).1 (bf c).2
   split at h
   ·rename_i c;cases h;exact(cp (bf c).1 (bf c).2).trans mB
   split at h
   ·rename_i c;exact(cp (bf c).1 (bf c).2).trans (hN _ _ _ _ h)
   split at h
   ·rename_i c
    obtain⟨⟨x1,x2⟩,h1,h2⟩:=Option.bind_eq_some_iff.1 h
    cases h2
    exact(cp (bf c).1 (bf c).2).trans (hI _ _ _ h1)
   split at h
   ·rename_i c;cases h;exact((cp (bf c).1 (bf c).2).trans eR).trans cP
   split at h
   ·exact hI _ _ _ h
   split at h
   ·obtain⟨⟨x1,x2⟩,h1,h2⟩:=Option.bind_eq_some_iff.1 h
    cases h2
    exact gD.trans (hA _ _ _ h1)
   ·cases h;exact gD
  ·unfold k6 at h
   split at h
   ·rename_i c
    obtain⟨⟨x1,x2⟩,h1,h2⟩:=Option.bind_eq_some_iff.1 h
    cases h2
    exact(((cp (bf c).1 (bf c).2).trans mB).trans aN).trans (hI _ _ _ h1)
   ·cases h;exact gD
  ·unfold oA at h
   split at h
   ·cases h;exact eR.trans cP
   ·obtain⟨⟨x1,x2⟩,h1,h2⟩:=Option.bind_eq_some_iff.1 h
    exact(eR.trans (hE _ _ _ _ h1)).trans (hM _ _ _ _ h2)
  ·unfold nU at h
   split at h
   ·rename_i c
    obtain⟨⟨x1,x2⟩,h1,h2⟩:=Option.bind_eq_some_iff.1 h
    exact((cp (bf c).1 (bf c).2).trans (hE _ _ _ _ h1)).trans (hM _ _ _ _ h2)
   ·cases h;exact cP
theorem eF{T:List Tk}{f n:Nat}{q r:RQ}{e:E}(h:fA T f n q=some (e,r)):eL T q r:=(kE T f).1 _ _ _ _ h
theorem bind_some{α β:Type}{x:Option α}{g:α->Option β}(h1:∃a,x=some a)(h2:∀a,x=some a->∃b,g a=some b):∃b,x.bind g=some b:=by
 obtain⟨a,ha⟩:=h1
 obtain⟨b,hb⟩:=h2 a ha
 exact⟨b,by rw[ha];exact hb⟩
theorem Ii(T:List Tk):∀f:Nat,(∀n q,n<=5->40*mu T q+12<=f+n->∃x,fA T f n q=some x)/\(∀n a q,n<5->40*mu T q+1<=f->∃x,jg T f n a q=some x)/\
  (∀q,40*mu T q+6<=f->∃x,jW T f q=some x)/\(∀a q,40*mu T q+1<=f->∃x,eZ T f a q=some x)/\(∀q,40*(mu T q-1)+13<=f->∃x,kB T f q=some x)/\
  (∀q,40*mu T q+5<=f->∃x,jX T f q=some x)/\(∀a q,40*mu T q+15<=f->∃x,k6 T f a q=some x)/\(∀q,40*(mu T q-1)+13<=f->∃x,oA T f q=some x)/\
  (∀l q,40*mu T q+1<=f->∃x,nU T f l q=some x)
 |0=>by
  refine⟨λn q h1 h2=>?_,λn a q h1 h2=>?_,λq h=>?_,λa q h=>?_,λq h=>?_,λq h=>?_,λa q h=>?_,λq h=>?_,λl q h=>?_⟩<;>omega
 |f+1=>by
  obtain⟨hE,hS,hU,hB,hI,hF,hN,hA,hM⟩:=Ii T f
  obtain⟨gE,gS,gU,gB,gI,gF,gN,gA,gM⟩:=kE T f
  refine⟨λn q h1 h2=>?_,λn a q h1 h2=>?_,λq h=>?_,λa q h=>?_,λq h=>?_,λq h=>?_,λa q h=>?_,λq h=>?_,λl q h=>?_⟩
  ·unfold fA
   split
   ·exact hU _ (by omega)
   ·refine bind_some (hE _ _ (by omega) (by omega)) λ⟨x1,x2⟩ h3=>?_
    try dsimp only
    have:=kD (gE _ _ _ _ h3)
    exact hS _ _ _ (by omega) (by omega)
  ·unfold jg
   split
   ·rename_i c
    have m1:=mC (cp c.1 (xP c.2)) (kM (xP c.2))
    have m0:=pY (T:=T) c.1
    refine bind_some (hE _ _ (by omega) (by omega)) λ⟨x1,x2⟩ h3=>?_
    try dsimp only
    have:=kD (gE _ _ _ _ h3)
    exact hS _ _ _ (by omega) (by omega)
   ·exact⟨_,rfl⟩
  ·unfold jW
   split
   ·rename_i c
    rw[Bool.or_eq_true]at c
    have c0:q.fe=0:=by rcases c with c|c<;>exact(bf c).1
    have m1:=mC (T:=T) (q:=q) (eR (s:=(ey T q).t)) jP
    have m0:=pY (T:=T) c0
    exact bind_some (hE _ _ (by omega) (by omega)) λx _=>⟨_,rfl⟩
   ·refine bind_some (hF _ (by omega)) λ⟨x1,x2⟩ h3=>?_
    try dsimp only
    have:=kD (gF _ _ _ h3)
    exact hB _ _ (by omega)
  ·unfold eZ
   split
   ·rename_i c
    have m1:=mC ((cp (bf c).1 (bf c).2).trans gD) ((kM (bf c).2).trans gD)
    have m0:=pY (T:=T) (bf c).1
    exact hB _ _ (by omega)
   ·split
    ·rename_i c
     have m0:=pY (T:=T) (bf c).1
     have m1:=mC (T:=T) (q:=q) (eR (s:=[91])) jP
     refine bind_some (hE _ _ (by omega) (by omega)) λ⟨x1,x2⟩ h3=>?_
     try dsimp only
     have m2:=kD ((gE _ _ _ _ h3).trans (cP (s:=[93])))
     exact hB _ _ (by omega)
    ·exact⟨_,rfl⟩
  ·unfold kB
   have m1:=mC (T:=T) (q:=q) (eR (s:=[40])) jP
   exact bind_some (hE _ _ (by omega) (by omega)) λx _=>⟨_,rfl⟩
  ·unfold jX
   split
   ·exact⟨_,rfl⟩
   split
   ·exact⟨_,rfl⟩
   split
   ·exact⟨_,rfl⟩
   split
   ·rename_i c
    have m1:=mC (cp (bf c).1 (bf c).2) (kM (bf c).2)
    have m0:=pY (T:=T) (bf c).1
    exact hN _ _ (by omega)
   split
   ·rename_i c
    have m1:=mC (cp (bf c).1 (bf c).2) (kM (bf c).2)
    have m0:=pY (T:=T) (bf c).1
    exact bind_some (hI _ (by omega)) λx _=>⟨_,rfl⟩
   split
   ·exact⟨_,rfl⟩
   split
   ·rename_i c
    have m0:=pY (T:=T) (bf c).1
    exact hI _ (by omega)
   split
   ·rename_i c
    have m0:=pY (T:=T) (bf c).1
    have m1:=kD (T:=T) (q:=q) gD
    exact bind_some (hA _ (by omega)) λx _=>⟨_,rfl⟩
   ·exact⟨_,rfl⟩
  ·unfold k6
   split
   ·rename_i c
    have m1:=kD (((cp (bf c).1 (bf c).2).trans mB).trans (aN (s:=[93])))
    exact bind_some (hI _ (by omega)) λx _=>⟨_,rfl⟩
   ·exact⟨_,rfl⟩
  ·unfold oA
   split
   ·exact⟨_,rfl⟩
   ·have m1:=mC (T:=T) (q:=q) (eR (s:=[40])) jP
    refine bind_some (hE _ _ (by omega) (by omega)) λ⟨x1,x2⟩ h3=>?_
    try dsimp only
    have:=kD (gE _ _ _ _ h3)
    exact hM _ _ (by omega)
  ·unfold nU
   split
   ·rename_i c
    have m1:=mC (cp (bf c).1 (bf c).2) (kM (bf c).2)
    have m0:=pY (T:=T) (bf c).1
    refine bind_some (hE _ _ (by omega) (by omega)) λ⟨x1,x2⟩ h3=>?_
    try dsimp only
    have:=kD (gE _ _ _ _ h3)
    exact hM _ _ (by omega)
   ·exact⟨_,rfl⟩
theorem nj{T:List Tk}{f:Nat}{q:RQ}(h:40*mu T q+12<=f):∃x,fA T f 0 q=some x:=(Ii T f).1 0 q (by omega) (by omega)
theorem Kp{T:List Tk}{f:Nat}{a:Int}{q r:RQ}{s:Sm}(h:nh T f a q=some (s,r)):eL T q r/\sI T q r:=by
 unfold nh at h
 obtain⟨⟨x1,x2⟩,h1,h2⟩:=Option.bind_eq_some_iff.1 h
 have g1:=eF h1
 dsimp only at h2
 split at h2
 ·obtain⟨⟨y1,y2⟩,h3,h4⟩:=Option.bind_eq_some_iff.1 h2
  cases h4
  have g2:eL T x2 (cR T (if x1.k=4\/x1.k=5\/x1.k=6 then x2 else iN T x2 2) [61]):=by
   refine eL.trans ?_ aN
   split
   ·exact eL.refl _ _
   ·exact eW
  have g3:=(g1.trans g2).trans (eF h3)
  exact⟨g3.trans aN,g3.FF jx⟩
 ·cases h2
  have g2:eL T x2 (if fP T x2 [59]=true/\x1.k≠7 then iN T x2 2 else x2):=by
   split
   ·exact eW
   ·exact eL.refl _ _
  exact⟨(g1.trans g2).trans aN,(g1.trans g2).FF jx⟩
theorem lH(T:List Tk):∀f:Nat,(∀q s r,pV T f q=some (s,r)->eL T q r/\sI T q r)/\(∀q s r,iD T f q=some (s,r)->eL T q r/\sI T q r)/\
  (∀l q s r,kC T f l q=some (s,r)->eL T q r)
 |0=>by simp[pV,iD,kC]
 |f+1=>by
  obtain⟨hS,hB,hL⟩:=lH T f
  refine⟨λq s r h=>?_,λq s r h=>?_,λl q s r h=>?_⟩
  ·unfold pV at h
   split at h
   ·rename_i c;cases h
    have g:=(cp (bf c).1 (bf c).2).trans iE
    exact⟨g.trans aN,g.FF jx⟩
   split at h
   ·rename_i c
    obtain⟨⟨x1,x2⟩,h1,h2⟩:=Option.bind_eq_some_iff.1 h
    cases h2
    have g:=(((cp (bf c).1 (bf c).2).trans iE).trans aN).trans (eF h1)
    exact⟨g.trans aN,g.FF jx⟩
   split at h
   ·rename_i c
    obtain⟨⟨x1,x2⟩,h1,h2⟩:=Option.bind_eq_some_iff.1 h
    obtain⟨⟨y1,y2⟩,h3,h4⟩:=Option.bind_eq_some_iff.1 h2
    have g1:=(cp (bf c).1 (bf c).2).trans (eF h1)
    have g:=g1.trans (hB _ _ _ h3).1
    have w:=g1.FF (hB _ _ _ h3).2
    dsimp only at h4
    split at h4
    ·rename_i d
     obtain⟨⟨z1,z2⟩,h5,h6⟩:=Option.bind_eq_some_iff.1 h4
     cases h6
     have g2:=(cp (bf d).1 (bf d).2).trans (hB _ _ _ h5).1
     exact⟨g.trans g2,w.trans g2⟩
    ·cases h4;exact⟨g,w⟩
   split at h
   ·rename_i c
    obtain⟨⟨x1,x2⟩,h1,h2⟩:=Option.bind_eq_some_iff.1 h
    obtain⟨⟨y1,y2⟩,h3,h4⟩:=Option.bind_eq_some_iff.1 h2
    cases h4
    have g1:=(cp (bf c).1 (bf c).2).trans (eF h1)
    exact⟨g1.trans (hB _ _ _ h3).1,g1.FF (hB _ _ _ h3).2⟩
   split at h
   ·rename_i c
    have g1:=cp (bf c).1 (bf c).2
    split at h
    ·cases h;exact⟨g1.trans aN,g1.FF jx⟩
    ·obtain⟨⟨x1,x2⟩,h1,h2⟩:=Option.bind_eq_some_iff.1 h
     cases h2
     have g:=g1.trans (eF h1)
     exact⟨g.trans aN,g.FF jx⟩
   split at h
   ·rename_i c
    obtain⟨⟨x1,x2⟩,h1,h2⟩:=Option.bind_eq_some_iff.1 h
    cases h2
    have g:=(cp (bf c).1 (bf c).2).trans (eF h1)
    exact⟨g.trans aN,g.FF jx⟩
   ·exact Kp h
  ·unfold iD at h
   have g:=hL _ _ _ _ h
   exact⟨eR.trans g,jP.trans g⟩
  ·unfold kC at h
   split at h
   ·obtain⟨⟨x1,x2⟩,h1,h2⟩:=Option.bind_eq_some_iff.1 h
    exact(hS _ _ _ h1).1.trans (hL _ _ _ _ h2)
   ·cases h;exact cP
theorem Kq{T:List Tk}{f:Nat}{a:Int}{q:RQ}(h:40*mu T q+12<=f):∃x,nh T f a q=some x:=by
 unfold nh
 refine bind_some (nj h) λ⟨x1,x2⟩ h1=>?_
 try dsimp only
 have m1:=kD (eF h1)
 split
 ·have g2:eL T x2 (cR T (if x1.k=4\/x1.k=5\/x1.k=6 then x2 else iN T x2 2) [61]):=by
   refine eL.trans ?_ aN
   split
   ·exact eL.refl _ _
   ·exact eW
  have m2:=kD g2
  exact bind_some (nj (by omega)) λx _=>⟨_,rfl⟩
 ·exact⟨_,rfl⟩
theorem CA(T:List Tk):∀f:Nat,(∀q,40*mu T q+15<=f->∃x,pV T f q=some x)/\(∀q,40*(mu T q-1)+18<=f->∃x,iD T f q=some x)/\
  (∀l q,40*mu T q+17<=f->∃x,kC T f l q=some x)
 |0=>by refine⟨λq h=>?_,λq h=>?_,λl q h=>?_⟩<;>omega
 |f+1=>by
  obtain⟨hS,hB,hL⟩:=CA T f
  obtain⟨gS,gB,gL⟩:=lH T f
  refine⟨λq h=>?_,λq h=>?_,λl q h=>?_⟩
  ·have one:∀s,fP T q s=true->mu T (ay q)<=mu T q-1/\0<mu T q:=λs c=>⟨mC (cp (bf c).1 (bf c).2) (kM (bf c).2),pY (bf c).1⟩
   unfold pV
   split
   ·exact⟨_,rfl⟩
   split
   ·rename_i c
    have m0:=one _ c
    have m1:=kD (T:=T) (q:=ay q) (iE.trans (aN (s:=[61])))
    exact bind_some (nj (by omega)) λx _=>⟨_,rfl⟩
   split
   ·rename_i c
    have m0:=one _ c
    refine bind_some (nj (by omega)) λ⟨x1,x2⟩ h1=>?_
    try dsimp only
    have m1:=kD (eF h1)
    refine bind_some (hB _ (by omega)) λ⟨y1,y2⟩ h2=>?_
    try dsimp only
    have m2:=kD (gB _ _ _ h2).1
    split
    ·rename_i d
     have m3:=kD (cp (bf d).1 (bf d).2)
     exact bind_some (hB _ (by omega)) λx _=>⟨_,rfl⟩
    ·exact⟨_,rfl⟩
   split
   ·rename_i c
    have m0:=one _ c
    refine bind_some (nj (by omega)) λ⟨x1,x2⟩ h1=>?_
    try dsimp only
    have m1:=kD (eF h1)
    exact bind_some (hB _ (by omega)) λx _=>⟨_,rfl⟩
   split
   ·rename_i c
    have m0:=one _ c
    split
    ·exact⟨_,rfl⟩
    ·exact bind_some (nj (by omega)) λx _=>⟨_,rfl⟩
   split
   ·rename_i c
    have m0:=one _ c
    exact bind_some (nj (by omega)) λx _=>⟨_,rfl⟩
   ·exact Kq (by omega)
  ·unfold iD
   have m1:=mC (T:=T) (q:=q) (eR (s:=[123])) jP
   exact hL _ _ (by omega)
  ·unfold kC
   split
   ·rename_i c
    refine bind_some (hS _ (by omega)) λ⟨x1,x2⟩ h1=>?_
    try dsimp only
    have m1:=Cz c.1 (gS _ _ _ h1).2
    exact hL _ _ (by omega)
   ·exact⟨_,rfl⟩
theorem lI{T:List Tk}{f:Nat}{q r:RQ}{s:List Sm}(h:iD T f q=some (s,r)):eL T q r/\sI T q r:=(lH T f).2.1 _ _ _ h
theorem CB{T:List Tk}{f:Nat}{q:RQ}(h:40*mu T q+18<=f):∃x,iD T f q=some x:=(CA T f).2.1 _ (by omega)
theorem zZ(T:List Tk):∀(f:Nat)(l:List PD)(q:RQ)(s:List PD)(r:RQ),iX T f l q=some (s,r)->eL T q r
 |0,_,_,_,_,h=>by simp[iX]at h
 |f+1,l,q,s,r,h=>by
  unfold iX at h
  split at h
  ·split at h
   ·cases h;exact eW
   ·exact(iE.trans aN).trans (zZ T f _ _ _ _ h)
  ·cases h;exact eL.refl _ _
theorem z7(T:List Tk):∀(f:Nat)(l:List PD)(q:RQ),mu T q<f->∃x,iX T f l q=some x
 |0,_,_,h=>absurd h (by omega)
 |f+1,l,q,h=>by
  unfold iX
  split
  ·rename_i c
   split
   ·exact⟨_,rfl⟩
   ·have:=Cz c.1 ((sJ (T:=T) (q:=q)).trans (aN (s:=[59])))
    exact z7 T f _ _ (by omega)
  ·exact⟨_,rfl⟩
theorem z8{T:List Tk}{f:Nat}{q r:RQ}{s:Rc}(h:mA T f q=some (s,r)):eL T q r/\sI T q r:=by
 unfold mA at h
 obtain⟨⟨x1,x2⟩,h1,h2⟩:=Option.bind_eq_some_iff.1 h
 cases h2
 have g:=(aN (T:=T) (s:=[123])).trans (zZ T f _ _ _ _ h1)
 exact⟨(gD.trans g).trans aN,((ni.trans g)).trans aN⟩
theorem Ij{T:List Tk}{f:Nat}{q:RQ}(h:mu T q<f):∃x,mA T f q=some x:=by
 unfold mA
 have m:=kD (T:=T) (q:=q) (gD.trans (aN (s:=[123])))
 exact bind_some (z7 T f _ _ (by omega)) λx _=>⟨_,rfl⟩
theorem pZ{T:List Tk}{q:RQ}:eL T q (sG T q):=by
 unfold sG
 split
 ·exact eL.refl _ _
 ·split
  ·exact aN.trans eW
  ·exact aN
theorem uo(T:List Tk):∀(f:Nat)(l:List PD)(q:RQ)(s:List PD)(r:RQ),iI T f l q=some (s,r)->eL T q r
 |0,_,_,_,_,h=>by simp[iI]at h
 |f+1,l,q,s,r,h=>by
  unfold iI at h
  split at h
  ·split at h
   ·cases h;exact eW
   ·exact(iE.trans pZ).trans (uo T f _ _ _ _ h)
  ·cases h;exact eL.refl _ _
theorem z9(T:List Tk):∀(f:Nat)(l:List PD)(q:RQ),mu T q<f->∃x,iI T f l q=some x
 |0,_,_,h=>absurd h (by omega)
 |f+1,l,q,h=>by
  unfold iI
  split
  ·rename_i c
   split
   ·exact⟨_,rfl⟩
   ·have:=Cz c.1 ((sJ (T:=T) (q:=q)).trans pZ)
    exact z9 T f _ _ (by omega)
  ·exact⟨_,rfl⟩
theorem Ey{T:List Tk}{f:Nat}{q r:RQ}{s:Fc}(h:pW T f q=some (s,r)):eL T q r/\sI T q r:=by
 unfold pW at h
 obtain⟨⟨x1,x2⟩,h1,h2⟩:=Option.bind_eq_some_iff.1 h
 have g:=((aN (T:=T) (s:=[40])).trans (uo T f _ _ _ _ h1)).trans (aN (s:=[41]))
 have gg:=gD.trans g
 dsimp only at h2
 split at h2
 ·rename_i d
  obtain⟨⟨y1,y2⟩,h3,h4⟩:=Option.bind_eq_some_iff.1 h2
  cases h4
  have g2:=((cp (bf d).1 (bf d).2).trans mB).trans (lI h3).1
  exact⟨gg.trans g2,(ni.trans g).trans g2⟩
 ·obtain⟨⟨y1,y2⟩,h3,h4⟩:=Option.bind_eq_some_iff.1 h2
  cases h4
  have g2:=(lI h3).1
  exact⟨gg.trans g2,(ni.trans g).trans g2⟩
theorem Ny{T:List Tk}{f:Nat}{q:RQ}(h:40*mu T q+18<=f):∃x,pW T f q=some x:=by
 unfold pW
 have m:=kD (T:=T) (q:=q) (gD.trans (aN (s:=[40])))
 refine bind_some (z9 T f _ _ (by omega)) λ⟨x1,x2⟩ h1=>?_
 try dsimp only
 have m1:=kD ((uo T f _ _ _ _ h1).trans (aN (s:=[41])))
 split
 ·rename_i d
  have m2:=kD ((cp (bf d).1 (bf d).2).trans mB)
  exact bind_some (CB (by omega)) λx _=>⟨_,rfl⟩
 ·exact bind_some (CB (by omega)) λx _=>⟨_,rfl⟩
theorem oZ(T:List Tk):∀(f:Nat)(p:Pg)(q:RQ),40*mu T q+19<=f->∃x,jv T f p q=some x
 |0,_,_,h=>absurd h (by omega)
 |f+1,p,q,h=>by
  unfold jv
  split
  ·rename_i c
   have m0:=pY (T:=T) c.1
   have w1:=Cz c.1 (T:=T) (r:=iN T q 4) (.inl (jw (by decide)))
   have w2:=Cz c.1 (T:=T) (r:=iN T q 2) (.inl (jw (by decide)))
   have m1:=Cz c.1 (kM (sH c.2))
   split
   ·exact oZ T f _ _ (by omega)
   split
   ·refine bind_some (Ij (by omega)) λ⟨x1,x2⟩ h1=>?_
    try dsimp only
    have:=kD (z8 h1).1
    exact oZ T f _ _ (by omega)
   split
   ·have:=kD (T:=T) (q:=ay q) (iE.trans (aN (s:=[59])))
    exact oZ T f _ _ (by omega)
   split
   ·refine bind_some (Ny (by omega)) λ⟨x1,x2⟩ h1=>?_
    try dsimp only
    have:=kD (Ey h1).1
    exact oZ T f _ _ (by omega)
   ·exact oZ T f _ _ (by omega)
  ·exact⟨_,rfl⟩
theorem qD(T:List Tk):∃x,pX T (40*T.length+100)=some x:=by
 unfold pX
 exact bind_some (oZ T _ _ _ (by simp[mu];omega)) λx _=>⟨_,rfl⟩
end kL
namespace kL
open Ax Go V7
def W7(T:List Tk)(N:Int):Prop:=0<=N/\∀x∈T,0<=x.a/\x.a<=N
theorem FG{T:List Tk}{N:Int}(h:W7 T N)(q:RQ):0<=(ey T q).a/\(ey T q).a<=N:=by
 by_cases hl:q.at_<T.length
 ·have:ey T q=T[q.at_]:=by simp[ey,hl]
  rw[this]
  exact h.2 _ (List.getElem_mem hl)
 ·have hc:ey T q=Rg:=by simp[ey,List.getD,List.getElem?_eq_none (Nat.le_of_not_lt hl)]
  rw[hc]
  exact⟨Int.le_refl _,h.1⟩
def FH(N:Int)(p:PD):Prop:=0<=p.od/\p.od<=3/\0<=p.at_/\p.at_<=N
theorem CC{T:List Tk}{N:Int}(h:W7 T N)(q:RQ):FH N (cY T q).1:=⟨Ko.1,Ko.2,(FG h q).1,(FG h q).2⟩
structure Rc.In (N:Int)(r:Rc):Prop where
 a:0<=r.a/\r.a<=N
 len:r.cq.length<=9
 f:∀p∈r.cq,FH N p
structure Fc.In (N:Int)(r:Fc):Prop where
 a:0<=r.a/\r.a<=N
 len:r.params.length<=7
 f:∀p∈r.params,FH N p
 od:0<=r.od/\r.od<=3
structure Pg.In (N:Int)(p:Pg):Prop where
 r:p.bG.length<=12/\∀x∈p.bG,Rc.In N x
 g:p.globals.length<=8/\∀x∈p.globals,FH N x
 f:p.funcs.length<=16/\∀x∈p.funcs,Fc.In N x
theorem p0{α:Type}{P:α->Prop}{l:List α}{a:α}(h:∀x∈l,P x)(ha:P a):∀x∈l++[a],P x:=by
 intro x hx
 rcases List.mem_append.1 hx with h1|h1
 ·exact h x h1
 ·rw[List.mem_singleton.1 h1];exact ha
theorem Ik{T:List Tk}{q:RQ}(h:(ey T q).k≠1):(di T q).2.fe≠0:=by
 unfold di
 rw[if_neg (λe=>h e.2)]
 exact jw (by decide)
theorem vk{T:List Tk}{q:RQ}(h:(ey T q).k≠1):(cY T q).2.fe≠0:=by
 have g:eL T (di T q).2 (cY T q).2:=aN.trans mB
 rw[(g.zY (Ik h)).1]
 exact Ik h
theorem Ez{T:List Tk}{N:Int}(hN:W7 T N):∀(f:Nat)(l:List PD)(q:RQ)(s:List PD)(r:RQ),iX T f l q=some (s,r)->(∀p∈l,FH N p)->(l.length<=8\/q.fe≠0/\l.length<=9)->
  (∀p∈s,FH N p)/\(s.length<=8\/r.fe≠0/\s.length<=9)
 |0,_,_,_,_,h,_,_=>by simp[iX]at h
 |f+1,l,q,s,r,h,hl,hn=>by
  unfold iX at h
  split at h
  ·rename_i c
   have h8:l.length<=8:=by
    rcases hn with hn|hn
    ·exact hn
    ·exact absurd c.1 hn.1
   split at h
   ·rename_i c2
    cases h;exact⟨hl,.inl h8⟩
   ·rename_i c2
    refine Ez hN f _ _ _ _ h (p0 hl (CC hN q)) ?_
    by_cases hk:(ey T q).k=1
    ·exact .inl (by
      have:l.length≠8:=λe=>c2 ⟨hk,e⟩
      simp;omega)
    ·refine .inr ⟨?_,by simp;omega⟩
     have g:=aN (T:=T) (q:=(cY T q).2) (s:=[59])
     rw[(g.zY (vk hk)).1]
     exact vk hk
  ·cases h;exact⟨hl,hn⟩
theorem EA{T:List Tk}{N:Int}(hN:W7 T N):∀(f:Nat)(l:List PD)(q:RQ)(s:List PD)(r:RQ),iI T f l q=some (s,r)->(∀p∈l,FH N p)->(l.length<=6\/q.fe≠0/\l.length<=7)->
  (∀p∈s,FH N p)/\(s.length<=6\/r.fe≠0/\s.length<=7)
 |0,_,_,_,_,h,_,_=>by simp[iI]at h
 |f+1,l,q,s,r,h,hl,hn=>by
  unfold iI at h
  split at h
  ·rename_i c
   have h8:l.length<=6:=by
    rcases hn with hn|hn
    ·exact hn
    ·exact absurd c.1 hn.1
   split at h
   ·rename_i c2
    cases h;exact⟨hl,.inl h8⟩
   ·rename_i c2
    refine EA hN f _ _ _ _ h (p0 hl (CC hN q)) ?_
    by_cases hk:(ey T q).k=1
    ·exact .inl (by
      have:l.length≠6:=λe=>c2 ⟨hk,e⟩
      simp;omega)
    ·refine .inr ⟨?_,by simp;omega⟩
     have g:=pZ (T:=T) (q:=(cY T q).2)
     rw[(g.zY (vk hk)).1]
     exact vk hk
  ·cases h;exact⟨hl,hn⟩
theorem Nz{T:List Tk}{N:Int}(hN:W7 T N){f:Nat}{q r:RQ}{s:Rc}(h:mA T f q=some (s,r)):Rc.In N s/\(r.fe=0->s.cq.length<=8):=by
 unfold mA at h
 obtain⟨⟨x1,x2⟩,h1,h2⟩:=Option.bind_eq_some_iff.1 h
 cases h2
 obtain⟨a,b⟩:=Ez hN _ _ _ _ _ h1 (by simp) (by simp)
 refine⟨⟨FG hN q,by rcases b with b|b<;>simp only<;>omega,a⟩,λe=>?_⟩
 rcases b with b|b
 ·exact b
 ·exact absurd (aN.mS e) b.1
theorem Vl{T:List Tk}{N:Int}(hN:W7 T N){f:Nat}{q r:RQ}{s:Fc}(h:pW T f q=some (s,r)):Fc.In N s/\(r.fe=0->s.params.length<=6):=by
 unfold pW at h
 obtain⟨⟨x1,x2⟩,h1,h2⟩:=Option.bind_eq_some_iff.1 h
 obtain⟨a,b⟩:=EA hN _ _ _ _ _ h1 (by simp) (by simp)
 have hc:=FG hN q
 have kJ:∀r:RQ,eL T x2 r->r.fe=0->x1.length<=6:=λr g e=>by
  rcases b with b|b
  ·exact b
  ·exact absurd (g.mS e) b.1
 have b7:x1.length<=7:=by rcases b with b|b<;>omega
 dsimp only at h2
 split at h2
 ·rename_i d
  obtain⟨⟨y1,y2⟩,h3,h4⟩:=Option.bind_eq_some_iff.1 h2
  cases h4
  exact⟨⟨hc,b7,a,Ko⟩,kJ _ (((aN.trans (cp (bf d).1 (bf d).2)).trans mB).trans (lI h3).1)⟩
 ·obtain⟨⟨y1,y2⟩,h3,h4⟩:=Option.bind_eq_some_iff.1 h2
  cases h4
  exact⟨⟨hc,b7,a,Int.le_refl _,by show (0:Int)<=3;decide⟩,kJ _ (aN.trans (lI h3).1)⟩
def Pg.few(p:Pg):Prop:=(∀x∈p.bG,x.cq.length<=8)/\∀x∈p.funcs,x.params.length<=6
theorem vm{T:List Tk}{N:Int}(hN:W7 T N):∀(f:Nat)(p:Pg)(q:RQ)(s:Pg)(r:RQ),jv T f p q=some (s,r)->Pg.In N p->(q.fe=0->p.few)->Pg.In N s/\(r.fe=0->s.few)
 |0,_,_,_,_,h,_,_=>by simp[jv]at h
 |f+1,p,q,s,r,h,hp,hf=>by
  unfold jv at h
  split at h
  ·rename_i c
   split at h
   ·exact vm hN f _ _ _ _ h hp λe=>absurd e (jw (by decide))
   rename_i aa
   split at h
   ·rename_i d
    obtain⟨⟨x1,x2⟩,h1,h2⟩:=Option.bind_eq_some_iff.1 h
    obtain⟨i1,i2⟩:=Nz hN h1
    have:p.bG.length≠12:=λe=>aa (.inl ⟨d,e⟩)
    have:=hp.r.1
    exact vm hN f _ _ _ _ h2 ⟨⟨by simp;omega,p0 hp.r.2 i1⟩,hp.g,hp.f⟩ λe=>⟨p0 (hf c.1).1 (i2 e),(hf c.1).2⟩
   split at h
   ·rename_i d
    have:p.globals.length≠8:=λe=>aa (.inr (.inl ⟨d,e⟩))
    have:=hp.g.1
    exact vm hN f _ _ _ _ h ⟨hp.r,⟨by simp;omega,p0 hp.g.2 (CC hN _)⟩,hp.f⟩ λe=>hf c.1
   split at h
   ·rename_i d
    obtain⟨⟨x1,x2⟩,h1,h2⟩:=Option.bind_eq_some_iff.1 h
    obtain⟨i1,i2⟩:=Vl hN h1
    have:p.funcs.length≠16:=λe=>aa (.inr (.inr ⟨d,e⟩))
    have:=hp.f.1
    exact vm hN f _ _ _ _ h2 ⟨hp.r,hp.g,⟨by simp;omega,p0 hp.f.2 i1⟩⟩ λe=>⟨(hf c.1).1,p0 (hf c.1).2 (i2 e)⟩
   ·exact vm hN f _ _ _ _ h hp λe=>absurd e (jw (by decide))
  ·cases h;exact⟨hp,hf⟩
theorem FI{N:Int}:Pg.In N AU:=⟨⟨by simp[AU],by simp[AU]⟩,⟨by simp[AU],by simp[AU]⟩,⟨by simp[AU],by simp[AU]⟩⟩
theorem AW:AU.few:=⟨by simp[AU],by simp[AU]⟩
theorem NA{T:List Tk}{N:Int}(hN:W7 T N){f:Nat}{x:Pg×Int×Int}(h:pX T f=some x):Pg.In N x.1/\x.1.few:=by
 unfold pX at h
 obtain⟨⟨x1,x2⟩,h1,h2⟩:=Option.bind_eq_some_iff.1 h
 obtain⟨a,b⟩:=vm hN _ _ _ _ _ h1 FI λ_=>AW
 simp only[Option.some.injEq]at h2
 subst h2
 split
 ·rename_i e;exact⟨a,b e⟩
 ·exact⟨FI,AW⟩
end kL
namespace lV
open Ax Go V7 kL
abbrev tI:T3:=⟨1,0,0⟩
abbrev tB:T3:=⟨2,0,0⟩
structure Vd where
 nm:List UInt8
 ty:T3
 deriving DecidableEq
structure Sg where
 nm:List UInt8
 ps:List Vd
 bO:Bool
 br:T3
structure Hd where
 rs:List (List UInt8)
 cF:List (List UInt8×List Vd)
 globals:List Vd
 sigs:List Sg
def mD(rs:List (List UInt8))(l:List PD):List Vd:=l.map λq=>⟨q.name,(dh rs q.on q.od).1⟩
def ck(p:Pg):List (List UInt8):=p.bG.map (·.name)
def wP(rs:List (List UInt8))(f:Fc):Sg:=⟨f.name,mD rs f.params,f.bO,if f.bO then (dh rs f.on f.od).1 else T0⟩
def aS(p:Pg):Hd:=⟨ck p,p.bG.map λr=>(r.name,mD (ck p) r.cq),mD (ck p) p.globals,p.funcs.map (wP (ck p))⟩
def ij(s:List UInt8):Nat->List Vd->Option (Nat×T3)
 |_,[]=>none
 |i,f::l=>if f.nm=s then some (i,f.ty) else ij s (i+1) l
def yX(H:Hd)(V:List Vd)(s:List UInt8):Option (T3×Int):=match ij s 0 V with
 |some (k,t)=>some (t,(k:Int))
 |none=>match ij s 0 H.globals with
  |some (k,t)=>some (t,-1-(k:Int))
  |none=>none
def oB(s:List UInt8):Nat->List Sg->Option (Nat×Sg)
 |_,[]=>none
 |i,g::l=>if g.nm=s then some (i,g) else oB s (i+1) l
def mE:List Vd->List E->Bool
 |[],[]=>true
 |f::l,e::r=>decide (e.ty=f.ty)&&mE l r
 |_,_=>false
def dY(k n:Int)(m:Nat):Bool:=
 if k=1\/k=3\/k=4\/k=8\/k=11 then decide (m=0)
 else if k=2 then decide (m=0)&&(decide (n=0)||decide (n=1))
 else if k=7 then true
 else if k=5\/k=9\/k=10\/k=12\/k=13 then decide (m=1)
 else (decide (k=6)||decide (14<=k)&&decide (k<=24))&&decide (m=2)
def vn(ks:List E):T3:=match ks with|e::_=>e.ty | []=>T0
def CD(ks:List E):T3:=match ks with|_::e::_=>e.ty|_=>T0
def lR(k n:Int):Int:=if k=1\/k=2 then n else 0
def gx(k:Int)(nm:List UInt8):List UInt8:=if k=4\/k=5\/k=7 then nm else []
def g8(k:Int)(on:List UInt8):List UInt8:=if k=3\/k=8\/k=9 then on else []
def hJ(k:Int)(od:Int):Int:=if k=3\/k=8\/k=9 then od else 0
def GK(b:Bool)(t:T3):Option (T3×Int):=if b then some (t,0) else none
def yY(H:Hd)(t:T3)(nm:List UInt8):Option (T3×Int):=if t.b=3/\t.d=0 then match H.cF[t.r.toNat]? with
  |some s=>match ij nm 0 s.2 with
   |some (i,u)=>some (u,(i:Int))
   |none=>none
  |none=>none
 else none
def CE(H:Hd)(nm:List UInt8)(ks:List E):Option (T3×Int):=match oB nm 0 H.sigs with
 |some (i,s)=>if mE s.ps ks then some (s.br,(i:Int)) else none
 |none=>none
def FJ(k:Int)(a b:T3):Option (T3×Int):=
 if k=14\/k=15\/k=16\/k=17\/k=18 then GK (decide (a=tI)&&decide (b=tI)) tI
 else if k=19\/k=20 then GK (decide (a=tI)&&decide (b=tI)) tB
 else if k=21\/k=22 then GK (decide (a=b)) tB
 else GK (decide (a=tB)&&decide (b=tB)) tB
def oO(H:Hd)(V:List Vd)(k:Int)(nm on:List UInt8)(od:Int)(ks:List E):Option (T3×Int):=
 if k=1\/k=11 then some (tI,0)
 else if k=2 then some (tB,0)
 else if k=3 then GK ((dh H.rs on od).2&&xM (dh H.rs on od).1) (dh H.rs on od).1
 else if k=4 then yX H V nm
 else if k=5 then yY H (vn ks) nm
 else if k=6 then GK (decide (0<(vn ks).d)&&decide (CD ks=tI)) ⟨(vn ks).b,(vn ks).r,(vn ks).d-1⟩
 else if k=7 then CE H nm ks
 else if k=8 then GK ((dh H.rs on od).2&&decide ((dh H.rs on od).1.b=3)&&decide ((dh H.rs on od).1.d=0)) (dh H.rs on od).1
 else if k=9 then GK ((dh H.rs on od).2&&decide ((dh H.rs on od).1.d<3)&&decide (vn ks=tI)) ⟨(dh H.rs on od).1.b,(dh H.rs on od).1.r,(dh H.rs on od).1.d+1⟩
 else if k=10 then GK (decide (0<(vn ks).d)) tI
 else if k=12 then GK (decide (vn ks=tI)) tI
 else if k=13 then GK (decide (vn ks=tB)) tB
 else FJ k (vn ks) (CD ks)
mutual
def vo(H:Hd)(V:List Vd):E->Except Int E
 |.mk k n nm on od az a _ _=>if dY k n az.length then
   match lW H V az with
   |.error x=>.error x
   |.ok ks=>match oO H V k nm on od ks with
    |none=>.error a
    |some (t,r)=>.ok (.mk k (lR k n) (gx k nm) (g8 k on) (hJ k od) ks a t r)
  else .error a
def lW(H:Hd)(V:List Vd):List E->Except Int (List E)
 |[]=>.ok []
 |e::l=>match vo H V e with
  |.error x=>.error x
  |.ok y=>if y.ty=T0 then .error y.a else match lW H V l with
   |.error x=>.error x
   |.ok ys=>.ok (y::ys)
end
def ee(bO:Bool)(k:Int)(es:List E):Bool:=
 if k=1 then decide (es.length=0)
 else if k=4 then match es with | [e,_]=>decide (e.k=5)||decide (e.k=6)|_=>false
 else if k=7 then decide (es.length=1)&&bO||decide (es.length=0) && !bO
 else if k=9 then match es with | [e]=>decide (e.k=7)|_=>false
 else if k=2\/k=3\/k=5\/k=6\/k=8 then decide (es.length=1)
 else false
def j8(H:Hd)(br:T3)(V:List Vd)(k:Int)(nm:List UInt8)(es:List E)(t:T3):Option (Int×List Vd):=
 if k=1 then (match ij nm 0 V with|some _=>none|none=>some ((V.length:Int),V++[⟨nm,t⟩]))
 else if k=2 then (if vn es=t then match ij nm 0 V with|some _=>none|none=>some ((V.length:Int),V++[⟨nm,t⟩]) else none)
 else if k=3 then (match yX H V nm with|some (u,r)=>if u=vn es then some (r,V) else none|none=>none)
 else if k=4 then (if vn es=CD es then some (0,V) else none)
 else if k=5\/k=6 then (if vn es=tB then some (0,V) else none)
 else if k=7 then (if es.length=0\/vn es=br then some (0,V) else none)
 else if k=8 then (if vn es=tI then some (0,V) else none)
 else some (0,V)
def j5(H:Hd)(k:Int)(on:List UInt8)(od:Int):Option T3:=if k=1\/k=2 then (if (dh H.rs on od).2 then some (dh H.rs on od).1 else none) else some T0
def Aa(H:Hd)(V:List Vd)(k:Int)(es:List E):Except Int (List E):=if k=9 then match es with
  |e::_=>match vo H V e with
   |.error x=>.error x
   |.ok y=>.ok [y]
  |[]=>.ok []
 else lW H V es
def cg(k:Int)(nm:List UInt8):List UInt8:=if k=1\/k=2\/k=3 then nm else []
def bH(k:Int)(on:List UInt8):List UInt8:=if k=1\/k=2 then on else []
def bJ(k:Int)(od:Int):Int:=if k=1\/k=2 then od else 0
mutual
def wQ(H:Hd)(bO:Bool)(br:T3):List Vd->Sm->Except Int (Sm×List Vd)
 |V,.mk k nm on od es bd el a _=>if ee bO k es then
   match j5 H k on od with
   |none=>.error a
   |some t=>match Aa H V k es with
    |.error x=>.error x
    |.ok ys=>match j8 H br V k nm ys t with
     |none=>.error a
     |some (r,W)=>if k=5 then
       match kF H bO br W bd with
       |.error x=>.error x
       |.ok (b,W1)=>match kF H bO br W1 el with
        |.error x=>.error x
        |.ok (c,W2)=>.ok (.mk k (cg k nm) (bH k on) (bJ k od) ys b c a r,W2)
      else if k=6 then
       match kF H bO br W bd with
       |.error x=>.error x
       |.ok (b,W1)=>.ok (.mk k (cg k nm) (bH k on) (bJ k od) ys b [] a r,W1)
      else .ok (.mk k (cg k nm) (bH k on) (bJ k od) ys [] [] a r,W)
  else .error a
def kF(H:Hd)(bO:Bool)(br:T3):List Vd->List Sm->Except Int (List Sm×List Vd)
 |V,[]=>.ok ([],V)
 |V,s::l=>match wQ H bO br V s with
  |.error x=>.error x
  |.ok (y,W)=>match kF H bO br W l with
   |.error x=>.error x
   |.ok (ys,X)=>.ok (y::ys,X)
end
structure Bd where
 vars:List Vd
 code:List Sm
 a:Int
def q8(H:Hd):List Sg->List Fc->Except Int (List Bd)
 |s::ss,f::fs=>match kF H s.bO s.br s.ps f.body with
  |.error x=>.error x
  |.ok (c,W)=>match q8 H ss fs with
   |.error x=>.error x
   |.ok l=>.ok (⟨W,c,f.a⟩::l)
 |_,_=>.ok []
def Vd.row(f:Vd):List AV:=.str f.nm::f.ty.cells
def cw(l:List Vd):AV:=aB 4 (l.map Vd.row)
def Sg.row(s:Sg):List AV:=[.str s.nm,cw s.ps,.bool s.bO,.int .i64 s.br.b,.int .i64 s.br.r,.int .i64 s.br.d]
def iF(s:List UInt8×List Vd):List AV:=[.str s.1,cw s.2]
def Bd.row(b:Bd):List AV:=[cw b.vars,bD b.code,.int .i64 b.a]
end lV
namespace lV
open Ax Go V7 kL
theorem E.vp{P:E->Prop}(h:∀e,(∀x∈e.az,P x)->P e)(e:E):P e:=h e λx _=>E.vp h x
termination_by sizeOf e
decreasing_by
 have hx:x∈e.az:=by assumption
 cases e
 simp only[E.az]at hx
 have:=List.sizeOf_lt_of_mem hx
 simp only[E.mk.sizeOf_spec]
 omega
theorem Sm.vp{P:Sm->Prop}(h:∀s,(∀x∈s.bd,P x)->(∀x∈s.el,P x)->P s)(s:Sm):P s:=h s (λx _=>Sm.vp h x) λx _=>Sm.vp h x
termination_by sizeOf s
decreasing_by
 all_goals
  rename_i hx
  cases s
  simp only[Sm.bd,Sm.el]at hx
  have:=List.sizeOf_lt_of_mem hx
  simp only[Sm.mk.sizeOf_spec]
  omega
mutual
def E.sz:E->Nat
 |.mk _ _ _ _ _ az _ _ _=>1+E.eA az
def E.eA:List E->Nat
 |[]=>0
 |e::l=>E.sz e+E.eA l
end
theorem E.Kr(e:E):0<E.sz e:=by cases e;simp only[E.sz];omega
theorem E.fF:∀l:List E,l.length<=E.eA l
 |[]=>Nat.le_refl _
 |e::l=>by
  have:=E.fF l
  have:=E.Kr e
  simp only[E.eA,List.length_cons]
  omega
theorem E.jj:∀{l:List E}{e:E},e∈l->E.sz e<=E.eA l
 |[],_,h=>by cases h
 |x::l,e,h=>by
  rcases List.mem_cons.1 h with h|h
  ·subst h;simp only[E.eA];omega
  ·have:=E.jj h
   simp only[E.eA];omega
theorem E.sK(e:E):E.sz e=1+E.eA e.az:=by cases e;rfl
def WT(n:Nat)(t:T3):Prop:=0<=t.d/\t.d<=3/\(t.b=3->0<=t.r/\t.r<n)
structure Hd.ok (H:Hd):Prop where
 rs:H.rs.length=H.cF.length
 cF:∀s∈H.cF,∀f∈s.2,WT H.rs.length f.ty
 globals:∀f∈H.globals,WT H.rs.length f.ty
 sigs:∀s∈H.sigs,WT H.rs.length s.br/\∀f∈s.ps,WT H.rs.length f.ty
theorem Ri{n:Nat}:WT n T0:=⟨Int.le_refl _,by decide,λh=>by cases h⟩
theorem Vm{n:Nat}:WT n tI:=⟨Int.le_refl _,by decide,λh=>by cases h⟩
theorem Rj{n:Nat}:WT n tB:=⟨Int.le_refl _,by decide,λh=>by cases h⟩
theorem mF(l:List (List UInt8))(s:List UInt8)(d:Int):WT l.length (dh l s d).1:=by
 unfold dh
 split
 ·exact Ri
 ·rename_i h
  have hd:0<=d/\d<=3:=by omega
  split
  ·exact⟨hd.1,hd.2,λh=>by cases h⟩
  split
  ·exact⟨hd.1,hd.2,λh=>by cases h⟩
  split
  ·exact Ri
  ·rename_i h
   refine⟨hd.1,hd.2,λ_=>?_⟩
   rcases Vf l s with e|⟨k,e,hk⟩
   ·rw[e]at h;exact absurd (by decide) h
   ·simp only;rw[e];omega
theorem xQ{s:List UInt8}:∀{l:List Vd}{i k:Nat}{t:T3},ij s i l=some (k,t)->∃f∈l,f.ty=t
 |[],_,_,_,h=>by cases h
 |f::l,i,k,t,h=>by
  unfold ij at h
  split at h
  ·cases h;exact⟨f,List.mem_cons_self,rfl⟩
  ·obtain⟨g,h1,h2⟩:=xQ h
   exact⟨g,List.mem_cons_of_mem _ h1,h2⟩
theorem EB{s:List UInt8}:∀{l:List Sg}{i k:Nat}{t:Sg},oB s i l=some (k,t)->t∈l
 |[],_,_,_,h=>by cases h
 |f::l,i,k,t,h=>by
  unfold oB at h
  split at h
  ·cases h;exact List.mem_cons_self
  ·exact List.mem_cons_of_mem _ (EB h)
theorem p7{n:Nat}{b:Bool}{t u:T3}{r:Int}(h:GK b t=some (u,r))(ht:b=true->WT n t):WT n u:=by
 cases b with
 |false=>cases h
 |true=>cases h;exact ht rfl
theorem Y7{H:Hd}{V:List Vd}{s:List UInt8}{t:T3}{r:Int}(hH:H.ok)(hV:∀f∈V,WT H.rs.length f.ty)(h:yX H V s=some (t,r)):WT H.rs.length t:=by
 unfold yX at h
 split at h
 ·rename_i k u e
  cases h
  obtain⟨f,h1,h2⟩:=xQ e
  rw[<-h2];exact hV f h1
 ·split at h
  ·rename_i k u e
   cases h
   obtain⟨f,h1,h2⟩:=xQ e
   rw[<-h2];exact hH.globals f h1
  ·cases h
theorem Y8{H:Hd}{V:List Vd}{k:Int}{nm on:List UInt8}{od:Int}{ks:List E}{t:T3}{r:Int}(hH:H.ok)(hV:∀f∈V,WT H.rs.length f.ty)(hk:∀e∈ks,WT H.rs.length e.ty)(h:oO H V k nm on od ks=some (t,r)):WT H.rs.length t:=by
 have h1:WT H.rs.length (vn ks):=by
  unfold vn
  split
  ·exact hk _ List.mem_cons_self
  ·exact Ri
 have Wu:=mF H.rs on od
 unfold oO at h
 by_cases c1:k=1\/k=11
 ·rw[if_pos c1]at h;cases h;exact Vm
 rw[if_neg c1]at h
 by_cases c2:k=2
 ·rw[if_pos c2]at h;cases h;exact Rj
 rw[if_neg c2]at h
 by_cases c3:k=3
 ·rw[if_pos c3]at h;exact p7 h λ_=>Wu
 rw[if_neg c3]at h
 by_cases c4:k=4
 ·rw[if_pos c4]at h;exact Y7 hH hV h
 rw[if_neg c4]at h
 by_cases c5:k=5
 ·rw[if_pos c5]at h
  unfold yY at h
  split at h
  ·split at h
   ·rename_i s hs
    split at h
    ·rename_i i u e
     cases h
     obtain⟨f,h2,h3⟩:=xQ e
     rw[<-h3]
     exact hH.cF _ (List.mem_of_getElem? hs) f h2
    ·cases h
   ·cases h
  ·cases h
 rw[if_neg c5]at h
 by_cases c6:k=6
 ·rw[if_pos c6]at h
  refine p7 h λhb=>?_
  simp only[Bool.and_eq_true,decide_eq_true_eq]at hb
  exact⟨by simp only;omega,by have:=h1.2.1;simp only;omega,h1.2.2⟩
 rw[if_neg c6]at h
 by_cases c7:k=7
 ·rw[if_pos c7]at h
  unfold CE at h
  split at h
  ·rename_i i s e
   split at h
   ·cases h;exact(hH.sigs s (EB e)).1
   ·cases h
  ·cases h
 rw[if_neg c7]at h
 by_cases c8:k=8
 ·rw[if_pos c8]at h;exact p7 h λ_=>Wu
 rw[if_neg c8]at h
 by_cases c9:k=9
 ·rw[if_pos c9]at h
  refine p7 h λhb=>?_
  simp only[Bool.and_eq_true,decide_eq_true_eq]at hb
  exact⟨by have:=Wu.1;simp only;omega,by simp only;omega,Wu.2.2⟩
 rw[if_neg c9]at h
 by_cases Ab:k=10
 ·rw[if_pos Ab]at h;exact p7 h λ_=>Vm
 rw[if_neg Ab]at h
 by_cases Il:k=12
 ·rw[if_pos Il]at h;exact p7 h λ_=>Vm
 rw[if_neg Il]at h
 by_cases L7:k=13
 ·rw[if_pos L7]at h;exact p7 h λ_=>Rj
 rw[if_neg L7]at h
 unfold FJ at h
 split at h
 ·exact p7 h λ_=>Vm
 split at h
 ·exact p7 h λ_=>Rj
 split at h
 ·exact p7 h λ_=>Rj
 ·exact p7 h λ_=>Rj
theorem lp{H:Hd}{V:List Vd}{e:E}{l:List E}{ys:List E}(h:lW H V (e::l)=.ok ys):∃y zs,vo H V e=.ok y/\y.ty≠T0/\lW H V l=.ok zs/\ys=y::zs:=by
 unfold lW at h
 split at h
 ·cases h
 ·rename_i y hy
  split at h
  ·cases h
  ·rename_i ht
   split at h
   ·cases h
   ·rename_i zs hz
    cases h
    exact⟨y,zs,hy,ht,hz,rfl⟩
theorem qE{H:Hd}{V:List Vd}{P:E->Prop}:∀{l ys:List E},lW H V l=.ok ys->(∀e∈l,∀y,vo H V e=.ok y->P y)->∀y∈ys,P y
 |[],ys,h,_=>by
  unfold lW at h
  cases h
  simp
 |e::l,ys,h,hp=>by
  obtain⟨y,zs,h1,_,h2,rfl⟩:=lp h
  intro z hz
  rcases List.mem_cons.1 hz with e1|e1
  ·subst e1;exact hp e List.mem_cons_self _ h1
  ·exact qE h2 (λe he=>hp e (List.mem_cons_of_mem _ he)) z e1
theorem yZ{H:Hd}{V:List Vd}{e y:E}(h:vo H V e=.ok y):∃ks t r,dY e.k e.n e.az.length=true/\lW H V e.az=.ok ks/\oO H V e.k e.nm e.on e.od ks=some (t,r)/\y=.mk e.k (lR e.k e.n) (gx e.k e.nm) (g8 e.k e.on) (hJ e.k e.od) ks e.a t r:=by
 obtain⟨k,n,nm,on,od,az,a,ty,cN⟩:=e
 unfold vo at h
 split at h
 ·rename_i hk
  split at h
  ·cases h
  ·rename_i ks oy
   split at h
   ·cases h
   ·rename_i t r ht
    cases h
    exact⟨ks,t,r,hk,oy,ht,rfl⟩
 ·cases h
theorem Y9{H:Hd}{V:List Vd}(hH:H.ok)(hV:∀f∈V,WT H.rs.length f.ty)(e:E):∀y,vo H V e=.ok y->WT H.rs.length y.ty:=by
 induction e using E.vp with
 |_ e ih=>
  intro y h
  obtain⟨ks,t,r,_,h2,h3,rfl⟩:=yZ h
  exact Y8 hH hV (qE h2 ih) h3
theorem vq{H:Hd}{V:List Vd}:∀{l ys:List E},lW H V l=.ok ys->ys.length=l.length
 |[],ys,h=>by unfold lW at h;cases h;rfl
 |e::l,ys,h=>by
  obtain⟨y,zs,_,_,h2,rfl⟩:=lp h
  simp[vq h2]
theorem Ks{k n:Int}{m:Nat}(h:dY k n m=true):dY k (lR k n) m=true:=by
 unfold dY lR at *
 split
 ·rename_i c;rw[if_pos c]at h;exact h
 ·rename_i c
  rw[if_neg c]at h
  split
  ·rename_i c2;rw[if_pos c2]at h;rw[if_pos (.inr c2)];exact h
  ·rename_i c2;rw[if_neg c2]at h;exact h
theorem Rk{H:Hd}{V:List Vd}{k:Int}{nm on:List UInt8}{od:Int}{ks:List E}:oO H V k (gx k nm) (g8 k on) (hJ k od) ks=oO H V k nm on od ks:=by
 unfold oO
 by_cases c3:k=3
 ·simp[g8,hJ,c3]
 by_cases c4:k=4
 ·simp[gx,c4]
 by_cases c5:k=5
 ·simp[gx,c5]
 by_cases c7:k=7
 ·simp[gx,c7]
 by_cases c8:k=8
 ·simp[g8,hJ,c8]
 by_cases c9:k=9
 ·simp[g8,hJ,c9]
 simp only[if_neg c3,if_neg c4,if_neg c5,if_neg c7,if_neg c8,if_neg c9]
end lV
namespace lV
open Ax Go V7 kL
mutual
def Sm.sz:Sm->Nat
 |.mk _ _ _ _ es bd el _ _=>1+E.eA es+Sm.eA bd+Sm.eA el
def Sm.eA:List Sm->Nat
 |[]=>0
 |s::l=>Sm.sz s+Sm.eA l
end
theorem Sm.Kr(s:Sm):0<Sm.sz s:=by cases s;simp only[Sm.sz];omega
theorem Sm.fF:∀l:List Sm,l.length<=Sm.eA l
 |[]=>Nat.le_refl _
 |e::l=>by
  have:=Sm.fF l
  have:=Sm.Kr e
  simp only[Sm.eA,List.length_cons]
  omega
theorem Sm.jj:∀{l:List Sm}{e:Sm},e∈l->Sm.sz e<=Sm.eA l
 |[],_,h=>by cases h
 |x::l,e,h=>by
  rcases List.mem_cons.1 h with h|h
  ·subst h;simp only[Sm.eA];omega
  ·have:=Sm.jj h
   simp only[Sm.eA];omega
theorem Sm.nV(s:Sm):Sm.sz s=1+E.eA s.es+Sm.eA s.bd+Sm.eA s.el:=by cases s;rfl
theorem Za(H:Hd)(bO:Bool)(br:T3)(V:List Vd)(k:Int)(nm on:List UInt8)(od:Int)(es:List E)(bd el:List Sm)(a cN:Int):wQ H bO br V (.mk k nm on od es bd el a cN)=if ee bO k es then
   match j5 H k on od with
   |none=>.error a
   |some t=>match Aa H V k es with
    |.error x=>.error x
    |.ok ys=>match j8 H br V k nm ys t with
     |none=>.error a
     |some (r,W)=>if k=5 then
       match kF H bO br W bd with
       |.error x=>.error x
       |.ok (b,W1)=>match kF H bO br W1 el with
        |.error x=>.error x
        |.ok (c,W2)=>.ok (.mk k (cg k nm) (bH k on) (bJ k od) ys b c a r,W2)
      else if k=6 then
       match kF H bO br W bd with
       |.error x=>.error x
       |.ok (b,W1)=>.ok (.mk k (cg k nm) (bH k on) (bJ k od) ys b [] a r,W1)
      else .ok (.mk k (cg k nm) (bH k on) (bJ k od) ys [] [] a r,W)
  else .error a:=by
 (conv=>lhs;unfold wQ)<;>rfl
theorem nk(H:Hd)(bO:Bool)(br:T3)(V:List Vd)(s:Sm):wQ H bO br V s=if ee bO s.k s.es then
   match j5 H s.k s.on s.od with
   |none=>.error s.a
   |some t=>match Aa H V s.k s.es with
    |.error x=>.error x
    |.ok ys=>match j8 H br V s.k s.nm ys t with
     |none=>.error s.a
     |some (r,W)=>if s.k=5 then
       match kF H bO br W s.bd with
       |.error x=>.error x
       |.ok (b,W1)=>match kF H bO br W1 s.el with
        |.error x=>.error x
        |.ok (c,W2)=>.ok (.mk s.k (cg s.k s.nm) (bH s.k s.on) (bJ s.k s.od) ys b c s.a r,W2)
      else if s.k=6 then
       match kF H bO br W s.bd with
       |.error x=>.error x
       |.ok (b,W1)=>.ok (.mk s.k (cg s.k s.nm) (bH s.k s.on) (bJ s.k s.od) ys b [] s.a r,W1)
      else .ok (.mk s.k (cg s.k s.nm) (bH s.k s.on) (bJ s.k s.od) ys [] [] s.a r,W)
  else .error s.a:=by
 obtain⟨k,nm,on,od,es,bd,el,a,cN⟩:=s
 exact Za H bO br V k nm on od es bd el a cN
theorem CF{H:Hd}{bO:Bool}{br:T3}{V X:List Vd}{s y:Sm}(h:wQ H bO br V s=.ok (y,X)):∃t ys r W,ee bO s.k s.es=true/\j5 H s.k s.on s.od=some t/\Aa H V s.k s.es=.ok ys/\j8 H br V s.k s.nm ys t=some (r,W)/\
  (s.k=5/\(∃b W1 c,kF H bO br W s.bd=.ok (b,W1)/\kF H bO br W1 s.el=.ok (c,X)/\y=.mk s.k (cg s.k s.nm) (bH s.k s.on) (bJ s.k s.od) ys b c s.a r)\/
   s.k=6/\(∃b,kF H bO br W s.bd=.ok (b,X)/\y=.mk s.k (cg s.k s.nm) (bH s.k s.on) (bJ s.k s.od) ys b [] s.a r)\/
   s.k≠5/\s.k≠6/\X=W/\y=.mk s.k (cg s.k s.nm) (bH s.k s.on) (bJ s.k s.od) ys [] [] s.a r):=by
 rw[nk]at h
 split at h
 ·rename_i hf
  split at h
  ·cases h
  ·rename_i t ht
   split at h
   ·cases h
   ·rename_i ys Tl
    split at h
    ·cases h
    ·rename_i r W cm
     refine⟨t,ys,r,W,hf,ht,Tl,cm,?_⟩
     split at h
     ·rename_i h5
      split at h
      ·cases h
      ·rename_i b W1 hb
       split at h
       ·cases h
       ·rename_i c W2 hc
        cases h
        exact .inl ⟨h5,b,W1,c,hb,hc,rfl⟩
     ·rename_i h5
      split at h
      ·rename_i h6
       split at h
       ·cases h
       ·rename_i b W1 hb
        cases h
        exact .inr (.inl ⟨h6,b,hb,rfl⟩)
      ·rename_i h6
       cases h
       exact .inr (.inr ⟨h5,h6,rfl,rfl⟩)
 ·cases h
theorem uq{H:Hd}{bO:Bool}{br:T3}{V X:List Vd}{s:Sm}{l:List Sm}{zs:List Sm}(h:kF H bO br V (s::l)=.ok (zs,X)):∃y W ys,wQ H bO br V s=.ok (y,W)/\kF H bO br W l=.ok (ys,X)/\zs=y::ys:=by
 unfold kF at h
 split at h
 ·cases h
 ·rename_i y W hy
  split at h
  ·cases h
  ·rename_i ys X' hz
   cases h
   exact⟨y,W,ys,hy,hz,rfl⟩
theorem Im{H:Hd}{br:T3}{V W:List Vd}{k:Int}{nm:List UInt8}{es:List E}{t:T3}{r:Int}(h:j8 H br V k nm es t=some (r,W)):W=V\/(k=1\/k=2)/\W=V++[⟨nm,t⟩]:=by
 unfold j8 at h
 split at h
 ·rename_i c
  split at h
  ·cases h
  ·cases h;exact .inr ⟨.inl c,rfl⟩
 split at h
 ·rename_i c
  split at h
  ·split at h
   ·cases h
   ·cases h;exact .inr ⟨.inr c,rfl⟩
  ·cases h
 all_goals left
 split at h
 ·split at h
  ·split at h<;>cases h;rfl
  ·cases h
 split at h
 ·split at h<;>cases h;rfl
 split at h
 ·split at h<;>cases h;rfl
 split at h
 ·split at h<;>cases h;rfl
 split at h
 ·split at h<;>cases h;rfl
 ·cases h;rfl
theorem Vn{H:Hd}{k:Int}{on:List UInt8}{od:Int}{t:T3}(h:j5 H k on od=some t):WT H.rs.length t:=by
 unfold j5 at h
 split at h
 ·split at h<;>cases h;exact mF _ _ _
 ·cases h;exact Ri
theorem xR{H:Hd}{bO:Bool}{br:T3}:∀{l ys:List Sm}{V X:List Vd},(∀s∈l,∀V y W,(∀f∈V,WT H.rs.length f.ty)->wQ H bO br V s=.ok (y,W)->(∀f∈W,WT H.rs.length f.ty)/\W.length<=V.length+Sm.sz s)->
  (∀f∈V,WT H.rs.length f.ty)->kF H bO br V l=.ok (ys,X)->(∀f∈X,WT H.rs.length f.ty)/\X.length<=V.length+Sm.eA l
 |[],ys,V,X,_,hV,h=>by unfold kF at h;cases h;exact⟨hV,by simp[Sm.eA]⟩
 |s::l,ys,V,X,hp,hV,h=>by
  obtain⟨y,W,zs,h1,h2,rfl⟩:=uq h
  obtain⟨a1,a2⟩:=hp s List.mem_cons_self V y W hV h1
  obtain⟨b1,b2⟩:=xR (λs hs=>hp s (List.mem_cons_of_mem _ hs)) a1 h2
  exact⟨b1,by simp only[Sm.eA];omega⟩
theorem Ku{H:Hd}{bO:Bool}{br:T3}(s:Sm):∀V y W,(∀f∈V,WT H.rs.length f.ty)->wQ H bO br V s=.ok (y,W)->(∀f∈W,WT H.rs.length f.ty)/\W.length<=V.length+Sm.sz s:=by
 induction s using Sm.vp with
 |_ s sZ tu=>
  intro V y X hV h
  obtain⟨t,ys,r,W,hf,ht,Tl,cm,hh⟩:=CF h
  have hW:(∀f∈W,WT H.rs.length f.ty)/\W.length<=V.length+1:=by
   rcases Im cm with e|⟨_,e⟩
   ·subst e;exact⟨hV,by omega⟩
   ·subst e
    refine⟨λf hf=>?_,by simp⟩
    rcases List.mem_append.1 hf with h|h
    ·exact hV f h
    ·rw[List.mem_singleton.1 h];exact Vn ht
  have hz:=Sm.nV s
  rcases hh with⟨_,b,W1,c,hb,hc,_⟩|⟨_,b,hb,_⟩|⟨_,_,rfl,_⟩
  ·obtain⟨a1,a2⟩:=xR sZ hW.1 hb
   obtain⟨b1,b2⟩:=xR tu a1 hc
   exact⟨b1,by omega⟩
  ·obtain⟨a1,a2⟩:=xR sZ hW.1 hb
   exact⟨a1,by omega⟩
  ·exact⟨hW.1,by omega⟩
theorem Rl{H:Hd}{bO:Bool}{br:T3}{l ys:List Sm}{V X:List Vd}(hV:∀f∈V,WT H.rs.length f.ty)(h:kF H bO br V l=.ok (ys,X)):(∀f∈X,WT H.rs.length f.ty)/\X.length<=V.length+Sm.eA l:=
 xR (λs _=>Ku s) hV h
theorem L8{H:Hd}{V:List Vd}{e y:E}(h:vo H V e=.ok y):y.k=e.k:=by
 obtain⟨ks,t,r,_,_,_,rfl⟩:=yZ h;rfl
theorem mG{H:Hd}{V:List Vd}{bO:Bool}{k:Int}{l ys:List E}(h:lW H V l=.ok ys)(hf:ee bO k l=true):ee bO k ys=true:=by
 have hl:=vq h
 unfold ee at hf ⊢
 rw[hl]
 match l,hl,hf,h with
 |[],hl,hf,_=>rw[List.length_nil]at hl;rw[List.eq_nil_of_length_eq_zero hl];exact hf
 |[e],hl,hf,h=>
  obtain⟨y,zs,h1,_,h2,rfl⟩:=lp h
  unfold lW at h2;cases h2
  simpa [L8 h1] using hf
 |[e,e2],hl,hf,h=>
  obtain⟨y,zs,h1,_,h2,rfl⟩:=lp h
  obtain⟨y2,zs2,h3,_,h4,rfl⟩:=lp h2
  unfold lW at h4;cases h4
  simpa [L8 h1] using hf
 |e::e2::e3::l,hl,hf,h=>
  obtain⟨y,zs,h1,_,h2,rfl⟩:=lp h
  obtain⟨y2,zs2,h3,_,h4,rfl⟩:=lp h2
  obtain⟨y3,zs3,h5,_,h6,rfl⟩:=lp h4
  simp at hf
theorem qV{H:Hd}{V:List Vd}{k:Int}{es:List E}(h:k≠9):Aa H V k es=lW H V es:=by unfold Aa;rw[if_neg h]
theorem Rm{H:Hd}{V:List Vd}{e:E}:Aa H V 9 [e]=match vo H V e with|.error x=>.error x|.ok y=>.ok [y]:=by unfold Aa;rfl
theorem Kv{bO:Bool}{es:List E}(h:ee bO 9 es=true):∃e,es=[e]/\e.k=7:=by
 unfold ee at h
 match es,h with
 |[],h=>cases h
 |[e],h=>exact⟨e,rfl,by simpa using h⟩
 |_::_::_,h=>cases h
theorem Rn{H:Hd}{V:List Vd}{bO:Bool}{k:Int}{l ys:List E}(h:Aa H V k l=.ok ys)(hf:ee bO k l=true):ee bO k ys=true:=by
 by_cases h9:k=9
 ·subst h9
  obtain⟨e,rfl,he⟩:=Kv hf
  rw[Rm]at h
  split at h
  ·cases h
  ·rename_i y hy
   cases h
   unfold ee
   simpa [L8 hy] using he
 ·rw[qV h9]at h;exact mG h hf
theorem mH{H:Hd}{br:T3}{V:List Vd}{k:Int}{nm:List UInt8}{es:List E}{t:T3}:j8 H br V k (cg k nm) es t=j8 H br V k nm es t:=by
 unfold j8
 by_cases h1:k=1
 ·simp[cg,h1]
 by_cases h2:k=2
 ·simp[cg,h2]
 by_cases h3:k=3
 ·simp[cg,h3]
 simp only[if_neg h1,if_neg h2,if_neg h3]
theorem FK{H:Hd}{V:List Vd}:∀{l ys:List E},(∀e∈l,∀y,vo H V e=.ok y->E.sz y=E.sz e)->lW H V l=.ok ys->E.eA ys=E.eA l
 |[],ys,_,h=>by unfold lW at h;cases h;rfl
 |e::l,ys,hp,h=>by
  obtain⟨y,zs,h1,_,h2,rfl⟩:=lp h
  simp only[E.eA,hp e List.mem_cons_self y h1,FK (λe he=>hp e (List.mem_cons_of_mem _ he)) h2]
theorem Ro{H:Hd}{V:List Vd}(e:E):∀y,vo H V e=.ok y->E.sz y=E.sz e:=by
 induction e using E.vp with
 |_ e ih=>
  intro y h
  obtain⟨ks,t,r,_,h2,_,rfl⟩:=yZ h
  rw[E.sK e]
  simp only[E.sz,FK ih h2]
theorem Zb{H:Hd}{V:List Vd}{l ys:List E}(h:lW H V l=.ok ys):E.eA ys=E.eA l:=FK (λe _=>Ro e) h
theorem Zc{H:Hd}{V:List Vd}{bO:Bool}{k:Int}{l ys:List E}(h:Aa H V k l=.ok ys)(hf:ee bO k l=true):E.eA ys=E.eA l:=by
 by_cases h9:k=9
 ·subst h9
  obtain⟨e,rfl,he⟩:=Kv hf
  rw[Rm]at h
  split at h
  ·cases h
  ·rename_i y hy
   cases h
   simp only[E.eA,Ro e y hy]
 ·rw[qV h9]at h
  exact Zb h
theorem xS{H:Hd}{bO:Bool}{br:T3}:∀{l ys:List Sm}{V X:List Vd},(∀s∈l,∀V y W,wQ H bO br V s=.ok (y,W)->Sm.sz y<=Sm.sz s)->kF H bO br V l=.ok (ys,X)->Sm.eA ys<=Sm.eA l
 |[],ys,V,X,_,h=>by unfold kF at h;cases h;exact Nat.le_refl _
 |s::l,ys,V,X,hp,h=>by
  obtain⟨y,W,zs,h1,h2,rfl⟩:=uq h
  have a:=hp s List.mem_cons_self V y W h1
  have b:=xS (λs hs=>hp s (List.mem_cons_of_mem _ hs)) h2
  simp only[Sm.eA];omega
theorem Zd{H:Hd}{bO:Bool}{br:T3}(s:Sm):∀V y W,wQ H bO br V s=.ok (y,W)->Sm.sz y<=Sm.sz s:=by
 induction s using Sm.vp with
 |_ s sZ tu=>
  intro V y X h
  obtain⟨t,ys,r,W,hf,ht,Tl,cm,hh⟩:=CF h
  have e:=Zc Tl hf
  have hz:=Sm.nV s
  rcases hh with⟨h5,b,W1,c,hb,hc,rfl⟩|⟨h6,b,hb,rfl⟩|⟨h5,h6,rfl,rfl⟩
  ·have b2:=xS sZ hb
   have c2:=xS tu hc
   simp only[Sm.sz];omega
  ·have b2:=xS sZ hb
   simp only[Sm.sz,Sm.eA];omega
  ·simp only[Sm.sz,Sm.eA];omega
theorem Ze{H:Hd}{bO:Bool}{br:T3}{l ys:List Sm}{V X:List Vd}(h:kF H bO br V l=.ok (ys,X)):Sm.eA ys<=Sm.eA l:=xS (λs _=>Zd s) h
theorem xT{H:Hd}:∀{ss:List Sg}{fs:List Fc}{bs:List Bd},ss.length=fs.length->q8 H ss fs=.ok bs->bs.length=fs.length
 |[],[],bs,_,h=>by unfold q8 at h;cases h;rfl
 |s::ss,f::fs,bs,hl,h=>by
  unfold q8 at h
  split at h
  ·cases h
  ·split at h
   ·cases h
   ·rename_i l BE
    cases h
    simp[xT (by simpa using hl) BE]
 |[],_::_,_,hl,_=>by cases hl
 |_::_,[],_,hl,_=>by cases hl
theorem EC{H:Hd}{n:Nat}:∀{ss:List Sg}{fs:List Fc}{bs:List Bd},q8 H ss fs=.ok bs->(∀f∈fs,Sm.eA f.body<=n)->∀b∈bs,Sm.eA b.code<=n
 |[],fs,bs,h,_=>by unfold q8 at h;cases h;simp
 |_::_,[],bs,h,_=>by unfold q8 at h;cases h;simp
 |s::ss,f::fs,bs,h,hp=>by
  unfold q8 at h
  split at h
  ·cases h
  ·rename_i c W hc
   split at h
   ·cases h
   ·rename_i l BE
    cases h
    intro b hb
    rcases List.mem_cons.1 hb with e|e
    ·subst e
     have:=Ze hc
     have:=hp f List.mem_cons_self
     simp only;omega
    ·exact EC BE (λf hf=>hp f (List.mem_cons_of_mem _ hf)) b e
theorem Io{H:Hd}(hH:H.ok){n:Nat}:∀{ss:List Sg}{fs:List Fc}{bs:List Bd},q8 H ss fs=.ok bs->(∀s∈ss,∀f∈s.ps,WT H.rs.length f.ty)->(∀s∈ss,s.ps.length<=n)->(∀f∈fs,Sm.eA f.body<=n)->∀b∈bs,b.vars.length<=n+n
 |[],fs,bs,h,_,_,_=>by unfold q8 at h;cases h;simp
 |_::_,[],bs,h,_,_,_=>by unfold q8 at h;cases h;simp
 |s::ss,f::fs,bs,h,hs,hp,hq=>by
  unfold q8 at h
  split at h
  ·cases h
  ·rename_i c W hc
   split at h
   ·cases h
   ·rename_i l BE
    cases h
    intro b hb
    rcases List.mem_cons.1 hb with e|e
    ·subst e
     have:=(Rl (hs s List.mem_cons_self) hc).2
     have:=hp s List.mem_cons_self
     have:=hq f List.mem_cons_self
     simp only;omega
    ·exact Io hH BE (λs h=>hs s (List.mem_cons_of_mem _ h)) (λs h=>hp s (List.mem_cons_of_mem _ h)) (λf h=>hq f (List.mem_cons_of_mem _ h)) b e
end lV
namespace lV
open Ax Go V7 kL
theorem y7{k n:Int}{nm on:List UInt8}{od:Int}{ks:List E}{a:Int}:E.sz (Em k n nm on od ks a)=1+E.eA ks:=rfl
theorem oP:E.eA []=0:=rfl
theorem j6{e:E}:E.eA [e]=E.sz e:=by simp[E.eA]
theorem FL{e f:E}:E.eA [e,f]=E.sz e+E.sz f:=by simp[E.eA]
theorem L9:∀l r:List E,E.eA (l++r)=E.eA l+E.eA r
 |[],r=>by simp[E.eA]
 |e::l,r=>by
  have:=L9 l r
  simp only[List.cons_append,E.eA];omega
theorem Ma:∀l r:List Sm,Sm.eA (l++r)=Sm.eA l+Sm.eA r
 |[],r=>by simp[Sm.eA]
 |e::l,r=>by
  have:=Ma l r
  simp only[List.cons_append,Sm.eA];omega
theorem mI:Sm.eA []=0:=rfl
theorem Vo{e:Sm}:Sm.eA [e]=Sm.sz e:=by simp[Sm.eA]
theorem CG{k:Int}{nm on:List UInt8}{od:Int}{es:List E}{bd el:List Sm}{a cN:Int}:Sm.sz (.mk k nm on od es bd el a cN)=1+E.eA es+Sm.eA bd+Sm.eA el:=rfl
theorem iJ{q:RQ}:(ay q).at_=q.at_+1:=rfl
theorem Vp{q:RQ}{d:Int}:(pS q d).at_=q.at_:=rfl
theorem Vq{q:RQ}{d:Int}:(pS q d).fe=q.fe:=rfl
theorem oQ{T:List Tk}{q r:RQ}(w:sI T q r)(f:r.fe=0):q.at_+1<=r.at_:=by
 rcases w with w|⟨_,w⟩
 ·exact absurd f w
 ·exact w
theorem Ip(T:List Tk):∀f:Nat,(∀n q e r,fA T f n q=some (e,r)->r.fe=0->E.sz e+q.at_<=r.at_)/\(∀n a q e r,jg T f n a q=some (e,r)->r.fe=0->E.sz e+q.at_<=r.at_+E.sz a)/\
  (∀q e r,jW T f q=some (e,r)->r.fe=0->E.sz e+q.at_<=r.at_)/\(∀a q e r,eZ T f a q=some (e,r)->r.fe=0->E.sz e+q.at_<=r.at_+E.sz a)/\(∀q e r,kB T f q=some (e,r)->r.fe=0->E.sz e+q.at_<=r.at_)/\
  (∀q e r,jX T f q=some (e,r)->r.fe=0->E.sz e+q.at_<=r.at_)/\(∀a q e r,k6 T f a q=some (e,r)->r.fe=0->E.sz e+q.at_<=r.at_)/\(∀q e r,oA T f q=some (e,r)->r.fe=0->E.eA e+q.at_<=r.at_)/\
  (∀l q e r,nU T f l q=some (e,r)->r.fe=0->E.eA e+q.at_<=r.at_+E.eA l)
 |0=>by simp[fA,jg,jW,eZ,kB,jX,k6,oA,nU]
 |f+1=>by
  obtain⟨hE,hS,hU,hB,hI,hF,hN,hA,hM⟩:=Ip T f
  obtain⟨gE,gS,gU,gB,gI,gF,gN,gA,gM⟩:=kE T f
  refine⟨λn q e r h fr=>?_,λn a q e r h fr=>?_,λq e r h fr=>?_,λa q e r h fr=>?_,λq e r h fr=>?_,λq e r h fr=>?_,λa q e r h fr=>?_,λq e r h fr=>?_,λl q e r h fr=>?_⟩
  ·unfold fA at h
   split at h
   ·exact hU _ _ _ h fr
   ·obtain⟨⟨x1,x2⟩,h1,h2⟩:=Option.bind_eq_some_iff.1 h
    have f2:=(gS _ _ _ _ _ h2).mS fr
    have:=hE _ _ _ _ h1 f2
    have:=hS _ _ _ _ _ h2 fr
    (try dsimp only at *);omega
  ·unfold jg at h
   split at h
   ·rename_i c
    obtain⟨⟨x1,x2⟩,h1,h2⟩:=Option.bind_eq_some_iff.1 h
    have f2:=(gS _ _ _ _ _ h2).mS fr
    have a1:=hE _ _ _ _ h1 f2
    have a2:=hS _ _ _ _ _ h2 fr
    rw[y7,FL]at a2
    rw[iJ]at a1
    (try dsimp only at *);omega
   ·cases h;omega
  ·unfold jW at h
   split at h
   ·obtain⟨⟨x1,x2⟩,h1,h2⟩:=Option.bind_eq_some_iff.1 h
    cases h2
    rw[Vq]at fr
    have a1:=hE _ _ _ _ h1 fr
    have a2:=oQ jP ((gE _ _ _ _ h1).mS fr)
    rw[y7,j6,Vp]
    (try dsimp only at *);omega
   ·obtain⟨⟨x1,x2⟩,h1,h2⟩:=Option.bind_eq_some_iff.1 h
    have f2:=(gB _ _ _ _ h2).mS fr
    have:=hF _ _ _ h1 f2
    have:=hB _ _ _ _ h2 fr
    (try dsimp only at *);omega
  ·unfold eZ at h
   split at h
   ·rename_i c
    have a1:=hB _ _ _ _ h fr
    rw[y7,j6]at a1
    have a2:=(gD (T:=T) (q:=ay q)).le
    rw[iJ]at a2
    omega
   ·split at h
    ·obtain⟨⟨x1,x2⟩,h1,h2⟩:=Option.bind_eq_some_iff.1 h
     have f2:=(gB _ _ _ _ h2).mS fr
     have f3:=(cP (T:=T) (q:=x2) (s:=[93])).mS f2
     have a1:=hE _ _ _ _ h1 f3
     have a2:=oQ jP ((gE _ _ _ _ h1).mS f3)
     have a3:=hB _ _ _ _ h2 fr
     have a4:=(cP (T:=T) (q:=x2) (s:=[93])).le
     rw[y7,FL]at a3
     (try dsimp only at *);omega
    ·cases h;omega
  ·unfold kB at h
   obtain⟨⟨x1,x2⟩,h1,h2⟩:=Option.bind_eq_some_iff.1 h
   cases h2
   have f3:=(cP (T:=T) (q:=x2) (s:=[41])).mS fr
   have a1:=hE _ _ _ _ h1 f3
   have a2:=oQ jP ((gE _ _ _ _ h1).mS f3)
   have a4:=(cP (T:=T) (q:=x2) (s:=[41])).le
   (try dsimp only at *);omega
  ·unfold jX at h
   split at h
   ·cases h;rw[y7,oP,iJ];omega
   split at h
   ·cases h;rw[y7,oP,iJ];omega
   split at h
   ·cases h
    have:=(mB (T:=T) (q:=ay q)).le
    rw[iJ]at this
    rw[y7,oP];omega
   split at h
   ·have:=hN _ _ _ _ h fr
    rw[iJ]at this;omega
   split at h
   ·obtain⟨⟨x1,x2⟩,h1,h2⟩:=Option.bind_eq_some_iff.1 h
    cases h2
    have a1:=hI _ _ _ h1 fr
    rw[iJ]at a1
    rw[y7,j6]
    (try dsimp only at *);omega
   split at h
   ·cases h
    have a1:=((eR (T:=T) (q:=ay q) (s:=[40])).trans (cP (s:=[41]))).le
    rw[iJ]at a1
    rw[y7,oP];omega
   split at h
   ·exact hI _ _ _ h fr
   split at h
   ·obtain⟨⟨x1,x2⟩,h1,h2⟩:=Option.bind_eq_some_iff.1 h
    cases h2
    have a1:=hA _ _ _ h1 fr
    have a2:=oQ ni ((gA _ _ _ h1).mS fr)
    rw[y7]
    (try dsimp only at *);omega
   ·cases h
    have a2:=oQ ni fr
    rw[y7,oP];omega
  ·unfold k6 at h
   split at h
   ·obtain⟨⟨x1,x2⟩,h1,h2⟩:=Option.bind_eq_some_iff.1 h
    cases h2
    have a1:=hI _ _ _ h1 fr
    have a2:=((mB (T:=T) (q:=ay q)).trans (aN (s:=[93]))).le
    rw[iJ]at a2
    rw[y7,j6]
    (try dsimp only at *);omega
   ·cases h
    have a2:=oQ ni fr
    rw[y7,oP];omega
  ·unfold oA at h
   split at h
   ·cases h
    have a1:=((eR (T:=T) (q:=q) (s:=[40])).trans (cP (s:=[41]))).le
    rw[oP];omega
   ·obtain⟨⟨x1,x2⟩,h1,h2⟩:=Option.bind_eq_some_iff.1 h
    have f2:=(gM _ _ _ _ h2).mS fr
    have a1:=hE _ _ _ _ h1 f2
    have a2:=(eR (T:=T) (q:=q) (s:=[40])).le
    have a3:=hM _ _ _ _ h2 fr
    rw[j6]at a3
    (try dsimp only at *);omega
  ·unfold nU at h
   split at h
   ·obtain⟨⟨x1,x2⟩,h1,h2⟩:=Option.bind_eq_some_iff.1 h
    have f2:=(gM _ _ _ _ h2).mS fr
    have a1:=hE _ _ _ _ h1 f2
    rw[iJ]at a1
    have a3:=hM _ _ _ _ h2 fr
    rw[L9,j6]at a3
    (try dsimp only at *);omega
   ·cases h
    have a1:=(cP (T:=T) (q:=q) (s:=[41])).le
    omega
theorem kN{T:List Tk}{f n:Nat}{q r:RQ}{e:E}(h:fA T f n q=some (e,r))(fr:r.fe=0):E.sz e+q.at_<=r.at_:=(Ip T f).1 _ _ _ _ h fr
theorem Kw{T:List Tk}{f:Nat}{a:Int}{q r:RQ}{s:Sm}(h:nh T f a q=some (s,r))(fr:r.fe=0):Sm.sz s+q.at_<=r.at_:=by
 unfold nh at h
 obtain⟨⟨x1,x2⟩,h1,h2⟩:=Option.bind_eq_some_iff.1 h
 dsimp only at h2
 split at h2
 ·obtain⟨⟨y1,y2⟩,h3,h4⟩:=Option.bind_eq_some_iff.1 h2
  cases h4
  have f1:=(aN (T:=T) (q:=y2) (s:=[59])).mS fr
  have w:=oQ jx fr
  have a3:=kN h3 f1
  have f3:=(eF h3).mS f1
  have w2:=oQ jx f3
  have f4:=aN.mS f3
  by_cases c:x1.k=4\/x1.k=5\/x1.k=6
  ·rw[if_pos c]at w2 f4
   have a1:=kN h1 f4
   rw[if_pos c]at a3
   by_cases c4:x1.k=4
   ·rw[if_pos c4,CG,j6,mI];(try dsimp only at *);omega
   ·rw[if_neg c4,CG,FL,mI];(try dsimp only at *);omega
  ·rw[if_neg c]at f4
   exact absurd f4 (jw (by decide))
 ·cases h2
  have f1:=(aN).mS fr
  have w:=oQ jx fr
  by_cases c:fP T x2 [59]=true/\x1.k≠7
  ·rw[if_pos c]at f1
   exact absurd f1 (jw (by decide))
  ·rw[if_neg c]at f1 w
   have a1:=kN h1 f1
   rw[CG,j6,mI,if_neg c];(try dsimp only at *);omega
theorem CH(T:List Tk):∀f:Nat,(∀q s r,pV T f q=some (s,r)->r.fe=0->Sm.sz s+q.at_<=r.at_)/\(∀q s r,iD T f q=some (s,r)->r.fe=0->Sm.eA s+q.at_<=r.at_)/\
  (∀l q s r,kC T f l q=some (s,r)->r.fe=0->Sm.eA s+q.at_<=r.at_+Sm.eA l)
 |0=>by simp[pV,iD,kC]
 |f+1=>by
  obtain⟨hS,hB,hL⟩:=CH T f
  obtain⟨gS,gB,gL⟩:=lH T f
  refine⟨λq s r h fr=>?_,λq s r h fr=>?_,λl q s r h fr=>?_⟩
  ·unfold pV at h
   split at h
   ·cases h
    have:=((iE (T:=T) (q:=ay q)).trans (aN (s:=[59]))).le
    rw[iJ]at this
    rw[CG,oP,mI];omega
   split at h
   ·obtain⟨⟨x1,x2⟩,h1,h2⟩:=Option.bind_eq_some_iff.1 h
    cases h2
    have f1:=aN.mS fr
    have a1:=kN h1 f1
    have a2:=((iE (T:=T) (q:=ay q)).trans (aN (s:=[61]))).le
    have a3:=(aN (T:=T) (q:=x2) (s:=[59])).le
    rw[iJ]at a2
    rw[CG,j6,mI];(try dsimp only at *);omega
   split at h
   ·obtain⟨⟨x1,x2⟩,h1,h2⟩:=Option.bind_eq_some_iff.1 h
    obtain⟨⟨y1,y2⟩,h3,h4⟩:=Option.bind_eq_some_iff.1 h2
    dsimp only at h4
    split at h4
    ·rename_i d
     obtain⟨⟨z1,z2⟩,h5,h6⟩:=Option.bind_eq_some_iff.1 h4
     cases h6
     have f1:=(gB _ _ _ h5).1.mS fr
     have f2:y2.fe=0:=f1
     have f3:=(gB _ _ _ h3).1.mS f2
     have a1:=kN h1 f3
     have a2:=hB _ _ _ h3 f2
     have a3:=hB _ _ _ h5 fr
     rw[iJ]at a1 a3
     rw[CG,j6];(try dsimp only at *);omega
    ·cases h4
     have f3:=(gB _ _ _ h3).1.mS fr
     have a1:=kN h1 f3
     have a2:=hB _ _ _ h3 fr
     rw[iJ]at a1
     rw[CG,j6,mI];(try dsimp only at *);omega
   split at h
   ·obtain⟨⟨x1,x2⟩,h1,h2⟩:=Option.bind_eq_some_iff.1 h
    obtain⟨⟨y1,y2⟩,h3,h4⟩:=Option.bind_eq_some_iff.1 h2
    cases h4
    have f3:=(gB _ _ _ h3).1.mS fr
    have a1:=kN h1 f3
    have a2:=hB _ _ _ h3 fr
    rw[iJ]at a1
    rw[CG,j6,mI];(try dsimp only at *);omega
   split at h
   ·split at h
    ·cases h
     have a2:=(aN (T:=T) (q:=ay q) (s:=[59])).le
     rw[iJ]at a2
     rw[CG,oP,mI];omega
    ·obtain⟨⟨x1,x2⟩,h1,h2⟩:=Option.bind_eq_some_iff.1 h
     cases h2
     have f1:=aN.mS fr
     have a1:=kN h1 f1
     have a3:=(aN (T:=T) (q:=x2) (s:=[59])).le
     rw[iJ]at a1
     rw[CG,j6,mI];(try dsimp only at *);omega
   split at h
   ·obtain⟨⟨x1,x2⟩,h1,h2⟩:=Option.bind_eq_some_iff.1 h
    cases h2
    have f1:=aN.mS fr
    have a1:=kN h1 f1
    have a3:=(aN (T:=T) (q:=x2) (s:=[59])).le
    rw[iJ]at a1
    rw[CG,j6,mI];(try dsimp only at *);omega
   ·exact Kw h fr
  ·unfold iD at h
   have a1:=hL _ _ _ _ h fr
   have a2:=(eR (T:=T) (q:=q) (s:=[123])).le
   rw[mI]at a1
   omega
  ·unfold kC at h
   split at h
   ·obtain⟨⟨x1,x2⟩,h1,h2⟩:=Option.bind_eq_some_iff.1 h
    have f1:=(gL _ _ _ _ h2).mS fr
    have a1:=hS _ _ _ h1 f1
    have a2:=hL _ _ _ _ h2 fr
    rw[Ma,Vo]at a2
    (try dsimp only at *);omega
   ·cases h
    have a2:=(cP (T:=T) (q:=q) (s:=[125])).le
    omega
theorem CI{T:List Tk}{f:Nat}{q r:RQ}{s:List Sm}(h:iD T f q=some (s,r))(fr:r.fe=0):Sm.eA s+q.at_<=r.at_:=(CH T f).2.1 _ _ _ h fr
theorem NB{T:List Tk}{f:Nat}{q r:RQ}{s:Fc}(h:pW T f q=some (s,r))(fr:r.fe=0):Sm.eA s.body<=r.at_:=by
 unfold pW at h
 obtain⟨⟨x1,x2⟩,h1,h2⟩:=Option.bind_eq_some_iff.1 h
 dsimp only at h2
 split at h2
 ·obtain⟨⟨y1,y2⟩,h3,h4⟩:=Option.bind_eq_some_iff.1 h2
  cases h4
  have:=CI h3 fr
  (try dsimp only at *);omega
 ·obtain⟨⟨y1,y2⟩,h3,h4⟩:=Option.bind_eq_some_iff.1 h2
  cases h4
  have:=CI h3 fr
  (try dsimp only at *);omega
theorem nq{T:List Tk}:∀(f:Nat)(p:Pg)(q:RQ)(s:Pg)(r:RQ),jv T f p q=some (s,r)->q.at_<=T.length->(q.fe=0->∀g∈p.funcs,Sm.eA g.body<=T.length)->r.fe=0->∀g∈s.funcs,Sm.eA g.body<=T.length
 |0,_,_,_,_,h,_,_=>by simp[jv]at h
 |f+1,p,q,s,r,h,hq,hp=>by
  unfold jv at h
  split at h
  ·rename_i c
   split at h
   ·exact nq f _ _ _ _ h (eW.ub hq) λe=>absurd e (jw (by decide))
   split at h
   ·rename_i d
    obtain⟨⟨x1,x2⟩,h1,h2⟩:=Option.bind_eq_some_iff.1 h
    exact nq f _ _ _ _ h2 ((z8 h1).1.ub (bf d).2) λe=>hp c.1
   split at h
   ·rename_i d
    exact nq f _ _ _ _ h ((iE.trans aN).ub (bf d).2) λe=>hp c.1
   split at h
   ·rename_i d
    obtain⟨⟨x1,x2⟩,h1,h2⟩:=Option.bind_eq_some_iff.1 h
    have hu:=(Ey h1).1.ub (bf d).2
    exact nq f _ _ _ _ h2 hu λe g hg=>by
     rcases List.mem_append.1 hg with hg|hg
     ·exact hp c.1 g hg
     ·rw[List.mem_singleton.1 hg]
      have:=NB h1 e
      (try dsimp only at *);omega
   ·exact nq f _ _ _ _ h (eW.ub hq) λe=>absurd e (jw (by decide))
  ·cases h;exact λe=>hp e
theorem NC{T:List Tk}{f:Nat}{x:Pg×Int×Int}(h:pX T f=some x):∀g∈x.1.funcs,Sm.eA g.body<=T.length:=by
 unfold pX at h
 obtain⟨⟨p,r⟩,h1,h2⟩:=Option.bind_eq_some_iff.1 h
 dsimp only at h2
 split at h2
 ·rename_i c
  cases h2
  exact nq f _ _ _ _ h1 (Nat.zero_le _) (λ_ g hg=>by cases hg) c
 ·cases h2
  intro g hg
  cases hg
end lV
namespace lV
open Ax Go V7 kL
def mT(a b:Option Int):Option Int:=match a with
 |some x=>some x
 |none=>b
theorem rF{a:Option Int}:mT a none=a:=by cases a<;>rfl
theorem nt{a b c:Option Int}:mT (mT a b) c=mT a (mT b c):=by cases a<;>rfl
mutual
def xU(su:List Bool):E->Option Int
 |.mk k _ _ _ _ az a _ cN=>mT (lq su az) (if k=4/\0<=cN/\su[cN.toNat]?=some false then some a else none)
def lq(su:List Bool):List E->Option Int
 |[]=>none
 |e::l=>mT (xU su e) (lq su l)
end
mutual
def lX:List Bool->Sm->List Bool×Option Int
 |su,.mk k _ _ _ es bd el _ cN=>
  if k=1 then (su.set cN.toNat false,lq su es)
  else if k=2\/k=3 then (if 0<=cN then su.set cN.toNat true else su,lq su es)
  else if k=7 then (su.map λ_=>true,lq su es)
  else if k=6 then (su,mT (lq su es) (gC su bd).2)
  else if k=5 then (List.zipWith (λa b=>a&&b) (gC su bd).1 (gC su el).1,mT (lq su es) (mT (gC su bd).2 (gC su el).2))
  else (su,lq su es)
def gC:List Bool->List Sm->List Bool×Option Int
 |su,[]=>(su,none)
 |su,s::l=>((gC (lX su s).1 l).1,mT (lX su s).2 (gC (lX su s).1 l).2)
end
theorem FM(su:List Bool)(e:E):xU su e=mT (lq su e.az) (if e.k=4/\0<=e.cN/\su[e.cN.toNat]?=some false then some e.a else none):=by
 obtain⟨k,n,nm,on,od,az,a,ty,cN⟩:=e
 (conv=>lhs;unfold xU)<;>rfl
theorem vr(su:List Bool)(e:E)(l:List E):lq su (e::l)=mT (xU su e) (lq su l):=by
 (conv=>lhs;unfold lq)<;>rfl
theorem FO(su:List Bool)(s:Sm):lX su s =
  if s.k=1 then (su.set s.cN.toNat false,lq su s.es)
  else if s.k=2\/s.k=3 then (if 0<=s.cN then su.set s.cN.toNat true else su,lq su s.es)
  else if s.k=7 then (su.map λ_=>true,lq su s.es)
  else if s.k=6 then (su,mT (lq su s.es) (gC su s.bd).2)
  else if s.k=5 then (List.zipWith (λa b=>a&&b) (gC su s.bd).1 (gC su s.el).1,mT (lq su s.es) (mT (gC su s.bd).2 (gC su s.el).2))
  else (su,lq su s.es):=by
 obtain⟨k,nm,on,od,es,bd,el,a,cN⟩:=s
 (conv=>lhs;unfold lX)<;>rfl
theorem vu(su:List Bool)(s:Sm)(l:List Sm):gC su (s::l)=((gC (lX su s).1 l).1,mT (lX su s).2 (gC (lX su s).1 l).2):=by
 (conv=>lhs;unfold gC)<;>rfl
theorem CJ(su:List Bool):gC su []=(su,none):=by unfold gC;rfl
mutual
theorem Iq:∀(su:List Bool)(s:Sm),(lX su s).1.length=su.length
 |su,.mk k nm on od es bd el a cN=>by
  unfold lX
  split
  ·simp
  split
  ·split<;>simp
  split
  ·simp
  split
  ·rfl
  split
  ·simp[ur su bd,ur su el]
  ·rfl
theorem ur:∀(su:List Bool)(l:List Sm),(gC su l).1.length=su.length
 |su,[]=>by unfold gC;rfl
 |su,s::l=>by
  unfold gC
  simp only
  rw[ur (lX su s).1 l,Iq su s]
end
mutual
def Ir(n:Nat):E->Prop
 |.mk k _ _ _ _ az _ _ cN=>(k=4->cN<n)/\y8 n az
def y8(n:Nat):List E->Prop
 |[]=>True
 |e::l=>Ir n e/\y8 n l
end
mutual
def FQ(n:Nat):Sm->Prop
 |.mk k _ _ _ es bd el _ cN=>y8 n es/\(k=1\/k=2->0<=cN/\cN<n)/\(k=3->cN<n)/\sL n bd/\sL n el
def sL(n:Nat):List Sm->Prop
 |[]=>True
 |s::l=>FQ n s/\sL n l
end
theorem AX(n:Nat)(e:E):Ir n e↔(e.k=4->e.cN<n)/\y8 n e.az:=by
 obtain⟨k,_,nm,on,od,az,a,ty,cN⟩:=e
 unfold Ir;exact Iff.rfl
theorem vv(n:Nat)(s:Sm):FQ n s↔y8 n s.es/\(s.k=1\/s.k=2->0<=s.cN/\s.cN<n)/\(s.k=3->s.cN<n)/\sL n s.bd/\sL n s.el:=by
 obtain⟨k,nm,on,od,es,bd,el,a,cN⟩:=s
 unfold FQ;exact Iff.rfl
theorem mJ(n:Nat):∀l:List E,y8 n l↔∀e∈l,Ir n e
 |[]=>by simp[y8]
 |e::l=>by simp[y8,mJ n l]
theorem rG(n:Nat):∀l:List Sm,sL n l↔∀e∈l,FQ n e
 |[]=>by simp[sL]
 |e::l=>by simp[sL,rG n l]
theorem ND{n m:Nat}(h:n<=m)(e:E):Ir n e->Ir m e:=by
 induction e using E.vp with
 |_ e ih=>
  rw[AX,AX,mJ,mJ]
  exact λ⟨h1,h2⟩=>⟨λhk=>by have:=h1 hk;omega,λx hx=>ih x hx (h2 x hx)⟩
theorem vz{n m:Nat}(h:n<=m)(l:List E):y8 n l->y8 m l:=by
 rw[mJ,mJ]
 exact λh2 x hx=>ND h x (h2 x hx)
theorem ED{n m:Nat}(h:n<=m)(s:Sm):FQ n s->FQ m s:=by
 induction s using Sm.vp with
 |_ s sZ tu=>
  rw[vv,vv]
  rintro⟨h1,h2,h3,h4,h5⟩
  rw[rG]at h4 h5 ⊢
  refine⟨vz h _ h1,λhk=>?_,λhk=>?_,λx hx=>sZ x hx (h4 x hx),?_⟩
  ·have:=h2 hk;omega
  ·have:=h3 hk;omega
  ·rw[rG];exact λx hx=>tu x hx (h5 x hx)
theorem NF{n m:Nat}(h:n<=m)(l:List Sm):sL n l->sL m l:=by
 rw[rG,rG]
 exact λh2 x hx=>ED h x (h2 x hx)
theorem xV{s:List UInt8}:∀{l:List Vd}{i k:Nat}{t:T3},ij s i l=some (k,t)->k<i+l.length
 |[],_,_,_,h=>by cases h
 |f::l,i,k,t,h=>by
  unfold ij at h
  split at h
  ·cases h;simp
  ·have:=xV h
   simp only[List.length_cons];omega
theorem Rp{H:Hd}{V:List Vd}{s:List UInt8}{t:T3}{r:Int}(h:yX H V s=some (t,r)):r<V.length:=by
 unfold yX at h
 split at h
 ·rename_i e;cases h;have:=xV e;omega
 ·split at h
  ·cases h;omega
  ·cases h
theorem Mb{H:Hd}{V:List Vd}(e:E):∀y,vo H V e=.ok y->Ir V.length y:=by
 induction e using E.vp with
 |_ e ih=>
  intro y h
  obtain⟨ks,t,r,_,h2,h3,rfl⟩:=yZ h
  rw[AX]
  refine⟨λhk=>?_,?_⟩
  ·have hk:e.k=4:=hk
   show r<_
   unfold oO at h3
   rw[if_neg (by omega),if_neg (by omega),if_neg (by omega),if_pos hk]at h3
   exact Rp h3
  ·show y8 _ ks
   rw[mJ]
   exact qE h2 ih
theorem xW{H:Hd}{bO:Bool}{br:T3}:∀{l ys:List Sm}{V X:List Vd},(∀s∈l,∀V y W,wQ H bO br V s=.ok (y,W)->V.length<=W.length/\FQ W.length y)->kF H bO br V l=.ok (ys,X)->V.length<=X.length/\sL X.length ys
 |[],ys,V,X,_,h=>by
  unfold kF at h
  cases h
  exact⟨Nat.le_refl _,by simp[sL]⟩
 |s::l,ys,V,X,hp,h=>by
  obtain⟨y,W,zs,h1,h2,rfl⟩:=uq h
  obtain⟨a1,a2⟩:=hp s List.mem_cons_self V y W h1
  obtain⟨b1,b2⟩:=xW (λt ht=>hp t (List.mem_cons_of_mem _ ht)) h2
  refine⟨by omega,?_⟩
  unfold sL
  exact⟨ED b1 _ a2,b2⟩
theorem ad4{H:Hd}{br:T3}{V W:List Vd}{k:Int}{nm:List UInt8}{es:List E}{t:T3}{r:Int}(h:j8 H br V k nm es t=some (r,W)):(k=1\/k=2->r=V.length)/\(k=3->r<V.length):=by
 unfold j8 at h
 split at h
 ·rename_i c
  split at h
  ·cases h
  ·cases h;exact⟨λ_=>rfl,λh=>by omega⟩
 rename_i n1
 split at h
 ·rename_i c
  split at h
  ·split at h
   ·cases h
   ·cases h;exact⟨λ_=>rfl,λh=>by omega⟩
  ·cases h
 rename_i n2
 split at h
 ·rename_i c
  split at h
  ·rename_i u r' e
   split at h
   ·cases h;exact⟨λh=>by omega,λ_=>Rp e⟩
   ·cases h
  ·cases h
 rename_i n3
 exact⟨λh=>by omega,λh=>by omega⟩
theorem Zf{H:Hd}{V:List Vd}{k:Int}{es ys:List E}(h:Aa H V k es=.ok ys):y8 V.length ys:=by
 unfold Aa at h
 rw[mJ]
 split at h
 ·split at h
  ·rename_i e l
   cases hx:vo H V e with
   |error a=>rw[hx]at h;cases h
   |ok y=>
    rw[hx]at h;cases h
    intro z hz
    rw[List.mem_singleton.1 hz]
    exact Mb e y hx
  ·cases h;simp
 ·exact qE h λe _ y hy=>Mb e y hy
theorem Vr{H:Hd}{bO:Bool}{br:T3}(s:Sm):∀V y X,wQ H bO br V s=.ok (y,X)->V.length<=X.length/\FQ X.length y:=by
 induction s using Sm.vp with
 |_ s sZ tu=>
  intro V y X h
  obtain⟨t,ys,r,W,hf,ht,Tl,cm,hh⟩:=CF h
  have qe:=Zf Tl
  have hVW:V.length<=W.length:=by
   rcases Im cm with e|⟨_,e⟩
   ·rw[e];exact Nat.le_refl _
   ·rw[e];simp
  have hr:=ad4 cm
  have DE:s.k=1\/s.k=2->0<=r/\r<(W.length:Int):=λhk=>by
   rcases Im cm with e|⟨_,e⟩
   ·have h1:=hr.1 hk
    have:W.length=V.length+1:=by
     unfold j8 at cm
     rcases hk with hk|hk
     ·rw[if_pos hk]at cm
      split at cm
      ·cases cm
      ·cases cm;simp
     ·rw[if_neg (by omega),if_pos hk]at cm
      split at cm
      ·split at cm
       ·cases cm
       ·cases cm;simp
      ·cases cm
    omega
   ·have h1:=hr.1 hk
    rw[e,h1];simp;omega
  have hr3:s.k=3->r<(W.length:Int):=λhk=>by have:=hr.2 hk;omega
  rcases hh with⟨h5,b,W1,c,hb,hc,rfl⟩|⟨h6,b,hb,rfl⟩|⟨h5,h6,rfl,rfl⟩
  ·obtain⟨a1,a2⟩:=xW (λx hx V y W hw=>sZ x hx V y W hw) hb
   obtain⟨b1,b2⟩:=xW (λx hx V y W hw=>tu x hx V y W hw) hc
   refine⟨by omega,(vv _ _).2 ⟨vz (by omega) _ qe,λhk=>?_,λhk=>?_,NF b1 _ a2,b2⟩⟩
   ·have hk:s.k=1\/s.k=2:=hk
    omega
   ·have hk:s.k=3:=hk
    omega
  ·obtain⟨a1,a2⟩:=xW (λx hx V y W hw=>sZ x hx V y W hw) hb
   refine⟨by omega,(vv _ _).2 ⟨vz (by omega) _ qe,λhk=>?_,λhk=>?_,a2,by simp[Sm.el,sL]⟩⟩
   ·have hk:s.k=1\/s.k=2:=hk
    omega
   ·have hk:s.k=3:=hk
    omega
  ·exact⟨hVW,(vv _ _).2 ⟨vz hVW _ qe,DE,hr3,by simp[Sm.bd,sL],by simp[Sm.el,sL]⟩⟩
theorem Vs{H:Hd}{bO:Bool}{br:T3}{l ys:List Sm}{V X:List Vd}(h:kF H bO br V l=.ok (ys,X)):V.length<=X.length/\sL X.length ys:=
 xW (λs _ V y W=>Vr s V y W) h
def su0(g:Sg)(b:Bd):List Bool:=List.replicate g.ps.length true++List.replicate (b.vars.length-g.ps.length) false
def DG:List Sg->List Bd->Option Int
 |s::ss,b::bs=>mT (gC (su0 s b) b.code).2 (DG ss bs)
 |_,_=>none
theorem Is{H:Hd}:∀{ss:List Sg}{fs:List Fc}{bs:List Bd},q8 H ss fs=.ok bs->∀(k:Nat)(h1:k<ss.length)(h2:k<bs.length),ss[k].ps.length<=bs[k].vars.length/\sL bs[k].vars.length bs[k].code
 |[],_,bs,h,k,h1,_=>by simp at h1
 |s::ss,[],bs,h,k,_,h2=>by
  unfold q8 at h;cases h;simp at h2
 |s::ss,f::fs,bs,h,k,h1,h2=>by
  unfold q8 at h
  split at h
  ·cases h
  ·rename_i c W hb
   split at h
   ·cases h
   ·rename_i l hl
    cases h
    match k with
    |0=>exact Vs hb
    |k+1=>
     have:=Is hl k (by simpa using h1) (by simpa using h2)
     simpa using this
end lV
