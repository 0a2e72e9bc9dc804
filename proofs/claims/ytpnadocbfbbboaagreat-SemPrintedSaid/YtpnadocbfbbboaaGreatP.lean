/- Part of a proof. -/
import Derived.Test.YtpnadocbfbbboaaGreatA6

namespace V7
open Ax Go
def jy:AV->Bool
 |.lA _ _=>false|_=>true
theorem nq{v:AV}(h:jy v=true)(hs:aR v=true):v.aa=v:=by cases v<;>simp_all [jy,aR,AV.aa]
@[simp]theorem K4(v:AV):jy v.aa=true:=by cases v<;>simp[jy,AV.aa]
def mB(sz:Nat)(p:List AV->Bool)(v:AV):Bool:=jy v&&dg sz v&&(bg v).all p
theorem qN{sz:Nat}{p:List AV->Bool}{v:AV}(h:mB sz p v=true):dg sz v=true:=by simp only[mB,Bool.and_eq_true]at h;exact h.1.2
theorem yU{sz:Nat}{p:List AV->Bool}{v:AV}(h:mB sz p v=true):∀r∈bg v,p r=true:=by simp only[mB,Bool.and_eq_true,List.all_eq_true]at h;exact h.2
theorem xH{sz:Nat}{p:List AV->Bool}{v:AV}(h:mB sz p v=true):v.aa=v:=by
 have h2:=o7 (qN h);simp only[mB,Bool.and_eq_true]at h;exact nq h.1.1 h2
theorem zT{α:Type}{sz:Nat}{p:List AV->Bool}{d:List AV->α}{e:α->List AV}{v:AV}(h:mB sz p v=true)(he:∀r,p r=true->r=e (d r)):bg v=((bg v).map d).map e:=by
 rw[List.map_map];conv=>lhs;rw[<-List.map_id (bg v)]
 exact List.map_congr_left λr hr=>he r (yU h r hr)
def WJ(n:Int):Bool:=decide (-9223372036854775808<=n)&&decide (n<=9223372036854775807)
structure T3 where
 b:Int
 r:Int
 d:Int
 deriving DecidableEq
abbrev T0:T3:=⟨0,0,0⟩
@[simp]def T3.cells(t:T3):List AV:=[.int .i64 t.b,.int .i64 t.r,.int .i64 t.d]
def ahz(r:List AV):Bool:=match r with | [.int .i64 a,.int .i64 b,.int .i64 c]=>WJ a&&WJ b&&WJ c|_=>false
def dT(r:List AV):T3:=match r with | [.int .i64 a,.int .i64 b,.int .i64 c]=>⟨a,b,c⟩|_=>T0
def ahA(v:AV):Bool:=mB 3 ahz v
def dTs(v:AV):List T3:=(bg v).map dT
@[simp]theorem ahB(v:AV):dTs v.aa=dTs v:=by simp[dTs]
@[simp]theorem acZ{v:AV}(h:ahA v=true):dg 3 v=true:=qN h
@[simp]theorem amv{v:AV}(h:ahA v=true):aR v=true:=o7 (acZ h)
def UM(r:List AV):Bool:=match r with | [.str _]=>true|_=>false
def dSt(r:List AV):List UInt8:=match r with | [.str s]=>s|_=>[]
def vI(v:AV):Bool:=mB 1 UM v
def gH(v:AV):List (List UInt8):=(bg v).map dSt
theorem UN(r:List AV)(h:UM r=true):r=[.str (dSt r)]:=by
 unfold UM at h;split at h
 rfl
 cases h
theorem UO{v:AV}(h:vI v=true):bg v=(gH v).map λs=>[.str s]:=zT h UN
theorem Eu{v:AV}(h:vI v=true):v.aa=v:=xH h
@[simp]theorem GR(v:AV):gH v.aa=gH v:=by simp[gH]
@[simp]theorem Yz{v:AV}(h:vI v=true):dg 1 v=true:=qN h
@[simp]theorem C6{v:AV}(h:vI v=true):aR v=true:=o7 (Yz h)
def K5{α:Type}(p:α->Bool)(l:List α)(k:Nat):Prop:=∀j (h:j<l.length),j<k->p l[j]=false
theorem Bb{α:Type}{p:α->Bool}{l:List α}:K5 p l 0:=λ_ _ h=>absurd h (by omega)
theorem Bc{α:Type}{p:α->Bool}{l:List α}{k:Nat}(h:K5 p l k)(h1:k<l.length)(hp:p l[k]=false):K5 p l (k+1):=by
 intro j j1 hj;rcases Nat.lt_or_ge j k with zI|zI;exact h j j1 zI;have:j=k:=by omega
 subst this;exact hp
def vP(l:List (List UInt8))(s:List UInt8):Int:=match l.findIdx? λx=>decide (x=s) with
 |some k=>k|none=>-1
theorem OP{l:List (List UInt8)}{s:List UInt8}{k:Nat}(h:K5 (λx=>decide (x=s)) l k)(hk:k<l.length)(e:l[k]=s):vP l s=k:=by
 have:l.findIdx? (λx=>decide (x=s))=some k:=by
  rw[List.findIdx?_eq_some_iff_getElem];refine⟨hk,by simpa using e,λj hj=>?_⟩;have:=h j (by omega) hj;simpa using this
 unfold vP;rw[this]
theorem GU{l:List (List UInt8)}{s:List UInt8}(h:K5 (λx=>decide (x=s)) l l.length):vP l s = -1:=by
 have:l.findIdx? (λx=>decide (x=s))=none:=by
  rw[List.findIdx?_eq_none_iff];intro x hx;obtain⟨j,hj,rfl⟩:=List.mem_iff_getElem.1 hx;exact h j hj hj
 unfold vP;rw[this]
theorem OQ(l:List (List UInt8))(s:List UInt8):vP l s = -1\/∃k:Nat,vP l s=k/\k<l.length:=by
 unfold vP;cases e:l.findIdx? λx=>decide (x=s) with
 |none=>exact .inl rfl|some k=>exact .inr ⟨k,rfl,(List.findIdx?_eq_some_iff_getElem.1 e).1⟩
def dA(l:List (List UInt8))(s:List UInt8)(d:Int):T3×Bool:=
 if d<0\/3<d then (T0,false) else
 if s=[105,110,116] then (⟨1,0,d⟩,true) else
 if s=[98,111,111,108] then (⟨2,0,d⟩,true) else
 if vP l s<0 then (T0,false) else (⟨3,vP l s,d⟩,true)
def ac0(t:T3):Bool:=decide (t.b=3)||decide (0<t.d)
structure PD where
 name:List UInt8
 on:List UInt8
 od:Int
 at_:Int
def PD.cells(p:PD):List AV:=[.str p.name,.str p.on,.int .i64 p.od,.int .i64 p.at_]
def OR(r:List AV):Bool:=match r with | [.str _,.str _,.int .i64 d,.int .i64 a]=>WJ d&&WJ a|_=>false
def dP(r:List AV):PD:=match r with | [.str n,.str o,.int .i64 d,.int .i64 a]=>⟨n,o,d,a⟩|_=>⟨[],[],0,0⟩
theorem UP(r:List AV)(h:OR r=true):r=(dP r).cells:=by
 unfold OR at h;split at h
 rfl
 cases h
def CF(v:AV):Bool:=mB 4 OR v
def og(v:AV):List PD:=(bg v).map dP
theorem YA{v:AV}(h:CF v=true):bg v=(og v).map PD.cells:=zT h UP
theorem zU{v:AV}(h:CF v=true):v.aa=v:=xH h
@[simp]theorem ahC(v:AV):og v.aa=og v:=by simp[og]
@[simp]theorem ac1{v:AV}(h:CF v=true):dg 4 v=true:=qN h
@[simp]theorem Ev{v:AV}(h:CF v=true):aR v=true:=o7 (ac1 h)
structure CR where
 name:List UInt8
 bH:AV
 at_:Int
def CR.cells(r:CR):List AV:=[.str r.name,r.bH,.int .i64 r.at_]
def GV(r:List AV):Bool:=match r with | [.str _,f,.int .i64 a]=>CF f&&WJ a|_=>false
def dCR(r:List AV):CR:=match r with | [.str s,f,.int .i64 a]=>⟨s,f,a⟩|_=>⟨[],.U,0⟩
theorem UQ(r:List AV)(h:GV r=true):r=(dCR r).cells:=by
 unfold GV at h;split at h
 rfl
 cases h
def B8(v:AV):Bool:=mB 3 GV v
def dJ(v:AV):List CR:=(bg v).map dCR
theorem UR{v:AV}(h:B8 v=true):bg v=(dJ v).map CR.cells:=zT h UQ
theorem GW{v:AV}(h:B8 v=true):∀r∈dJ v,CF r.bH=true:=by
 intro r hr;obtain⟨x,hx,rfl⟩:=List.mem_map.1 hr;have:=yU h x hx;unfold GV at this;unfold dCR;split at this;simp only[Bool.and_eq_true]at this;exact this.1;cases this
theorem K6{v:AV}(h:B8 v=true):v.aa=v:=xH h
@[simp]theorem afm(v:AV):dJ v.aa=dJ v:=by simp[dJ]
@[simp]theorem YB{v:AV}(h:B8 v=true):dg 3 v=true:=qN h
@[simp]theorem OS{v:AV}(h:B8 v=true):aR v=true:=o7 (YB h)
structure FN where
 name:List UInt8
 params:AV
 ct:Bool
 on:List UInt8
 od:Int
 body:AV
 at_:Int
def FN.cells(f:FN):List AV:=[.str f.name,f.params,.bool f.ct,.str f.on,.int .i64 f.od,f.body,.int .i64 f.at_]
def GX(r:List AV):Bool:=match r with | [.str _,p,.bool _,.str _,.int .i64 d,b,.int .i64 a]=>CF p&&jy b&&aR b&&WJ d&&WJ a|_=>false
def dFN(r:List AV):FN:=match r with | [.str n,p,.bool h,.str o,.int .i64 d,b,.int .i64 a]=>⟨n,p,h,o,d,b,a⟩|_=>⟨[],.U,false,[],0,.U,0⟩
theorem US(r:List AV)(h:GX r=true):r=(dFN r).cells:=by
 unfold GX at h;split at h
 rfl
 cases h
def B9(v:AV):Bool:=mB 7 GX v
def jz(v:AV):List FN:=(bg v).map dFN
theorem UT{v:AV}(h:B9 v=true):bg v=(jz v).map FN.cells:=zT h US
theorem Q6{v:AV}(h:B9 v=true):∀r∈jz v,CF r.params=true/\jy r.body=true/\aR r.body=true:=by
 intro r hr;obtain⟨x,hx,rfl⟩:=List.mem_map.1 hr;have:=yU h x hx;unfold GX at this;unfold dFN;split at this;simp only[Bool.and_eq_true]at this;exact⟨this.1.1.1.1,this.1.1.1.2,this.1.1.2⟩;cases this
theorem K7{v:AV}(h:B9 v=true):v.aa=v:=xH h
@[simp]theorem afn(v:AV):jz v.aa=jz v:=by simp[jz]
@[simp]theorem YC{v:AV}(h:B9 v=true):dg 7 v=true:=qN h
@[simp]theorem OT{v:AV}(h:B9 v=true):aR v=true:=o7 (YC h)
structure GD where
 bz:AV
 aH:AV
 funcs:AV
def GD.cells(p:GD):List AV:=[p.bz,p.aH,p.funcs]
structure GD.ok (p:GD):Prop where
 bz:B8 p.bz=true
 aH:CF p.aH=true
 funcs:B9 p.funcs=true
def kq(l:List CR):List (List UInt8):=l.map (·.name)
def IE(rs:List (List UInt8))(p:PD):List AV:=.str p.name::(dA rs p.on p.od).1.cells
def iL(rs:List (List UInt8))(l:List PD):List (List AV):=l.map (IE rs)
def x8(a b:Option Int):Option Int:=match a with|some x=>some x|none=>b
def vQ(rs:List (List UInt8))(before:List PD)(p:PD):Option Int:=if before.any (λq=>decide (q.name=p.name)) || !(dA rs p.on p.od).2 then some p.at_ else none
def gj{α:Type}(mV:List α->α->Option Int)(l:List α):Nat->Option Int
 |0=>none|k+1=>x8 (gj mV l k) (match l[k]? with|some x=>mV (l.take k) x|none=>none)
end V7
namespace lf
open Ax Go V7
structure Tk where
 k:Int
 t:List UInt8
 n:Int
 a:Int
def Tk.cells(x:Tk):List AV:=[.int .i64 x.k,.str x.t,.int .i64 x.n,.int .i64 x.a]
abbrev Tk0:Tk:=⟨0,[],0,0⟩
structure TL (l:AV)(T:List Tk):Prop where
 sz:dg 4 l=true
 rows:bg l=T.map Tk.cells
 len:T.length<1000000000
theorem TL.sl{l:AV}{T:List Tk}(h:TL l T):aR l=true:=o7 h.sz
structure RQ where
 at_:Nat
 op:Int
 fe:Int
 fa:Int
def RQ.bC(l:AV)(q:RQ):fq:=.rows 0 5 [[l,.int .i64 q.at_,.int .i64 q.op,.int .i64 q.fe,.int .i64 q.fa]]
def dQ(T:List Tk)(q:RQ):Tk:=T.getD q.at_ Tk0
def jc(T:List Tk)(q:RQ)(e:Int):RQ:=if q.fe=0 then ⟨q.at_,q.op,e,(dQ T q).a⟩ else q
def jR(s:List UInt8):Int:=match s with|c::_=>if 97<=c.toNat/\c.toNat<=122 then 3 else 4 | []=>4
def fP(T:List Tk)(q:RQ)(s:List UInt8):Bool:=decide (q.fe=0)&&decide ((dQ T q).k=jR s)&&decide ((dQ T q).t=s)
def aA(q:RQ):RQ:=⟨q.at_+1,q.op,q.fe,q.fa⟩
def cH(T:List Tk)(q:RQ)(s:List UInt8):RQ:=if fP T q s then aA q else jc T q 2
def rH(q:RQ)(d:Int):RQ:=⟨q.at_,IntKind.i64.wrap (q.op+d),q.fe,q.fa⟩
def gC(T:List Tk)(q:RQ)(s:List UInt8):RQ:=if fP T q s&&decide (50<=q.op) then jc T q 4 else rH (cH T q s) 1
def ku(T:List Tk)(q:RQ)(s:List UInt8):RQ:=rH (cH T q s) (-1)
def cW(T:List Tk)(q:RQ):List UInt8×RQ:=if q.fe=0/\(dQ T q).k=1 then ((dQ T q).t,aA q) else ([],jc T q 2)
def rI(T:List Tk)(q:RQ)(s:List UInt8):Nat->RQ
 |0=>q|k+1=>cH T (rI T q s k) s
def GY(T:List Tk):Nat->Nat->RQ->Nat×RQ
 |0,d,q=>(d,q)
 |k+1,d,q=>if fP T q [91] then GY T k (d+1) (aA q) else (d,q)
def WK(T:List Tk)(q:RQ):List UInt8×RQ:=if fP T q [105,110,116]||fP T q [98,111,111,108] then ((dQ T q).t,aA q) else cW T q
def vl(T:List Tk)(q:RQ):(List UInt8×Int)×RQ:=
 if fP T (GY T 3 0 q).2 [91] then (([],0),jc T (GY T 3 0 q).2 4)
 else (((WK T (GY T 3 0 q).2).1,((GY T 3 0 q).1:Int)),rI T (WK T (GY T 3 0 q).2).2 [93] (GY T 3 0 q).1)
def aK(sz:Nat)(rows:List (List AV)):AV:=(cC sz rows).aa
inductive E where
 |mk (k n:Int) (nm on:List UInt8) (od:Int) (ay:List E) (a:Int) (ty:T3) (ref:Int)
def E.k:E->Int|.mk k _ _ _ _ _ _ _ _=>k
def E.n:E->Int|.mk _ n _ _ _ _ _ _ _=>n
def E.nm:E->List UInt8|.mk _ _ nm _ _ _ _ _ _=>nm
def E.on:E->List UInt8|.mk _ _ _ on _ _ _ _ _=>on
def E.od:E->Int|.mk _ _ _ _ od _ _ _ _=>od
def E.ay:E->List E|.mk _ _ _ _ _ ay _ _ _=>ay
def E.a:E->Int|.mk _ _ _ _ _ _ a _ _=>a
def E.ty:E->T3|.mk _ _ _ _ _ _ _ ty _=>ty
def E.ref:E->Int|.mk _ _ _ _ _ _ _ _ ref=>ref
mutual
def E.aG:E->List AV
 |.mk k n nm on od ay a ty ref=>[.int .i64 k,.int .i64 n,.str nm,.str on,.int .i64 od,aK 11 (E.rows ay),.int .i64 a,.int .i64 ty.b,.int .i64 ty.r,.int .i64 ty.d,.int .i64 ref]
def E.rows:List E->List (List AV)
 |[]=>[]
 |e::l=>e.aG::E.rows l
end
def Em(k n:Int)(nm on:List UInt8)(od:Int)(ay:List E)(a:Int):E:=.mk k n nm on od ay a T0 0
def bf(l:List E):AV:=aK 11 (E.rows l)
inductive Sm where
 |mk (k:Int) (nm on:List UInt8) (od:Int) (es:List E) (bd el:List Sm) (a ref:Int)
def Sm.k:Sm->Int|.mk k _ _ _ _ _ _ _ _=>k
def Sm.nm:Sm->List UInt8|.mk _ nm _ _ _ _ _ _ _=>nm
def Sm.on:Sm->List UInt8|.mk _ _ on _ _ _ _ _ _=>on
def Sm.od:Sm->Int|.mk _ _ _ od _ _ _ _ _=>od
def Sm.es:Sm->List E|.mk _ _ _ _ es _ _ _ _=>es
def Sm.bd:Sm->List Sm|.mk _ _ _ _ _ bd _ _ _=>bd
def Sm.el:Sm->List Sm|.mk _ _ _ _ _ _ el _ _=>el
def Sm.a:Sm->Int|.mk _ _ _ _ _ _ _ a _=>a
def Sm.ref:Sm->Int|.mk _ _ _ _ _ _ _ _ ref=>ref
mutual
def Sm.aG:Sm->List AV
 |.mk k nm on od es bd el a ref=>[.int .i64 k,.str nm,.str on,.int .i64 od,bf es,aK 9 (Sm.rows bd),aK 9 (Sm.rows el),.int .i64 a,.int .i64 ref]
def Sm.rows:List Sm->List (List AV)
 |[]=>[]
 |s::l=>s.aG::Sm.rows l
end
def bF(l:List Sm):AV:=aK 9 (Sm.rows l)
structure Rc where
 name:List UInt8
 bH:List PD
 a:Int
def Rc.aG(r:Rc):List AV:=[.str r.name,aK 4 (r.bH.map PD.cells),.int .i64 r.a]
structure Fc where
 name:List UInt8
 params:List PD
 ct:Bool
 on:List UInt8
 od:Int
 body:List Sm
 a:Int
def Fc.aG(f:Fc):List AV:=[.str f.name,aK 4 (f.params.map PD.cells),.bool f.ct,.str f.on,.int .i64 f.od,bF f.body,.int .i64 f.a]
structure Pg where
 bz:List Rc
 aH:List PD
 funcs:List Fc
def Pg.aG(p:Pg):List AV:=[aK 3 (p.bz.map Rc.aG),aK 4 (p.aH.map PD.cells),aK 7 (p.funcs.map Fc.aG)]
@[simp]theorem bL{sz:Nat}{r:List (List AV)}:aR (aK sz r)=true:=by simp[aK]
@[simp]theorem aZ{sz:Nat}{r:List (List AV)}:bg (aK sz r)=r:=by simp[aK]
@[simp]theorem bO{sz:Nat}{r:List (List AV)}:(aK sz r).aa=aK sz r:=by
 unfold aK cC;split<;>simp[AV.aa]
@[simp]theorem GZ{sz:Nat}{r:List (List AV)}:(aK sz r).cL=true:=bK bL
@[simp]theorem G5{sz:Nat}{r:List (List AV)}:(aK sz r).au=true:=cm bL
@[simp]theorem bP{l:List E}:aR (bf l)=true:=bL
@[simp]theorem bS{l:List E}:(bf l).aa=bf l:=bO
@[simp]theorem ahD{l:List E}:(bf l).cL=true:=GZ
@[simp]theorem ahE{l:List E}:(bf l).au=true:=G5
@[simp]theorem bN{l:List Sm}:aR (bF l)=true:=bL
@[simp]theorem bQ{l:List Sm}:(bF l).aa=bF l:=bO
@[simp]theorem ahF{l:List Sm}:(bF l).cL=true:=GZ
@[simp]theorem ahG{l:List Sm}:(bF l).au=true:=G5
@[simp]theorem ahH{sz:Nat}:aK sz []=.U:=rfl
@[simp]theorem afo{sz:Nat}{r:List AV}{l:List (List AV)}:aK sz (r::l)=.dc sz (r::l):=rfl
theorem gd:∀l:List E,E.rows l=l.map E.aG
 |[]=>by simp[E.rows]|e::l=>by simp[E.rows,gd l]
theorem iw:∀l:List Sm,Sm.rows l=l.map Sm.aG
 |[]=>by simp[Sm.rows]|e::l=>by simp[Sm.rows,iw l]
theorem pg:bf []=.U:=by simp[bf,E.rows,aK,o8,AV.aa]
theorem K8(e:E)(l:List E):bf (e::l)=.dc 11 (E.rows (e::l)):=by simp[bf,E.rows,aK,cC,AV.aa]
theorem E.aB(e:E):e.aG=[.int .i64 e.k,.int .i64 e.n,.str e.nm,.str e.on,.int .i64 e.od,bf e.ay,.int .i64 e.a,.int .i64 e.ty.b,.int .i64 e.ty.r,.int .i64 e.ty.d,.int .i64 e.ref]:=by
 cases e;simp[E.aG,E.k,E.n,E.nm,E.on,E.od,E.ay,E.a,E.ty,E.ref,bf]
theorem Sm.aB(s:Sm):s.aG=[.int .i64 s.k,.str s.nm,.str s.on,.int .i64 s.od,bf s.es,bF s.bd,bF s.el,.int .i64 s.a,.int .i64 s.ref]:=by
 cases s;simp[Sm.aG,Sm.k,Sm.nm,Sm.on,Sm.od,Sm.es,Sm.bd,Sm.el,Sm.a,Sm.ref,bF]
def dH:Nat->List (List UInt8×Int)
 |0=>[([124,124],24)]
 |1=>[([38,38],23)]
 |2=>[([60],19),([60,61],20),([61,61],21),([33,61],22)]
 |3=>[([43],14),([45],15)]
 |_=>[([42],16),([47],17),([37],18)]
def fm:List (List UInt8×Int)->List UInt8->Int
 |[],_=>0|(s,k)::r,t=>if s=t then k else fm r t
def lK(n:Nat)(c:Tk):Int:=if c.k=4 then fm (dH n) c.t else 0
mutual
def eY(T:List Tk):Nat->Nat->RQ->Option (E×RQ)
 |0,_,_=>none|f+1,n,q=>if n=5 then jA T f q else (eY T f (n+1) q).bind λx=>iM T f n x.1 x.2
def iM(T:List Tk):Nat->Nat->E->RQ->Option (E×RQ)
 |0,_,_,_=>none|f+1,n,a,q=>if q.fe=0/\lK n (dQ T q)≠0 then
   (eY T f (n+1) (aA q)).bind λx=>iM T f n (Em (lK n (dQ T q)) 0 [] [] 0 [a,x.1] (dQ T q).a) x.2
  else some (a,q)
def jA(T:List Tk):Nat->RQ->Option (E×RQ)
 |0,_=>none|f+1,q=>if fP T q [45]||fP T q [33] then
   (eY T f 5 (gC T q (dQ T q).t)).bind λx=>some (Em (if fP T q [45] then 12 else 13) 0 [] [] 0 [x.1] (dQ T q).a,rH x.2 (-1))
  else (jB T f q).bind λx=>eJ T f x.1 x.2
def eJ(T:List Tk):Nat->E->RQ->Option (E×RQ)
 |0,_,_=>none|f+1,a,q=>if fP T q [46] then eJ T f (Em 5 0 (cW T (aA q)).1 [] 0 [a] (dQ T q).a) (cW T (aA q)).2
  else if fP T q [91] then (eY T f 0 (gC T q [91])).bind λx=>eJ T f (Em 6 0 [] [] 0 [a,x.1] (dQ T q).a) (ku T x.2 [93])
  else some (a,q)
def jS(T:List Tk):Nat->RQ->Option (E×RQ)
 |0,_=>none|f+1,q=>(eY T f 0 (gC T q [40])).bind λx=>some (x.1,ku T x.2 [41])
def jB(T:List Tk):Nat->RQ->Option (E×RQ)
 |0,_=>none|f+1,q=>
  if q.fe=0/\(dQ T q).k=2 then some (Em 1 (dQ T q).n [] [] 0 [] (dQ T q).a,aA q)
  else if fP T q [116,114,117,101]||fP T q [102,97,108,115,101] then some (Em 2 (if (dQ T q).t=[116,114,117,101] then 1 else 0) [] [] 0 [] (dQ T q).a,aA q)
  else if fP T q [110,117,108,108] then some (Em 3 0 [] (vl T (aA q)).1.1 (vl T (aA q)).1.2 [] (dQ T q).a,(vl T (aA q)).2)
  else if fP T q [110,101,119] then kz T f (dQ T q).a (aA q)
  else if fP T q [108,101,110] then (jS T f (aA q)).bind λx=>some (Em 10 0 [] [] 0 [x.1] (dQ T q).a,x.2)
  else if fP T q [114,101,97,100] then some (Em 11 0 [] [] 0 [] (dQ T q).a,ku T (gC T (aA q) [40]) [41])
  else if fP T q [40] then jS T f q
  else if fP T (cW T q).2 [40] then (nN T f (cW T q).2).bind λx=>some (Em 7 0 (cW T q).1 [] 0 x.1 (dQ T q).a,x.2)
  else some (Em 4 0 (cW T q).1 [] 0 [] (dQ T q).a,(cW T q).2)
def kz(T:List Tk):Nat->Int->RQ->Option (E×RQ)
 |0,_,_=>none|f+1,a,q=>if fP T q [91] then
   (jS T f (cH T (vl T (aA q)).2 [93])).bind λx=>some (Em 9 0 [] (vl T (aA q)).1.1 (vl T (aA q)).1.2 [x.1] a,x.2)
  else some (Em 8 0 [] (cW T q).1 0 [] a,(cW T q).2)
def nN(T:List Tk):Nat->RQ->Option (List E×RQ)
 |0,_=>none|f+1,q=>if fP T (gC T q [40]) [41] then some ([],ku T (gC T q [40]) [41])
  else (eY T f 0 (gC T q [40])).bind λx=>nt T f [x.1] x.2
def nt(T:List Tk):Nat->List E->RQ->Option (List E×RQ)
 |0,_,_=>none|f+1,l,q=>if fP T q [44] then (eY T f 0 (aA q)).bind λx=>nt T f (l++[x.1]) x.2
  else some (l,ku T q [41])
end
def mW(T:List Tk)(f:Nat)(a:Int)(q:RQ):Option (Sm×RQ):=
 (eY T f 0 q).bind λx=>if fP T x.2 [61] then
   (eY T f 0 (cH T (if x.1.k=4\/x.1.k=5\/x.1.k=6 then x.2 else jc T x.2 2) [61])).bind λy=>
    some (if x.1.k=4 then .mk 3 x.1.nm [] 0 [y.1] [] [] a 0 else .mk 4 [] [] 0 [x.1,y.1] [] [] a 0,cH T y.2 [59])
  else some (.mk 9 [] [] 0 [x.1] [] [] a 0,cH T (if fP T x.2 [59]=true/\x.1.k≠7 then jc T x.2 2 else x.2) [59])
def cU(T:List Tk)(q:RQ):PD×RQ:=
 (⟨(cW T q).1,(vl T (cH T (cW T q).2 [58])).1.1,(vl T (cH T (cW T q).2 [58])).1.2,(dQ T q).a⟩,(vl T (cH T (cW T q).2 [58])).2)
mutual
def oB(T:List Tk):Nat->RQ->Option (Sm×RQ)
 |0,_=>none|f+1,q=>
  if fP T q [118,97,114] then
   some (.mk 1 (cU T (aA q)).1.name (cU T (aA q)).1.on (cU T (aA q)).1.od [] [] [] (dQ T q).a 0,cH T (cU T (aA q)).2 [59])
  else if fP T q [108,101,116] then (eY T f 0 (cH T (cU T (aA q)).2 [61])).bind λx=>
   some (.mk 2 (cU T (aA q)).1.name (cU T (aA q)).1.on (cU T (aA q)).1.od [x.1] [] [] (dQ T q).a 0,cH T x.2 [59])
  else if fP T q [105,102] then (eY T f 0 (aA q)).bind λx=>(gD T f x.2).bind λy=>
   if fP T y.2 [101,108,115,101] then (gD T f (aA y.2)).bind λz=>some (.mk 5 [] [] 0 [x.1] y.1 z.1 (dQ T q).a 0,z.2)
   else some (.mk 5 [] [] 0 [x.1] y.1 [] (dQ T q).a 0,y.2)
  else if fP T q [119,104,105,108,101] then (eY T f 0 (aA q)).bind λx=>(gD T f x.2).bind λy=>
   some (.mk 6 [] [] 0 [x.1] y.1 [] (dQ T q).a 0,y.2)
  else if fP T q [114,101,116,117,114,110] then
   if fP T (aA q) [59] then some (.mk 7 [] [] 0 [] [] [] (dQ T q).a 0,cH T (aA q) [59])
   else (eY T f 0 (aA q)).bind λx=>some (.mk 7 [] [] 0 [x.1] [] [] (dQ T q).a 0,cH T x.2 [59])
  else if fP T q [112,114,105,110,116] then (eY T f 0 (aA q)).bind λx=>some (.mk 8 [] [] 0 [x.1] [] [] (dQ T q).a 0,cH T x.2 [59])
  else mW T f (dQ T q).a q
def gD(T:List Tk):Nat->RQ->Option (List Sm×RQ)
 |0,_=>none|f+1,q=>jT T f [] (gC T q [123])
def jT(T:List Tk):Nat->List Sm->RQ->Option (List Sm×RQ)
 |0,_,_=>none|f+1,l,q=>if q.fe=0/\fP T q [125]=false then (oB T f q).bind λx=>jT T f (l++[x.1]) x.2
  else some (l,ku T q [125])
end
def gZ(T:List Tk):Nat->List PD->RQ->Option (List PD×RQ)
 |0,_,_=>none|f+1,l,q=>if q.fe=0/\fP T q [125]=false then
   if (dQ T q).k=1/\l.length=8 then some (l,jc T q 4)
   else gZ T f (l++[(cU T q).1]) (cH T (cU T q).2 [59])
  else some (l,q)
def lY(T:List Tk)(f:Nat)(q:RQ):Option (Rc×RQ):=
 (gZ T f [] (cH T (cW T q).2 [123])).bind λx=>some (⟨(cW T q).1,x.1,(dQ T q).a⟩,cH T x.2 [125])
def vm(T:List Tk)(q:RQ):RQ:=if fP T q [41] then q else if fP T (cH T q [44]) [41] then jc T (cH T q [44]) 2 else cH T q [44]
def gK(T:List Tk):Nat->List PD->RQ->Option (List PD×RQ)
 |0,_,_=>none|f+1,l,q=>if q.fe=0/\fP T q [41]=false then
   if (dQ T q).k=1/\l.length=6 then some (l,jc T q 4)
   else gK T f (l++[(cU T q).1]) (vm T (cU T q).2)
  else some (l,q)
def rJ(T:List Tk)(f:Nat)(q:RQ):Option (Fc×RQ):=
 (gK T f [] (cH T (cW T q).2 [40])).bind λx=>
  if fP T (cH T x.2 [41]) [58] then
   (gD T f (vl T (aA (cH T x.2 [41]))).2).bind λy=>some (⟨(cW T q).1,x.1,true,(vl T (aA (cH T x.2 [41]))).1.1,(vl T (aA (cH T x.2 [41]))).1.2,y.1,(dQ T q).a⟩,y.2)
  else (gD T f (cH T x.2 [41])).bind λy=>some (⟨(cW T q).1,x.1,false,[],0,y.1,(dQ T q).a⟩,y.2)
def No:List UInt8:=[114,101,99,111,114,100]
def Ew:List UInt8:=[103,108,111,98,97,108]
def zV:List UInt8:=[102,117,110,99]
def gu(T:List Tk):Nat->Pg->RQ->Option (Pg×RQ)
 |0,_,_=>none|f+1,p,q=>if q.fe=0/\(dQ T q).k≠0 then
   if fP T q No=true/\p.bz.length=12\/fP T q Ew=true/\p.aH.length=8\/fP T q zV=true/\p.funcs.length=16 then gu T f p (jc T q 4)
   else if fP T q No then (lY T f (aA q)).bind λx=>gu T f ⟨p.bz++[x.1],p.aH,p.funcs⟩ x.2
   else if fP T q Ew then gu T f ⟨p.bz,p.aH++[(cU T (aA q)).1],p.funcs⟩ (cH T (cU T (aA q)).2 [59])
   else if fP T q zV then (rJ T f (aA q)).bind λx=>gu T f ⟨p.bz,p.aH,p.funcs++[x.1]⟩ x.2
   else gu T f p (jc T q 2)
  else some (p,q)
def Ca:Pg:=⟨[],[],[]⟩
def oN(T:List Tk)(f:Nat):Option (Pg×Int×Int):=
 (gu T f Ca ⟨0,0,0,0⟩).bind λx=>some (if x.2.fe=0 then (x.1,0,0) else (Ca,x.2.fe,x.2.fa))
end lf
namespace lf
open Ax Go V7
structure eK (T:List Tk)(q r:RQ):Prop where
 le:q.at_<=r.at_
 ub:q.at_<=T.length->r.at_<=T.length
 mV:q.fe≠0->r.fe=q.fe/\r.at_=q.at_
theorem eK.refl(T:List Tk)(q:RQ):eK T q q:=⟨Nat.le_refl _,id,λ_=>⟨rfl,rfl⟩⟩
theorem eK.trans{T:List Tk}{q r s:RQ}(h:eK T q r)(k:eK T r s):eK T q s:=
 ⟨Nat.le_trans h.le k.le,λu=>k.ub (h.ub u),λb=>by
  obtain⟨a1,a2⟩:=h.mV b;obtain⟨b1,b2⟩:=k.mV (by rw[a1];exact b);exact⟨b1.trans a1,b2.trans a2⟩⟩
theorem eK.hJ{T:List Tk}{q r:RQ}(h:eK T q r)(f:r.fe=0):q.fe=0:=by
 apply Classical.byContradiction;intro hn;have:=(h.mV hn).1;rw[f]at this;exact hn this.symm
theorem tN{T:List Tk}{q:RQ}(h:(dQ T q).k≠0):q.at_<T.length:=by
 apply Classical.byContradiction;intro hn;rw[dQ,List.getD,List.getElem?_eq_none (by omega)]at h;exact h rfl
theorem G6(s:List UInt8):jR s≠0:=by
 unfold jR;split;split<;>decide
 decide
theorem bh{T:List Tk}{q:RQ}{s:List UInt8}(h:fP T q s=true):q.fe=0/\q.at_<T.length:=by
 simp only[fP,Bool.and_eq_true,decide_eq_true_eq]at h;exact⟨h.1.1,tN (by rw[h.1.2];exact G6 s)⟩
theorem G7{T:List Tk}{q:RQ}{s:List UInt8}(h:fP T q s=true):(dQ T q).t=s:=by
 simp only[fP,Bool.and_eq_true,decide_eq_true_eq]at h;exact h.2
theorem YD{T:List Tk}{q:RQ}{s:List UInt8}(h:q.fe≠0):fP T q s=false:=by simp[fP,h]
theorem zW{T:List Tk}{q:RQ}{n:Nat}(h:lK n (dQ T q)≠0):q.at_<T.length:=tN (by
 unfold lK at h;split at h;rename_i e;rw[e];decide;exact absurd rfl h)
theorem bY{T:List Tk}{q:RQ}(h:q.fe=0)(h2:q.at_<T.length):eK T q (aA q):=⟨Nat.le_succ _,λ_=>h2,λb=>absurd h b⟩
theorem eG{T:List Tk}{q:RQ}{e:Int}:eK T q (jc T q e):=by
 unfold jc;split;rename_i h;exact⟨Nat.le_refl _,id,λb=>absurd h b⟩;exact eK.refl T q
theorem xI{T:List Tk}{q:RQ}{d:Int}:eK T q (rH q d):=⟨Nat.le_refl _,id,λ_=>⟨rfl,rfl⟩⟩
theorem aI{T:List Tk}{q:RQ}{s:List UInt8}:eK T q (cH T q s):=by
 unfold cH;split;rename_i h;exact bY (bh h).1 (bh h).2;exact eG
theorem fh{T:List Tk}{q:RQ}{s:List UInt8}:eK T q (gC T q s):=by
 unfold gC;split;exact eG;exact aI.trans xI
theorem cD{T:List Tk}{q:RQ}{s:List UInt8}:eK T q (ku T q s):=aI.trans xI
theorem hY{T:List Tk}{q:RQ}:eK T q (cW T q).2:=by
 unfold cW;split;rename_i h;exact bY h.1 (tN (by rw[h.2];decide));exact eG
theorem yV{T:List Tk}{q:RQ}{s:List UInt8}:∀k,eK T q (rI T q s k)
 |0=>eK.refl T q|k+1=>(yV k).trans aI
theorem zX{T:List Tk}:∀(k d:Nat)(q:RQ),eK T q (GY T k d q).2/\(GY T k d q).1<=d+k/\d<=(GY T k d q).1
 |0,d,q=>⟨eK.refl T q,Nat.le_refl _,Nat.le_refl _⟩
 |k+1,d,q=>by
  unfold GY;split;rename_i h;obtain⟨h1,h2,h3⟩:=zX (T:=T) k (d+1) (aA q);exact⟨(bY (bh h).1 (bh h).2).trans h1,by omega,by omega⟩;exact⟨eK.refl T q,by simp,Nat.le_refl _⟩
theorem UU{T:List Tk}{q:RQ}:eK T q (WK T q).2:=by
 unfold WK;split;rename_i h;rw[Bool.or_eq_true]at h;rcases h with h|h<;>exact bY (bh h).1 (bh h).2;exact hY
theorem lZ{T:List Tk}{q:RQ}:eK T q (vl T q).2:=by
 unfold vl;have h:=(zX (T:=T) 3 0 q).1;split;exact h.trans eG;exact(h.trans UU).trans (yV _)
theorem Np{T:List Tk}{q:RQ}:0<=(vl T q).1.2/\(vl T q).1.2<=3:=by
 have h:=(zX (T:=T) 3 0 q).2.1;unfold vl;split;exact⟨Int.le_refl _,by show (0:Int)<=3;decide⟩;refine⟨Int.natCast_nonneg _,?_⟩;simp only;omega
theorem iy{T:List Tk}{q:RQ}:eK T q (cU T q).2:=(hY.trans aI).trans lZ
def mu(T:List Tk)(q:RQ):Nat:=if q.fe=0 then T.length-q.at_+1 else 0
theorem lM{T:List Tk}{q r:RQ}(h:eK T q r):mu T r<=mu T q:=by
 unfold mu;by_cases f:q.fe=0;rw[if_pos f];split;have:=h.le;omega;omega;obtain⟨a1,_⟩:=h.mV f;rw[a1,if_neg f,if_neg f];exact Nat.le_refl _
def vn(T:List Tk)(q r:RQ):Prop:=r.fe≠0\/q.at_<T.length/\q.at_<r.at_
theorem Ey{T:List Tk}{q r:RQ}(f:q.fe=0)(w:vn T q r):mu T r<mu T q:=by
 unfold mu;rw[if_pos f];rcases w with w|⟨w,v⟩;rw[if_neg w];omega;split<;>omega
theorem nP{T:List Tk}{q r:RQ}(h:eK T q r)(w:vn T q r):mu T r<=mu T q-1:=by
 by_cases f:q.fe=0;have:=Ey f w;omega;have h0:mu T q=0:=by unfold mu;rw[if_neg f]
 have:=lM h;omega
theorem rK{T:List Tk}{q:RQ}(f:q.fe=0):0<mu T q:=by unfold mu;rw[if_pos f];omega
theorem eL{T:List Tk}{q:RQ}{e:Int}(he:e≠0):(jc T q e).fe≠0:=by
 unfold jc;split;exact he
 assumption
theorem l5{T:List Tk}{q:RQ}(h:q.at_<T.length):vn T q (aA q):=.inr ⟨h,Nat.lt_succ_self _⟩
theorem jU{T:List Tk}{q:RQ}{s:List UInt8}:vn T q (cH T q s):=by
 unfold cH;split;rename_i h;exact l5 (bh h).2;exact .inl (eL (by decide))
theorem kA{T:List Tk}{q:RQ}{s:List UInt8}:vn T q (gC T q s):=by
 unfold gC;split;exact .inl (eL (by decide));exact jU
theorem oO{T:List Tk}{q:RQ}:vn T q (cW T q).2:=by
 unfold cW;split;rename_i h;exact l5 (tN (by rw[h.2];decide));exact .inl (eL (by decide))
theorem vn.trans{T:List Tk}{q r s:RQ}(w:vn T q r)(h:eK T r s):vn T q s:=by
 rcases w with w|⟨w,v⟩;exact .inl (by rw[(h.mV w).1];exact w);exact .inr ⟨w,Nat.lt_of_lt_of_le v h.le⟩
theorem eK.IF{T:List Tk}{q r s:RQ}(h:eK T q r)(w:vn T r s):vn T q s:=by
 rcases w with w|⟨w,v⟩;exact .inl w;exact .inr ⟨Nat.lt_of_le_of_lt h.le w,Nat.lt_of_le_of_lt h.le v⟩
theorem vo{T:List Tk}{q:RQ}:vn T q (cU T q).2:=(oO.trans aI).trans lZ
theorem kI(T:List Tk):∀f:Nat,(∀n q e r,eY T f n q=some (e,r)->eK T q r)/\(∀n a q e r,iM T f n a q=some (e,r)->eK T q r)/\
  (∀q e r,jA T f q=some (e,r)->eK T q r)/\(∀a q e r,eJ T f a q=some (e,r)->eK T q r)/\(∀q e r,jS T f q=some (e,r)->eK T q r)/\
  (∀q e r,jB T f q=some (e,r)->eK T q r)/\(∀a q e r,kz T f a q=some (e,r)->eK T q r)/\(∀q e r,nN T f q=some (e,r)->eK T q r)/\
  (∀l q e r,nt T f l q=some (e,r)->eK T q r)
 |0=>by simp[eY,iM,jA,eJ,jS,jB,kz,nN,nt]|f+1=>by
  obtain⟨hE,hS,hU,hB,hI,hF,hN,hA,hM⟩:=kI T f;refine⟨λn q e r h=>?_,λn a q e r h=>?_,λq e r h=>?_,λa q e r h=>?_,λq e r h=>?_,λq e r h=>?_,λa q e r h=>?_,λq e r h=>?_,λl q e r h=>?_⟩;unfold eY at h;split at h;exact hU _ _ _ h;obtain⟨⟨x1,x2⟩,h1,h2⟩:=Option.bind_eq_some_iff.1 h;exact(hE _ _ _ _ h1).trans (hS _ _ _ _ _ h2);unfold iM at h;split at h;rename_i c;obtain⟨⟨x1,x2⟩,h1,h2⟩:=Option.bind_eq_some_iff.1 h;exact((bY c.1 (zW c.2)).trans (hE _ _ _ _ h1)).trans (hS _ _ _ _ _ h2);cases h;exact eK.refl _ _;unfold jA at h;split at h;obtain⟨⟨x1,x2⟩,h1,h2⟩:=Option.bind_eq_some_iff.1 h;cases h2;exact(fh.trans (hE _ _ _ _ h1)).trans xI;obtain⟨⟨x1,x2⟩,h1,h2⟩:=Option.bind_eq_some_iff.1 h;exact(hF _ _ _ h1).trans (hB _ _ _ _ h2);unfold eJ at h;split at h;rename_i c;exact((bY (bh c).1 (bh c).2).trans hY).trans (hB _ _ _ _ h);split at h;obtain⟨⟨x1,x2⟩,h1,h2⟩:=Option.bind_eq_some_iff.1 h;exact((fh.trans (hE _ _ _ _ h1)).trans cD).trans (hB _ _ _ _ h2);cases h;exact eK.refl _ _;unfold jS at h;obtain⟨⟨x1,x2⟩,h1,h2⟩:=Option.bind_eq_some_iff.1 h;cases h2;exact(fh.trans (hE _ _ _ _ h1)).trans cD;unfold jB at h;split at h;rename_i c;cases h;exact bY c.1 (tN (by rw[c.2];decide));split at h;rename_i c;cases h;rw[Bool.or_eq_true]at c;rcases c with c|c<;>exact bY (bh c).1 (bh c).2;split at h;rename_i c;cases h;exact(bY (bh c).1 (bh c).2).trans lZ;split at h;rename_i c;exact(bY (bh c).1 (bh c).2).trans (hN _ _ _ _ h);split at h;rename_i c;obtain⟨⟨x1,x2⟩,h1,h2⟩:=Option.bind_eq_some_iff.1 h;cases h2;exact(bY (bh c).1 (bh c).2).trans (hI _ _ _ h1);split at h;rename_i c;cases h;exact((bY (bh c).1 (bh c).2).trans fh).trans cD;split at h;exact hI _ _ _ h;split at h;obtain⟨⟨x1,x2⟩,h1,h2⟩:=Option.bind_eq_some_iff.1 h;cases h2;exact hY.trans (hA _ _ _ h1);cases h;exact hY;unfold kz at h;split at h;rename_i c;obtain⟨⟨x1,x2⟩,h1,h2⟩:=Option.bind_eq_some_iff.1 h;cases h2;exact(((bY (bh c).1 (bh c).2).trans lZ).trans aI).trans (hI _ _ _ h1);cases h;exact hY;unfold nN at h;split at h;cases h;exact fh.trans cD;obtain⟨⟨x1,x2⟩,h1,h2⟩:=Option.bind_eq_some_iff.1 h;exact(fh.trans (hE _ _ _ _ h1)).trans (hM _ _ _ _ h2);unfold nt at h;split at h;rename_i c;obtain⟨⟨x1,x2⟩,h1,h2⟩:=Option.bind_eq_some_iff.1 h;exact((bY (bh c).1 (bh c).2).trans (hE _ _ _ _ h1)).trans (hM _ _ _ _ h2);cases h;exact cD
theorem dK{T:List Tk}{f n:Nat}{q r:RQ}{e:E}(h:eY T f n q=some (e,r)):eK T q r:=(kI T f).1 _ _ _ _ h
theorem bind_some{α β:Type}{x:Option α}{g:α->Option β}(h1:∃a,x=some a)(h2:∀a,x=some a->∃b,g a=some b):∃b,x.bind g=some b:=by
 obtain⟨a,ha⟩:=h1;obtain⟨b,hb⟩:=h2 a ha;exact⟨b,by rw[ha];exact hb⟩
theorem La(T:List Tk):∀f:Nat,(∀n q,n<=5->40*mu T q+12<=f+n->∃x,eY T f n q=some x)/\(∀n a q,n<5->40*mu T q+1<=f->∃x,iM T f n a q=some x)/\
  (∀q,40*mu T q+6<=f->∃x,jA T f q=some x)/\(∀a q,40*mu T q+1<=f->∃x,eJ T f a q=some x)/\(∀q,40*(mu T q-1)+13<=f->∃x,jS T f q=some x)/\
  (∀q,40*mu T q+5<=f->∃x,jB T f q=some x)/\(∀a q,40*mu T q+15<=f->∃x,kz T f a q=some x)/\(∀q,40*(mu T q-1)+13<=f->∃x,nN T f q=some x)/\
  (∀l q,40*mu T q+1<=f->∃x,nt T f l q=some x)
 |0=>by
  refine⟨λn q h1 h2=>?_,λn a q h1 h2=>?_,λq h=>?_,λa q h=>?_,λq h=>?_,λq h=>?_,λa q h=>?_,λq h=>?_,λl q h=>?_⟩<;>omega
 |f+1=>by
  obtain⟨hE,hS,hU,hB,hI,hF,hN,hA,hM⟩:=La T f;obtain⟨gE,gS,gU,gB,gI,gF,gN,gA,gM⟩:=kI T f;refine⟨λn q h1 h2=>?_,λn a q h1 h2=>?_,λq h=>?_,λa q h=>?_,λq h=>?_,λq h=>?_,λa q h=>?_,λq h=>?_,λl q h=>?_⟩;unfold eY;split;exact hU _ (by omega);refine bind_some (hE _ _ (by omega) (by omega)) λ⟨x1,x2⟩ h3=>?_;try dsimp only
  have:=lM (gE _ _ _ _ h3);exact hS _ _ _ (by omega) (by omega);unfold iM;split;rename_i c;have m1:=nP (bY c.1 (zW c.2)) (l5 (zW c.2));have m0:=rK (T:=T) c.1;refine bind_some (hE _ _ (by omega) (by omega)) λ⟨x1,x2⟩ h3=>?_;try dsimp only
  have:=lM (gE _ _ _ _ h3);exact hS _ _ _ (by omega) (by omega);exact⟨_,rfl⟩;unfold jA;split;rename_i c;rw[Bool.or_eq_true]at c;have c0:q.fe=0:=by rcases c with c|c<;>exact(bh c).1
  have m1:=nP (T:=T) (q:=q) (fh (s:=(dQ T q).t)) kA;have m0:=rK (T:=T) c0;exact bind_some (hE _ _ (by omega) (by omega)) λx _=>⟨_,rfl⟩;refine bind_some (hF _ (by omega)) λ⟨x1,x2⟩ h3=>?_;try dsimp only
  have:=lM (gF _ _ _ h3);exact hB _ _ (by omega);unfold eJ;split;rename_i c;have m1:=nP ((bY (bh c).1 (bh c).2).trans hY) ((l5 (bh c).2).trans hY);have m0:=rK (T:=T) (bh c).1;exact hB _ _ (by omega);split;rename_i c;have m0:=rK (T:=T) (bh c).1;have m1:=nP (T:=T) (q:=q) (fh (s:=[91])) kA;refine bind_some (hE _ _ (by omega) (by omega)) λ⟨x1,x2⟩ h3=>?_;try dsimp only
  have m2:=lM ((gE _ _ _ _ h3).trans (cD (s:=[93])));exact hB _ _ (by omega);exact⟨_,rfl⟩;unfold jS;have m1:=nP (T:=T) (q:=q) (fh (s:=[40])) kA;exact bind_some (hE _ _ (by omega) (by omega)) λx _=>⟨_,rfl⟩;unfold jB;split;exact⟨_,rfl⟩;split;exact⟨_,rfl⟩;split;exact⟨_,rfl⟩;split;rename_i c;have m1:=nP (bY (bh c).1 (bh c).2) (l5 (bh c).2);have m0:=rK (T:=T) (bh c).1;exact hN _ _ (by omega);split;rename_i c;have m1:=nP (bY (bh c).1 (bh c).2) (l5 (bh c).2);have m0:=rK (T:=T) (bh c).1;exact bind_some (hI _ (by omega)) λx _=>⟨_,rfl⟩;split;exact⟨_,rfl⟩;split;rename_i c;have m0:=rK (T:=T) (bh c).1;exact hI _ (by omega);split;rename_i c;have m0:=rK (T:=T) (bh c).1;have m1:=lM (T:=T) (q:=q) hY;exact bind_some (hA _ (by omega)) λx _=>⟨_,rfl⟩;exact⟨_,rfl⟩;unfold kz;split;rename_i c;have m1:=lM (((bY (bh c).1 (bh c).2).trans lZ).trans (aI (s:=[93])));exact bind_some (hI _ (by omega)) λx _=>⟨_,rfl⟩;exact⟨_,rfl⟩;unfold nN;split;exact⟨_,rfl⟩;have m1:=nP (T:=T) (q:=q) (fh (s:=[40])) kA;refine bind_some (hE _ _ (by omega) (by omega)) λ⟨x1,x2⟩ h3=>?_;try dsimp only
  have:=lM (gE _ _ _ _ h3);exact hM _ _ (by omega);unfold nt;split;rename_i c;have m1:=nP (bY (bh c).1 (bh c).2) (l5 (bh c).2);have m0:=rK (T:=T) (bh c).1;refine bind_some (hE _ _ (by omega) (by omega)) λ⟨x1,x2⟩ h3=>?_;try dsimp only
  have:=lM (gE _ _ _ _ h3);exact hM _ _ (by omega);exact⟨_,rfl⟩
theorem oP{T:List Tk}{f:Nat}{q:RQ}(h:40*mu T q+12<=f):∃x,eY T f 0 q=some x:=(La T f).1 0 q (by omega) (by omega)
theorem Nq{T:List Tk}{f:Nat}{a:Int}{q r:RQ}{s:Sm}(h:mW T f a q=some (s,r)):eK T q r/\vn T q r:=by
 unfold mW at h;obtain⟨⟨x1,x2⟩,h1,h2⟩:=Option.bind_eq_some_iff.1 h;have g1:=dK h1;dsimp only at h2;split at h2;obtain⟨⟨y1,y2⟩,h3,h4⟩:=Option.bind_eq_some_iff.1 h2;cases h4;have g2:eK T x2 (cH T (if x1.k=4\/x1.k=5\/x1.k=6 then x2 else jc T x2 2) [61]):=by
  refine eK.trans ?_ aI;split;exact eK.refl _ _;exact eG
 have g3:=(g1.trans g2).trans (dK h3);exact⟨g3.trans aI,g3.IF jU⟩;cases h2;have g2:eK T x2 (if fP T x2 [59]=true/\x1.k≠7 then jc T x2 2 else x2):=by
  split;exact eG;exact eK.refl _ _
 exact⟨(g1.trans g2).trans aI,(g1.trans g2).IF jU⟩
theorem lN(T:List Tk):∀f:Nat,(∀q s r,oB T f q=some (s,r)->eK T q r/\vn T q r)/\(∀q s r,gD T f q=some (s,r)->eK T q r/\vn T q r)/\
  (∀l q s r,jT T f l q=some (s,r)->eK T q r)
 |0=>by simp[oB,gD,jT]|f+1=>by
  obtain⟨hS,hB,hL⟩:=lN T f;refine⟨λq s r h=>?_,λq s r h=>?_,λl q s r h=>?_⟩;unfold oB at h;split at h;rename_i c;cases h;have g:=(bY (bh c).1 (bh c).2).trans iy;exact⟨g.trans aI,g.IF jU⟩;split at h;rename_i c;obtain⟨⟨x1,x2⟩,h1,h2⟩:=Option.bind_eq_some_iff.1 h;cases h2;have g:=(((bY (bh c).1 (bh c).2).trans iy).trans aI).trans (dK h1);exact⟨g.trans aI,g.IF jU⟩;split at h;rename_i c;obtain⟨⟨x1,x2⟩,h1,h2⟩:=Option.bind_eq_some_iff.1 h;obtain⟨⟨y1,y2⟩,h3,h4⟩:=Option.bind_eq_some_iff.1 h2;have g1:=(bY (bh c).1 (bh c).2).trans (dK h1);have g:=g1.trans (hB _ _ _ h3).1;have w:=g1.IF (hB _ _ _ h3).2;dsimp only at h4;split at h4;rename_i d;obtain⟨⟨z1,z2⟩,h5,h6⟩:=Option.bind_eq_some_iff.1 h4;cases h6;have g2:=(bY (bh d).1 (bh d).2).trans (hB _ _ _ h5).1;exact⟨g.trans g2,w.trans g2⟩;cases h4;exact⟨g,w⟩;split at h;rename_i c;obtain⟨⟨x1,x2⟩,h1,h2⟩:=Option.bind_eq_some_iff.1 h;obtain⟨⟨y1,y2⟩,h3,h4⟩:=Option.bind_eq_some_iff.1 h2;cases h4;have g1:=(bY (bh c).1 (bh c).2).trans (dK h1);exact⟨g1.trans (hB _ _ _ h3).1,g1.IF (hB _ _ _ h3).2⟩;split at h;rename_i c;have g1:=bY (bh c).1 (bh c).2;split at h;cases h;exact⟨g1.trans aI,g1.IF jU⟩;obtain⟨⟨x1,x2⟩,h1,h2⟩:=Option.bind_eq_some_iff.1 h;cases h2;have g:=g1.trans (dK h1);exact⟨g.trans aI,g.IF jU⟩;split at h;rename_i c;obtain⟨⟨x1,x2⟩,h1,h2⟩:=Option.bind_eq_some_iff.1 h;cases h2;have g:=(bY (bh c).1 (bh c).2).trans (dK h1);exact⟨g.trans aI,g.IF jU⟩;exact Nq h;unfold gD at h;have g:=hL _ _ _ _ h;exact⟨fh.trans g,kA.trans g⟩;unfold jT at h;split at h;obtain⟨⟨x1,x2⟩,h1,h2⟩:=Option.bind_eq_some_iff.1 h;exact(hS _ _ _ h1).1.trans (hL _ _ _ _ h2);cases h;exact cD
theorem Nr{T:List Tk}{f:Nat}{a:Int}{q:RQ}(h:40*mu T q+12<=f):∃x,mW T f a q=some x:=by
 unfold mW;refine bind_some (oP h) λ⟨x1,x2⟩ h1=>?_;try dsimp only
 have m1:=lM (dK h1);split;have g2:eK T x2 (cH T (if x1.k=4\/x1.k=5\/x1.k=6 then x2 else jc T x2 2) [61]):=by
  refine eK.trans ?_ aI;split;exact eK.refl _ _;exact eG
 have m2:=lM g2;exact bind_some (oP (by omega)) λx _=>⟨_,rfl⟩;exact⟨_,rfl⟩
theorem Ez(T:List Tk):∀f:Nat,(∀q,40*mu T q+15<=f->∃x,oB T f q=some x)/\(∀q,40*(mu T q-1)+18<=f->∃x,gD T f q=some x)/\
  (∀l q,40*mu T q+17<=f->∃x,jT T f l q=some x)
 |0=>by refine⟨λq h=>?_,λq h=>?_,λl q h=>?_⟩<;>omega|f+1=>by
  obtain⟨hS,hB,hL⟩:=Ez T f;obtain⟨gS,gB,gL⟩:=lN T f;refine⟨λq h=>?_,λq h=>?_,λl q h=>?_⟩;have one:∀s,fP T q s=true->mu T (aA q)<=mu T q-1/\0<mu T q:=λs c=>⟨nP (bY (bh c).1 (bh c).2) (l5 (bh c).2),rK (bh c).1⟩;unfold oB;split;exact⟨_,rfl⟩;split;rename_i c;have m0:=one _ c;have m1:=lM (T:=T) (q:=aA q) (iy.trans (aI (s:=[61])));exact bind_some (oP (by omega)) λx _=>⟨_,rfl⟩;split;rename_i c;have m0:=one _ c;refine bind_some (oP (by omega)) λ⟨x1,x2⟩ h1=>?_;try dsimp only
  have m1:=lM (dK h1);refine bind_some (hB _ (by omega)) λ⟨y1,y2⟩ h2=>?_;try dsimp only
  have m2:=lM (gB _ _ _ h2).1;split;rename_i d;have m3:=lM (bY (bh d).1 (bh d).2);exact bind_some (hB _ (by omega)) λx _=>⟨_,rfl⟩;exact⟨_,rfl⟩;split;rename_i c;have m0:=one _ c;refine bind_some (oP (by omega)) λ⟨x1,x2⟩ h1=>?_;try dsimp only
  have m1:=lM (dK h1);exact bind_some (hB _ (by omega)) λx _=>⟨_,rfl⟩;split;rename_i c;have m0:=one _ c;split;exact⟨_,rfl⟩;exact bind_some (oP (by omega)) λx _=>⟨_,rfl⟩;split;rename_i c;have m0:=one _ c;exact bind_some (oP (by omega)) λx _=>⟨_,rfl⟩;exact Nr (by omega);unfold gD;have m1:=nP (T:=T) (q:=q) (fh (s:=[123])) kA;exact hL _ _ (by omega);unfold jT;split;rename_i c;refine bind_some (hS _ (by omega)) λ⟨x1,x2⟩ h1=>?_;try dsimp only
  have m1:=Ey c.1 (gS _ _ _ h1).2;exact hL _ _ (by omega);exact⟨_,rfl⟩
theorem kB{T:List Tk}{f:Nat}{q r:RQ}{s:List Sm}(h:gD T f q=some (s,r)):eK T q r/\vn T q r:=(lN T f).2.1 _ _ _ h
theorem EA{T:List Tk}{f:Nat}{q:RQ}(h:40*mu T q+18<=f):∃x,gD T f q=some x:=(Ez T f).2.1 _ (by omega)
theorem sX(T:List Tk):∀(f:Nat)(l:List PD)(q:RQ)(s:List PD)(r:RQ),gZ T f l q=some (s,r)->eK T q r
 |0,_,_,_,_,h=>by simp[gZ]at h|f+1,l,q,s,r,h=>by
  unfold gZ at h;split at h;split at h;cases h;exact eG;exact(iy.trans aI).trans (sX T f _ _ _ _ h);cases h;exact eK.refl _ _
theorem Cb(T:List Tk):∀(f:Nat)(l:List PD)(q:RQ),mu T q<f->∃x,gZ T f l q=some x
 |0,_,_,h=>absurd h (by omega)|f+1,l,q,h=>by
  unfold gZ;split;rename_i c;split;exact⟨_,rfl⟩;have:=Ey c.1 ((vo (T:=T) (q:=q)).trans (aI (s:=[59])));exact Cb T f _ _ (by omega);exact⟨_,rfl⟩
theorem wL{T:List Tk}{f:Nat}{q r:RQ}{s:Rc}(h:lY T f q=some (s,r)):eK T q r/\vn T q r:=by
 unfold lY at h;obtain⟨⟨x1,x2⟩,h1,h2⟩:=Option.bind_eq_some_iff.1 h;cases h2;have g:=(aI (T:=T) (s:=[123])).trans (sX T f _ _ _ _ h1);exact⟨(hY.trans g).trans aI,((oO.trans g)).trans aI⟩
theorem Lc{T:List Tk}{f:Nat}{q:RQ}(h:mu T q<f):∃x,lY T f q=some x:=by
 unfold lY;have m:=lM (T:=T) (q:=q) (hY.trans (aI (s:=[123])));exact bind_some (Cb T f _ _ (by omega)) λx _=>⟨_,rfl⟩
theorem oQ{T:List Tk}{q:RQ}:eK T q (vm T q):=by
 unfold vm;split;exact eK.refl _ _;split;exact aI.trans eG;exact aI
theorem nu(T:List Tk):∀(f:Nat)(l:List PD)(q:RQ)(s:List PD)(r:RQ),gK T f l q=some (s,r)->eK T q r
 |0,_,_,_,_,h=>by simp[gK]at h|f+1,l,q,s,r,h=>by
  unfold gK at h;split at h;split at h;cases h;exact eG;exact(iy.trans oQ).trans (nu T f _ _ _ _ h);cases h;exact eK.refl _ _
theorem Cc(T:List Tk):∀(f:Nat)(l:List PD)(q:RQ),mu T q<f->∃x,gK T f l q=some x
 |0,_,_,h=>absurd h (by omega)|f+1,l,q,h=>by
  unfold gK;split;rename_i c;split;exact⟨_,rfl⟩;have:=Ey c.1 ((vo (T:=T) (q:=q)).trans oQ);exact Cc T f _ _ (by omega);exact⟨_,rfl⟩
theorem Be{T:List Tk}{f:Nat}{q r:RQ}{s:Fc}(h:rJ T f q=some (s,r)):eK T q r/\vn T q r:=by
 unfold rJ at h;obtain⟨⟨x1,x2⟩,h1,h2⟩:=Option.bind_eq_some_iff.1 h;have g:=((aI (T:=T) (s:=[40])).trans (nu T f _ _ _ _ h1)).trans (aI (s:=[41]));have gg:=hY.trans g;dsimp only at h2;split at h2;rename_i d;obtain⟨⟨y1,y2⟩,h3,h4⟩:=Option.bind_eq_some_iff.1 h2;cases h4;have g2:=((bY (bh d).1 (bh d).2).trans lZ).trans (kB h3).1;exact⟨gg.trans g2,(oO.trans g).trans g2⟩;obtain⟨⟨y1,y2⟩,h3,h4⟩:=Option.bind_eq_some_iff.1 h2;cases h4;have g2:=(kB h3).1;exact⟨gg.trans g2,(oO.trans g).trans g2⟩
theorem Q7{T:List Tk}{f:Nat}{q:RQ}(h:40*mu T q+18<=f):∃x,rJ T f q=some x:=by
 unfold rJ;have m:=lM (T:=T) (q:=q) (hY.trans (aI (s:=[40])));refine bind_some (Cc T f _ _ (by omega)) λ⟨x1,x2⟩ h1=>?_;try dsimp only
 have m1:=lM ((nu T f _ _ _ _ h1).trans (aI (s:=[41])));split;rename_i d;have m2:=lM ((bY (bh d).1 (bh d).2).trans lZ);exact bind_some (EA (by omega)) λx _=>⟨_,rfl⟩;exact bind_some (EA (by omega)) λx _=>⟨_,rfl⟩
theorem qP(T:List Tk):∀(f:Nat)(p:Pg)(q:RQ),40*mu T q+19<=f->∃x,gu T f p q=some x
 |0,_,_,h=>absurd h (by omega)|f+1,p,q,h=>by
  unfold gu;split;rename_i c;have m0:=rK (T:=T) c.1;have w1:=Ey c.1 (T:=T) (r:=jc T q 4) (.inl (eL (by decide)));have w2:=Ey c.1 (T:=T) (r:=jc T q 2) (.inl (eL (by decide)));have m1:=Ey c.1 (l5 (tN c.2));split;exact qP T f _ _ (by omega);split;refine bind_some (Lc (by omega)) λ⟨x1,x2⟩ h1=>?_;try dsimp only
  have:=lM (wL h1).1;exact qP T f _ _ (by omega);split;have:=lM (T:=T) (q:=aA q) (iy.trans (aI (s:=[59])));exact qP T f _ _ (by omega);split;refine bind_some (Q7 (by omega)) λ⟨x1,x2⟩ h1=>?_;try dsimp only
  have:=lM (Be h1).1;exact qP T f _ _ (by omega);exact qP T f _ _ (by omega);exact⟨_,rfl⟩
theorem pK(T:List Tk):∃x,oN T (40*T.length+100)=some x:=by
 unfold oN;exact bind_some (qP T _ _ _ (by simp[mu];omega)) λx _=>⟨_,rfl⟩
end lf
namespace lf
open Ax Go V7
def InN(T:List Tk)(N:Int):Prop:=0<=N/\∀x∈T,0<=x.a/\x.a<=N
theorem IG{T:List Tk}{N:Int}(h:InN T N)(q:RQ):0<=(dQ T q).a/\(dQ T q).a<=N:=by
 by_cases hl:q.at_<T.length;have:dQ T q=T[q.at_]:=by simp[dQ,hl]
 rw[this];exact h.2 _ (List.getElem_mem hl);have hc:dQ T q=Tk0:=by simp[dQ,List.getD,List.getElem?_eq_none (Nat.le_of_not_lt hl)]
 rw[hc];exact⟨Int.le_refl _,h.1⟩
def II(N:Int)(p:PD):Prop:=0<=p.od/\p.od<=3/\0<=p.at_/\p.at_<=N
theorem EB{T:List Tk}{N:Int}(h:InN T N)(q:RQ):II N (cU T q).1:=⟨Np.1,Np.2,(IG h q).1,(IG h q).2⟩
structure Rc.In (N:Int)(r:Rc):Prop where
 a:0<=r.a/\r.a<=N
 len:r.bH.length<=9
 f:∀p∈r.bH,II N p
structure Fc.In (N:Int)(r:Fc):Prop where
 a:0<=r.a/\r.a<=N
 len:r.params.length<=7
 f:∀p∈r.params,II N p
 od:0<=r.od/\r.od<=3
structure Pg.In (N:Int)(p:Pg):Prop where
 r:p.bz.length<=12/\∀x∈p.bz,Rc.In N x
 g:p.aH.length<=8/\∀x∈p.aH,II N x
 f:p.funcs.length<=16/\∀x∈p.funcs,Fc.In N x
theorem rL{α:Type}{P:α->Prop}{l:List α}{a:α}(h:∀x∈l,P x)(ha:P a):∀x∈l++[a],P x:=by
 intro x hx;rcases List.mem_append.1 hx with h1|h1;exact h x h1;rw[List.mem_singleton.1 h1];exact ha
theorem Ld{T:List Tk}{q:RQ}(h:(dQ T q).k≠1):(cW T q).2.fe≠0:=by
 unfold cW;rw[if_neg (λe=>h e.2)];exact eL (by decide)
theorem xJ{T:List Tk}{q:RQ}(h:(dQ T q).k≠1):(cU T q).2.fe≠0:=by
 have g:eK T (cW T q).2 (cU T q).2:=aI.trans lZ;rw[(g.mV (Ld h)).1];exact Ld h
theorem G8{T:List Tk}{N:Int}(hN:InN T N):∀(f:Nat)(l:List PD)(q:RQ)(s:List PD)(r:RQ),gZ T f l q=some (s,r)->(∀p∈l,II N p)->(l.length<=8\/q.fe≠0/\l.length<=9)->
  (∀p∈s,II N p)/\(s.length<=8\/r.fe≠0/\s.length<=9)
 |0,_,_,_,_,h,_,_=>by simp[gZ]at h|f+1,l,q,s,r,h,hl,hn=>by
  unfold gZ at h;split at h;rename_i c;have h8:l.length<=8:=by
   rcases hn with hn|hn;exact hn;exact absurd c.1 hn.1
  split at h;rename_i c2;cases h;exact⟨hl,.inl h8⟩;rename_i c2;refine G8 hN f _ _ _ _ h (rL hl (EB hN q)) ?_;by_cases hk:(dQ T q).k=1;exact .inl (by
   have:l.length≠8:=λe=>c2 ⟨hk,e⟩;simp;omega)
  refine .inr ⟨?_,by simp;omega⟩;have g:=aI (T:=T) (q:=(cU T q).2) (s:=[59]);rw[(g.mV (xJ hk)).1];exact xJ hk;cases h;exact⟨hl,hn⟩
theorem G9{T:List Tk}{N:Int}(hN:InN T N):∀(f:Nat)(l:List PD)(q:RQ)(s:List PD)(r:RQ),gK T f l q=some (s,r)->(∀p∈l,II N p)->(l.length<=6\/q.fe≠0/\l.length<=7)->
  (∀p∈s,II N p)/\(s.length<=6\/r.fe≠0/\s.length<=7)
 |0,_,_,_,_,h,_,_=>by simp[gK]at h|f+1,l,q,s,r,h,hl,hn=>by
  unfold gK at h;split at h;rename_i c;have h8:l.length<=6:=by
   rcases hn with hn|hn;exact hn;exact absurd c.1 hn.1
  split at h;rename_i c2;cases h;exact⟨hl,.inl h8⟩;rename_i c2;refine G9 hN f _ _ _ _ h (rL hl (EB hN q)) ?_;by_cases hk:(dQ T q).k=1;exact .inl (by
   have:l.length≠6:=λe=>c2 ⟨hk,e⟩;simp;omega)
  refine .inr ⟨?_,by simp;omega⟩;have g:=oQ (T:=T) (q:=(cU T q).2);rw[(g.mV (xJ hk)).1];exact xJ hk;cases h;exact⟨hl,hn⟩
theorem Q8{T:List Tk}{N:Int}(hN:InN T N){f:Nat}{q r:RQ}{s:Rc}(h:lY T f q=some (s,r)):Rc.In N s/\(r.fe=0->s.bH.length<=8):=by
 unfold lY at h;obtain⟨⟨x1,x2⟩,h1,h2⟩:=Option.bind_eq_some_iff.1 h;cases h2;obtain⟨a,b⟩:=G8 hN _ _ _ _ _ h1 (by simp) (by simp);refine⟨⟨IG hN q,by rcases b with b|b<;>simp only<;>omega,a⟩,λe=>?_⟩;rcases b with b|b;exact b;exact absurd (aI.hJ e) b.1
theorem YE{T:List Tk}{N:Int}(hN:InN T N){f:Nat}{q r:RQ}{s:Fc}(h:rJ T f q=some (s,r)):Fc.In N s/\(r.fe=0->s.params.length<=6):=by
 unfold rJ at h;obtain⟨⟨x1,x2⟩,h1,h2⟩:=Option.bind_eq_some_iff.1 h;obtain⟨a,b⟩:=G9 hN _ _ _ _ _ h1 (by simp) (by simp);have hc:=IG hN q;have mM:∀r:RQ,eK T x2 r->r.fe=0->x1.length<=6:=λr g e=>by
  rcases b with b|b;exact b;exact absurd (g.hJ e) b.1
 have b7:x1.length<=7:=by rcases b with b|b<;>omega
 dsimp only at h2;split at h2;rename_i d;obtain⟨⟨y1,y2⟩,h3,h4⟩:=Option.bind_eq_some_iff.1 h2;cases h4;exact⟨⟨hc,b7,a,Np⟩,mM _ (((aI.trans (bY (bh d).1 (bh d).2)).trans lZ).trans (kB h3).1)⟩;obtain⟨⟨y1,y2⟩,h3,h4⟩:=Option.bind_eq_some_iff.1 h2;cases h4;exact⟨⟨hc,b7,a,Int.le_refl _,by show (0:Int)<=3;decide⟩,mM _ (aI.trans (kB h3).1)⟩
def Pg.few(p:Pg):Prop:=(∀x∈p.bz,x.bH.length<=8)/\∀x∈p.funcs,x.params.length<=6
theorem xK{T:List Tk}{N:Int}(hN:InN T N):∀(f:Nat)(p:Pg)(q:RQ)(s:Pg)(r:RQ),gu T f p q=some (s,r)->Pg.In N p->(q.fe=0->p.few)->Pg.In N s/\(r.fe=0->s.few)
 |0,_,_,_,_,h,_,_=>by simp[gu]at h|f+1,p,q,s,r,h,hp,hf=>by
  unfold gu at h;split at h;rename_i c;split at h;exact xK hN f _ _ _ _ h hp λe=>absurd e (eL (by decide));rename_i J;split at h;rename_i d;obtain⟨⟨x1,x2⟩,h1,h2⟩:=Option.bind_eq_some_iff.1 h;obtain⟨i1,i2⟩:=Q8 hN h1;have:p.bz.length≠12:=λe=>J (.inl ⟨d,e⟩);have:=hp.r.1;exact xK hN f _ _ _ _ h2 ⟨⟨by simp;omega,rL hp.r.2 i1⟩,hp.g,hp.f⟩ λe=>⟨rL (hf c.1).1 (i2 e),(hf c.1).2⟩;split at h;rename_i d;have:p.aH.length≠8:=λe=>J (.inr (.inl ⟨d,e⟩));have:=hp.g.1;exact xK hN f _ _ _ _ h ⟨hp.r,⟨by simp;omega,rL hp.g.2 (EB hN _)⟩,hp.f⟩ λe=>hf c.1;split at h;rename_i d;obtain⟨⟨x1,x2⟩,h1,h2⟩:=Option.bind_eq_some_iff.1 h;obtain⟨i1,i2⟩:=YE hN h1;have:p.funcs.length≠16:=λe=>J (.inr (.inr ⟨d,e⟩));have:=hp.f.1;exact xK hN f _ _ _ _ h2 ⟨hp.r,hp.g,⟨by simp;omega,rL hp.f.2 i1⟩⟩ λe=>⟨(hf c.1).1,rL (hf c.1).2 (i2 e)⟩;exact xK hN f _ _ _ _ h hp λe=>absurd e (eL (by decide));cases h;exact⟨hp,hf⟩
theorem IJ{N:Int}:Pg.In N Ca:=⟨⟨by simp[Ca],by simp[Ca]⟩,⟨by simp[Ca],by simp[Ca]⟩,⟨by simp[Ca],by simp[Ca]⟩⟩
theorem C7:Ca.few:=⟨by simp[Ca],by simp[Ca]⟩
theorem Q9{T:List Tk}{N:Int}(hN:InN T N){f:Nat}{x:Pg×Int×Int}(h:oN T f=some x):Pg.In N x.1/\x.1.few:=by
 unfold oN at h;obtain⟨⟨x1,x2⟩,h1,h2⟩:=Option.bind_eq_some_iff.1 h;obtain⟨a,b⟩:=xK hN _ _ _ _ _ h1 IJ λ_=>C7;simp only[Option.some.injEq]at h2;subst h2;split;rename_i e;exact⟨a,b e⟩;exact⟨IJ,C7⟩
end lf
namespace mG
open Ax Go V7 lf
abbrev tI:T3:=⟨1,0,0⟩
abbrev tB:T3:=⟨2,0,0⟩
structure Vd where
 nm:List UInt8
 ty:T3
 deriving DecidableEq
structure Sg where
 nm:List UInt8
 ps:List Vd
 ct:Bool
 res:T3
structure Hd where
 rs:List (List UInt8)
 bZ:List (List UInt8×List Vd)
 aH:List Vd
 cu:List Sg
def mq(rs:List (List UInt8))(l:List PD):List Vd:=l.map λq=>⟨q.name,(dA rs q.on q.od).1⟩
def cz(p:Pg):List (List UInt8):=p.bz.map (·.name)
def FU(rs:List (List UInt8))(f:Fc):Sg:=⟨f.name,mq rs f.params,f.ct,if f.ct then (dA rs f.on f.od).1 else T0⟩
def aU(p:Pg):Hd:=⟨cz p,p.bz.map λr=>(r.name,mq (cz p) r.bH),mq (cz p) p.aH,p.funcs.map (FU (cz p))⟩
def js(s:List UInt8):Nat->List Vd->Option (Nat×T3)
 |_,[]=>none|i,f::l=>if f.nm=s then some (i,f.ty) else js s (i+1) l
def CG(H:Hd)(V:List Vd)(s:List UInt8):Option (T3×Int):=match js s 0 V with
 |some (k,t)=>some (t,(k:Int))|none=>match js s 0 H.aH with
  |some (k,t)=>some (t,-1-(k:Int))|none=>none
def qj(s:List UInt8):Nat->List Sg->Option (Nat×Sg)
 |_,[]=>none|i,g::l=>if g.nm=s then some (i,g) else qj s (i+1) l
def kT:List Vd->List E->Bool
 |[],[]=>true|f::l,e::r=>decide (e.ty=f.ty)&&kT l r|_,_=>false
def dR(k n:Int)(m:Nat):Bool:=
 if k=1\/k=3\/k=4\/k=8\/k=11 then decide (m=0)
 else if k=2 then decide (m=0)&&(decide (n=0)||decide (n=1))
 else if k=7 then true
 else if k=5\/k=9\/k=10\/k=12\/k=13 then decide (m=1)
 else (decide (k=6)||decide (14<=k)&&decide (k<=24))&&decide (m=2)
def xL(ks:List E):T3:=match ks with|e::_=>e.ty | []=>T0
def EC(ks:List E):T3:=match ks with|_::e::_=>e.ty|_=>T0
def oC(k n:Int):Int:=if k=1\/k=2 then n else 0
def jV(k:Int)(nm:List UInt8):List UInt8:=if k=4\/k=5\/k=7 then nm else []
def kU(k:Int)(on:List UInt8):List UInt8:=if k=3\/k=8\/k=9 then on else []
def kV(k:Int)(od:Int):Int:=if k=3\/k=8\/k=9 then od else 0
def Le(b:Bool)(t:T3):Option (T3×Int):=if b then some (t,0) else none
def Bf(H:Hd)(t:T3)(nm:List UInt8):Option (T3×Int):=if t.b=3/\t.d=0 then match H.bZ[t.r.toNat]? with
  |some s=>match js nm 0 s.2 with
   |some (i,u)=>some (u,(i:Int))|none=>none
  |none=>none
 else none
def ED(H:Hd)(nm:List UInt8)(ks:List E):Option (T3×Int):=match qj nm 0 H.cu with
 |some (i,s)=>if kT s.ps ks then some (s.res,(i:Int)) else none
 |none=>none
def Ns(k:Int)(a b:T3):Option (T3×Int):=
 if k=14\/k=15\/k=16\/k=17\/k=18 then Le (decide (a=tI)&&decide (b=tI)) tI
 else if k=19\/k=20 then Le (decide (a=tI)&&decide (b=tI)) tB
 else if k=21\/k=22 then Le (decide (a=b)) tB
 else Le (decide (a=tB)&&decide (b=tB)) tB
def pL(H:Hd)(V:List Vd)(k:Int)(nm on:List UInt8)(od:Int)(ks:List E):Option (T3×Int):=
 if k=1\/k=11 then some (tI,0)
 else if k=2 then some (tB,0)
 else if k=3 then Le ((dA H.rs on od).2&&ac0 (dA H.rs on od).1) (dA H.rs on od).1
 else if k=4 then CG H V nm
 else if k=5 then Bf H (xL ks) nm
 else if k=6 then Le (decide (0<(xL ks).d)&&decide (EC ks=tI)) ⟨(xL ks).b,(xL ks).r,(xL ks).d-1⟩
 else if k=7 then ED H nm ks
 else if k=8 then Le ((dA H.rs on od).2&&decide ((dA H.rs on od).1.b=3)&&decide ((dA H.rs on od).1.d=0)) (dA H.rs on od).1
 else if k=9 then Le ((dA H.rs on od).2&&decide ((dA H.rs on od).1.d<3)&&decide (xL ks=tI)) ⟨(dA H.rs on od).1.b,(dA H.rs on od).1.r,(dA H.rs on od).1.d+1⟩
 else if k=10 then Le (decide (0<(xL ks).d)) tI
 else if k=12 then Le (decide (xL ks=tI)) tI
 else if k=13 then Le (decide (xL ks=tB)) tB
 else Ns k (xL ks) (EC ks)
mutual
def xM(H:Hd)(V:List Vd):E->Except Int E
 |.mk k n nm on od ay a _ _=>if dR k n ay.length then
   match oh H V ay with
   |.error x=>.error x|.ok ks=>match pL H V k nm on od ks with
    |none=>.error a|some (t,r)=>.ok (.mk k (oC k n) (jV k nm) (kU k on) (kV k od) ks a t r)
  else .error a
def oh(H:Hd)(V:List Vd):List E->Except Int (List E)
 |[]=>.ok []|e::l=>match xM H V e with
  |.error x=>.error x|.ok y=>if y.ty=T0 then .error y.a else match oh H V l with
   |.error x=>.error x|.ok ys=>.ok (y::ys)
end
def eu(ct:Bool)(k:Int)(es:List E):Bool:=
 if k=1 then decide (es.length=0)
 else if k=4 then match es with | [e,_]=>decide (e.k=5)||decide (e.k=6)|_=>false
 else if k=7 then decide (es.length=1)&&ct||decide (es.length=0) && !ct
 else if k=9 then match es with | [e]=>decide (e.k=7)|_=>false
 else if k=2\/k=3\/k=5\/k=6\/k=8 then decide (es.length=1)
 else false
def mH(H:Hd)(res:T3)(V:List Vd)(k:Int)(nm:List UInt8)(es:List E)(t:T3):Option (Int×List Vd):=
 if k=1 then (match js nm 0 V with|some _=>none|none=>some ((V.length:Int),V++[⟨nm,t⟩]))
 else if k=2 then (if xL es=t then match js nm 0 V with|some _=>none|none=>some ((V.length:Int),V++[⟨nm,t⟩]) else none)
 else if k=3 then (match CG H V nm with|some (u,r)=>if u=xL es then some (r,V) else none|none=>none)
 else if k=4 then (if xL es=EC es then some (0,V) else none)
 else if k=5\/k=6 then (if xL es=tB then some (0,V) else none)
 else if k=7 then (if es.length=0\/xL es=res then some (0,V) else none)
 else if k=8 then (if xL es=tI then some (0,V) else none)
 else some (0,V)
def nQ(H:Hd)(k:Int)(on:List UInt8)(od:Int):Option T3:=if k=1\/k=2 then (if (dA H.rs on od).2 then some (dA H.rs on od).1 else none) else some T0
def zY(H:Hd)(V:List Vd)(k:Int)(es:List E):Except Int (List E):=if k=9 then match es with
  |e::_=>match xM H V e with
   |.error x=>.error x|.ok y=>.ok [y]
  |[]=>.ok []
 else oh H V es
def cv(k:Int)(nm:List UInt8):List UInt8:=if k=1\/k=2\/k=3 then nm else []
def bI(k:Int)(on:List UInt8):List UInt8:=if k=1\/k=2 then on else []
def bJ(k:Int)(od:Int):Int:=if k=1\/k=2 then od else 0
mutual
def zh(H:Hd)(ct:Bool)(res:T3):List Vd->Sm->Except Int (Sm×List Vd)
 |V,.mk k nm on od es bd el a _=>if eu ct k es then
   match nQ H k on od with
   |none=>.error a|some t=>match zY H V k es with
    |.error x=>.error x|.ok ys=>match mH H res V k nm ys t with
     |none=>.error a|some (r,W)=>if k=5 then
       match kW H ct res W bd with
       |.error x=>.error x|.ok (b,W1)=>match kW H ct res W1 el with
        |.error x=>.error x|.ok (c,W2)=>.ok (.mk k (cv k nm) (bI k on) (bJ k od) ys b c a r,W2)
      else if k=6 then
       match kW H ct res W bd with
       |.error x=>.error x|.ok (b,W1)=>.ok (.mk k (cv k nm) (bI k on) (bJ k od) ys b [] a r,W1)
      else .ok (.mk k (cv k nm) (bI k on) (bJ k od) ys [] [] a r,W)
  else .error a
def kW(H:Hd)(ct:Bool)(res:T3):List Vd->List Sm->Except Int (List Sm×List Vd)
 |V,[]=>.ok ([],V)|V,s::l=>match zh H ct res V s with
  |.error x=>.error x|.ok (y,W)=>match kW H ct res W l with
   |.error x=>.error x|.ok (ys,X)=>.ok (y::ys,X)
end
structure Bd where
 vars:List Vd
 code:List Sm
 a:Int
def pM(H:Hd):List Sg->List Fc->Except Int (List Bd)
 |s::ss,f::fs=>match kW H s.ct s.res s.ps f.body with
  |.error x=>.error x|.ok (c,W)=>match pM H ss fs with
   |.error x=>.error x|.ok l=>.ok (⟨W,c,f.a⟩::l)
 |_,_=>.ok []
def Vd.aG(f:Vd):List AV:=.str f.nm::f.ty.cells
def cM(l:List Vd):AV:=aK 4 (l.map Vd.aG)
def Sg.aG(s:Sg):List AV:=[.str s.nm,cM s.ps,.bool s.ct,.int .i64 s.res.b,.int .i64 s.res.r,.int .i64 s.res.d]
def gV(s:List UInt8×List Vd):List AV:=[.str s.1,cM s.2]
def Bd.aG(b:Bd):List AV:=[cM b.vars,bF b.code,.int .i64 b.a]
end mG
namespace mG
open Ax Go V7 lf
theorem E.xN{P:E->Prop}(h:∀e,(∀x∈e.ay,P x)->P e)(e:E):P e:=h e λx _=>E.xN h x
termination_by sizeOf e
decreasing_by
 have hx:x∈e.ay:=by assumption
 cases e;simp only[E.ay]at hx;have:=List.sizeOf_lt_of_mem hx;simp only[E.mk.sizeOf_spec];omega
theorem Sm.xN{P:Sm->Prop}(h:∀s,(∀x∈s.bd,P x)->(∀x∈s.el,P x)->P s)(s:Sm):P s:=h s (λx _=>Sm.xN h x) λx _=>Sm.xN h x
termination_by sizeOf s
decreasing_by
 all_goals
  rename_i hx;cases s;simp only[Sm.bd,Sm.el]at hx;have:=List.sizeOf_lt_of_mem hx;simp only[Sm.mk.sizeOf_spec];omega
mutual
def E.sz:E->Nat
 |.mk _ _ _ _ _ ay _ _ _=>1+E.ey ay
def E.ey:List E->Nat
 |[]=>0|e::l=>E.sz e+E.ey l
end
theorem E.Nt(e:E):0<E.sz e:=by cases e;simp only[E.sz];omega
theorem E.fo:∀l:List E,l.length<=E.ey l
 |[]=>Nat.le_refl _|e::l=>by
  have:=E.fo l;have:=E.Nt e;simp only[E.ey,List.length_cons];omega
theorem E.cR:∀{l:List E}{e:E},e∈l->E.sz e<=E.ey l
 |[],_,h=>by cases h|x::l,e,h=>by
  rcases List.mem_cons.1 h with h|h;subst h;simp only[E.ey];omega;have:=E.cR h;simp only[E.ey];omega
theorem E.vp(e:E):E.sz e=1+E.ey e.ay:=by cases e;rfl
def WT(n:Nat)(t:T3):Prop:=0<=t.d/\t.d<=3/\(t.b=3->0<=t.r/\t.r<n)
structure Hd.ok (H:Hd):Prop where
 rs:H.rs.length=H.bZ.length
 bZ:∀s∈H.bZ,∀f∈s.2,WT H.rs.length f.ty
 aH:∀f∈H.aH,WT H.rs.length f.ty
 cu:∀s∈H.cu,WT H.rs.length s.res/\∀f∈s.ps,WT H.rs.length f.ty
theorem UW{n:Nat}:WT n T0:=⟨Int.le_refl _,by decide,λh=>by cases h⟩
theorem YF{n:Nat}:WT n tI:=⟨Int.le_refl _,by decide,λh=>by cases h⟩
theorem UX{n:Nat}:WT n tB:=⟨Int.le_refl _,by decide,λh=>by cases h⟩
theorem pz(l:List (List UInt8))(s:List UInt8)(d:Int):WT l.length (dA l s d).1:=by
 unfold dA;split;exact UW;rename_i h;have hd:0<=d/\d<=3:=by omega
 split;exact⟨hd.1,hd.2,λh=>by cases h⟩;split;exact⟨hd.1,hd.2,λh=>by cases h⟩;split;exact UW;rename_i h;refine⟨hd.1,hd.2,λ_=>?_⟩;rcases OQ l s with e|⟨k,e,hk⟩;rw[e]at h;exact absurd (by decide) h;simp only;rw[e];omega
theorem zZ{s:List UInt8}:∀{l:List Vd}{i k:Nat}{t:T3},js s i l=some (k,t)->∃f∈l,f.ty=t
 |[],_,_,_,h=>by cases h|f::l,i,k,t,h=>by
  unfold js at h;split at h;cases h;exact⟨f,List.mem_cons_self,rfl⟩;obtain⟨g,h1,h2⟩:=zZ h;exact⟨g,List.mem_cons_of_mem _ h1,h2⟩
theorem He{s:List UInt8}:∀{l:List Sg}{i k:Nat}{t:Sg},qj s i l=some (k,t)->t∈l
 |[],_,_,_,h=>by cases h|f::l,i,k,t,h=>by
  unfold qj at h;split at h;cases h;exact List.mem_cons_self;exact List.mem_cons_of_mem _ (He h)
theorem rM{n:Nat}{b:Bool}{t u:T3}{r:Int}(h:Le b t=some (u,r))(ht:b=true->WT n t):WT n u:=by
 cases b with
 |false=>cases h|true=>cases h;exact ht rfl
theorem ac3{H:Hd}{V:List Vd}{s:List UInt8}{t:T3}{r:Int}(hH:H.ok)(hV:∀f∈V,WT H.rs.length f.ty)(h:CG H V s=some (t,r)):WT H.rs.length t:=by
 unfold CG at h;split at h;rename_i k u e;cases h;obtain⟨f,h1,h2⟩:=zZ e;rw[<-h2];exact hV f h1;split at h;rename_i k u e;cases h;obtain⟨f,h1,h2⟩:=zZ e;rw[<-h2];exact hH.aH f h1;cases h
theorem ac4{H:Hd}{V:List Vd}{k:Int}{nm on:List UInt8}{od:Int}{ks:List E}{t:T3}{r:Int}(hH:H.ok)(hV:∀f∈V,WT H.rs.length f.ty)(hk:∀e∈ks,WT H.rs.length e.ty)(h:pL H V k nm on od ks=some (t,r)):WT H.rs.length t:=by
 have h1:WT H.rs.length (xL ks):=by
  unfold xL;split;exact hk _ List.mem_cons_self;exact UW
 have hty:=pz H.rs on od;unfold pL at h;by_cases c1:k=1\/k=11;rw[if_pos c1]at h;cases h;exact YF;rw[if_neg c1]at h;by_cases c2:k=2;rw[if_pos c2]at h;cases h;exact UX;rw[if_neg c2]at h;by_cases c3:k=3;rw[if_pos c3]at h;exact rM h λ_=>hty;rw[if_neg c3]at h;by_cases c4:k=4;rw[if_pos c4]at h;exact ac3 hH hV h;rw[if_neg c4]at h;by_cases c5:k=5;rw[if_pos c5]at h;unfold Bf at h;split at h;split at h;rename_i s hs;split at h;rename_i i u e;cases h;obtain⟨f,h2,h3⟩:=zZ e;rw[<-h3];exact hH.bZ _ (List.mem_of_getElem? hs) f h2;cases h;cases h;cases h;rw[if_neg c5]at h;by_cases c6:k=6;rw[if_pos c6]at h;refine rM h λhb=>?_;simp only[Bool.and_eq_true,decide_eq_true_eq]at hb;exact⟨by simp only;omega,by have:=h1.2.1;simp only;omega,h1.2.2⟩;rw[if_neg c6]at h;by_cases c7:k=7;rw[if_pos c7]at h;unfold ED at h;split at h;rename_i i s e;split at h;cases h;exact(hH.cu s (He e)).1;cases h;cases h;rw[if_neg c7]at h;by_cases c8:k=8;rw[if_pos c8]at h;exact rM h λ_=>hty;rw[if_neg c8]at h;by_cases c9:k=9;rw[if_pos c9]at h;refine rM h λhb=>?_;simp only[Bool.and_eq_true,decide_eq_true_eq]at hb;exact⟨by have:=hty.1;simp only;omega,by simp only;omega,hty.2.2⟩;rw[if_neg c9]at h;by_cases vR:k=10;rw[if_pos vR]at h;exact rM h λ_=>YF;rw[if_neg vR]at h;by_cases AK:k=12;rw[if_pos AK]at h;exact rM h λ_=>YF;rw[if_neg AK]at h;by_cases AM:k=13;rw[if_pos AM]at h;exact rM h λ_=>UX;rw[if_neg AM]at h;unfold Ns at h;split at h;exact rM h λ_=>YF;split at h;exact rM h λ_=>UX;split at h;exact rM h λ_=>UX;exact rM h λ_=>UX
theorem nR{H:Hd}{V:List Vd}{e:E}{l:List E}{ys:List E}(h:oh H V (e::l)=.ok ys):∃y zs,xM H V e=.ok y/\y.ty≠T0/\oh H V l=.ok zs/\ys=y::zs:=by
 unfold oh at h;split at h;cases h;rename_i y hy;split at h;cases h;rename_i ht;split at h;cases h;rename_i zs hz;cases h;exact⟨y,zs,hy,ht,hz,rfl⟩
theorem vq{H:Hd}{V:List Vd}{P:E->Prop}:∀{l ys:List E},oh H V l=.ok ys->(∀e∈l,∀y,xM H V e=.ok y->P y)->∀y∈ys,P y
 |[],ys,h,_=>by
  unfold oh at h;cases h;simp
 |e::l,ys,h,hp=>by
  obtain⟨y,zs,h1,_,h2,rfl⟩:=nR h;intro z hz;rcases List.mem_cons.1 hz with e1|e1;subst e1;exact hp e List.mem_cons_self _ h1;exact vq h2 (λe he=>hp e (List.mem_cons_of_mem _ he)) z e1
theorem EF{H:Hd}{V:List Vd}{e y:E}(h:xM H V e=.ok y):∃ks t r,dR e.k e.n e.ay.length=true/\oh H V e.ay=.ok ks/\pL H V e.k e.nm e.on e.od ks=some (t,r)/\y=.mk e.k (oC e.k e.n) (jV e.k e.nm) (kU e.k e.on) (kV e.k e.od) ks e.a t r:=by
 obtain⟨k,n,nm,on,od,ay,a,ty,ref⟩:=e;unfold xM at h;split at h;rename_i hk;split at h;cases h;rename_i ks tT;split at h;cases h;rename_i t r ht;cases h;exact⟨ks,t,r,hk,tT,ht,rfl⟩;cases h
theorem ac5{H:Hd}{V:List Vd}(hH:H.ok)(hV:∀f∈V,WT H.rs.length f.ty)(e:E):∀y,xM H V e=.ok y->WT H.rs.length y.ty:=by
 induction e using E.xN with
 |_ e ih=>
  intro y h;obtain⟨ks,t,r,_,h2,h3,rfl⟩:=EF h;exact ac4 hH hV (vq h2 ih) h3
theorem z6{H:Hd}{V:List Vd}:∀{l ys:List E},oh H V l=.ok ys->ys.length=l.length
 |[],ys,h=>by unfold oh at h;cases h;rfl|e::l,ys,h=>by
  obtain⟨y,zs,_,_,h2,rfl⟩:=nR h;simp[z6 h2]
theorem Nv{k n:Int}{m:Nat}(h:dR k n m=true):dR k (oC k n) m=true:=by
 unfold dR oC at *;split;rename_i c;rw[if_pos c]at h;exact h;rename_i c;rw[if_neg c]at h;split;rename_i c2;rw[if_pos c2]at h;rw[if_pos (.inr c2)];exact h;rename_i c2;rw[if_neg c2]at h;exact h
theorem EG{H:Hd}{V:List Vd}{k:Int}{nm on:List UInt8}{od:Int}{ks:List E}:pL H V k (jV k nm) (kU k on) (kV k od) ks=pL H V k nm on od ks:=by
 unfold pL;by_cases c3:k=3;simp[kU,kV,c3];by_cases c4:k=4;simp[jV,c4];by_cases c5:k=5;simp[jV,c5];by_cases c7:k=7;simp[jV,c7];by_cases c8:k=8;simp[kU,kV,c8];by_cases c9:k=9;simp[kU,kV,c9];simp only[if_neg c3,if_neg c4,if_neg c5,if_neg c7,if_neg c8,if_neg c9]
end mG
namespace mG
open Ax Go V7 lf
mutual
def Sm.sz:Sm->Nat
 |.mk _ _ _ _ es bd el _ _=>1+E.ey es+Sm.ey bd+Sm.ey el
def Sm.ey:List Sm->Nat
 |[]=>0|s::l=>Sm.sz s+Sm.ey l
end
theorem Sm.Nt(s:Sm):0<Sm.sz s:=by cases s;simp only[Sm.sz];omega
theorem Sm.fo:∀l:List Sm,l.length<=Sm.ey l
 |[]=>Nat.le_refl _|e::l=>by
  have:=Sm.fo l;have:=Sm.Nt e;simp only[Sm.ey,List.length_cons];omega
theorem Sm.cR:∀{l:List Sm}{e:Sm},e∈l->Sm.sz e<=Sm.ey l
 |[],_,h=>by cases h|x::l,e,h=>by
  rcases List.mem_cons.1 h with h|h;subst h;simp only[Sm.ey];omega;have:=Sm.cR h;simp only[Sm.ey];omega
theorem Sm.sY(s:Sm):Sm.sz s=1+E.ey s.es+Sm.ey s.bd+Sm.ey s.el:=by cases s;rfl
theorem ac6(H:Hd)(ct:Bool)(res:T3)(V:List Vd)(k:Int)(nm on:List UInt8)(od:Int)(es:List E)(bd el:List Sm)(a ref:Int):zh H ct res V (.mk k nm on od es bd el a ref)=if eu ct k es then
   match nQ H k on od with
   |none=>.error a|some t=>match zY H V k es with
    |.error x=>.error x|.ok ys=>match mH H res V k nm ys t with
     |none=>.error a|some (r,W)=>if k=5 then
       match kW H ct res W bd with
       |.error x=>.error x|.ok (b,W1)=>match kW H ct res W1 el with
        |.error x=>.error x|.ok (c,W2)=>.ok (.mk k (cv k nm) (bI k on) (bJ k od) ys b c a r,W2)
      else if k=6 then
       match kW H ct res W bd with
       |.error x=>.error x|.ok (b,W1)=>.ok (.mk k (cv k nm) (bI k on) (bJ k od) ys b [] a r,W1)
      else .ok (.mk k (cv k nm) (bI k on) (bJ k od) ys [] [] a r,W)
  else .error a:=by
 (conv=>lhs;unfold zh)<;>rfl
theorem oR(H:Hd)(ct:Bool)(res:T3)(V:List Vd)(s:Sm):zh H ct res V s=if eu ct s.k s.es then
   match nQ H s.k s.on s.od with
   |none=>.error s.a|some t=>match zY H V s.k s.es with
    |.error x=>.error x|.ok ys=>match mH H res V s.k s.nm ys t with
     |none=>.error s.a|some (r,W)=>if s.k=5 then
       match kW H ct res W s.bd with
       |.error x=>.error x|.ok (b,W1)=>match kW H ct res W1 s.el with
        |.error x=>.error x|.ok (c,W2)=>.ok (.mk s.k (cv s.k s.nm) (bI s.k s.on) (bJ s.k s.od) ys b c s.a r,W2)
      else if s.k=6 then
       match kW H ct res W s.bd with
       |.error x=>.error x|.ok (b,W1)=>.ok (.mk s.k (cv s.k s.nm) (bI s.k s.on) (bJ s.k s.od) ys b [] s.a r,W1)
      else .ok (.mk s.k (cv s.k s.nm) (bI s.k s.on) (bJ s.k s.od) ys [] [] s.a r,W)
  else .error s.a:=by
 obtain⟨k,nm,on,od,es,bd,el,a,ref⟩:=s;exact ac6 H ct res V k nm on od es bd el a ref
theorem IK{H:Hd}{ct:Bool}{res:T3}{V X:List Vd}{s y:Sm}(h:zh H ct res V s=.ok (y,X)):∃t ys r W,eu ct s.k s.es=true/\nQ H s.k s.on s.od=some t/\zY H V s.k s.es=.ok ys/\mH H res V s.k s.nm ys t=some (r,W)/\
  (s.k=5/\(∃b W1 c,kW H ct res W s.bd=.ok (b,W1)/\kW H ct res W1 s.el=.ok (c,X)/\y=.mk s.k (cv s.k s.nm) (bI s.k s.on) (bJ s.k s.od) ys b c s.a r)\/
   s.k=6/\(∃b,kW H ct res W s.bd=.ok (b,X)/\y=.mk s.k (cv s.k s.nm) (bI s.k s.on) (bJ s.k s.od) ys b [] s.a r)\/
   s.k≠5/\s.k≠6/\X=W/\y=.mk s.k (cv s.k s.nm) (bI s.k s.on) (bJ s.k s.od) ys [] [] s.a r):=by
 rw[oR]at h;split at h;rename_i hf;split at h;cases h;rename_i t ht;split at h;cases h;rename_i ys YG;split at h;cases h;rename_i r W cI;refine⟨t,ys,r,W,hf,ht,YG,cI,?_⟩;split at h;rename_i h5;split at h;cases h;rename_i b W1 hb;split at h;cases h;rename_i c W2 hc;cases h;exact .inl ⟨h5,b,W1,c,hb,hc,rfl⟩;rename_i h5;split at h;rename_i h6;split at h;cases h;rename_i b W1 hb;cases h;exact .inr (.inl ⟨h6,b,hb,rfl⟩);rename_i h6;cases h;exact .inr (.inr ⟨h5,h6,rfl,rfl⟩);cases h
theorem z7{H:Hd}{ct:Bool}{res:T3}{V X:List Vd}{s:Sm}{l:List Sm}{zs:List Sm}(h:kW H ct res V (s::l)=.ok (zs,X)):∃y W ys,zh H ct res V s=.ok (y,W)/\kW H ct res W l=.ok (ys,X)/\zs=y::ys:=by
 unfold kW at h;split at h;cases h;rename_i y W hy;split at h;cases h;rename_i ys X' hz;cases h;exact⟨y,W,ys,hy,hz,rfl⟩
theorem Lf{H:Hd}{res:T3}{V W:List Vd}{k:Int}{nm:List UInt8}{es:List E}{t:T3}{r:Int}(h:mH H res V k nm es t=some (r,W)):W=V\/(k=1\/k=2)/\W=V++[⟨nm,t⟩]:=by
 unfold mH at h;split at h;rename_i c;split at h;cases h;cases h;exact .inr ⟨.inl c,rfl⟩;split at h;rename_i c;split at h;split at h;cases h;cases h;exact .inr ⟨.inr c,rfl⟩;cases h;all_goals left
 split at h;split at h;split at h<;>cases h;rfl;cases h;split at h;split at h<;>cases h;rfl;split at h;split at h<;>cases h;rfl;split at h;split at h<;>cases h;rfl;split at h;split at h<;>cases h;rfl;cases h;rfl
theorem YH{H:Hd}{k:Int}{on:List UInt8}{od:Int}{t:T3}(h:nQ H k on od=some t):WT H.rs.length t:=by
 unfold nQ at h;split at h;split at h<;>cases h;exact pz _ _ _;cases h;exact UW
theorem z8{H:Hd}{ct:Bool}{res:T3}:∀{l ys:List Sm}{V X:List Vd},(∀s∈l,∀V y W,(∀f∈V,WT H.rs.length f.ty)->zh H ct res V s=.ok (y,W)->(∀f∈W,WT H.rs.length f.ty)/\W.length<=V.length+Sm.sz s)->
  (∀f∈V,WT H.rs.length f.ty)->kW H ct res V l=.ok (ys,X)->(∀f∈X,WT H.rs.length f.ty)/\X.length<=V.length+Sm.ey l
 |[],ys,V,X,_,hV,h=>by unfold kW at h;cases h;exact⟨hV,by simp[Sm.ey]⟩|s::l,ys,V,X,hp,hV,h=>by
  obtain⟨y,W,zs,h1,h2,rfl⟩:=z7 h;obtain⟨a1,a2⟩:=hp s List.mem_cons_self V y W hV h1;obtain⟨b1,b2⟩:=z8 (λs hs=>hp s (List.mem_cons_of_mem _ hs)) a1 h2;exact⟨b1,by simp only[Sm.ey];omega⟩
theorem Nw{H:Hd}{ct:Bool}{res:T3}(s:Sm):∀V y W,(∀f∈V,WT H.rs.length f.ty)->zh H ct res V s=.ok (y,W)->(∀f∈W,WT H.rs.length f.ty)/\W.length<=V.length+Sm.sz s:=by
 induction s using Sm.xN with
 |_ s C8 nB=>
  intro V y X hV h;obtain⟨t,ys,r,W,hf,ht,YG,cI,hh⟩:=IK h;have hW:(∀f∈W,WT H.rs.length f.ty)/\W.length<=V.length+1:=by
   rcases Lf cI with e|⟨_,e⟩;subst e;exact⟨hV,by omega⟩;subst e;refine⟨λf hf=>?_,by simp⟩;rcases List.mem_append.1 hf with h|h;exact hV f h;rw[List.mem_singleton.1 h];exact YH ht
  have hz:=Sm.sY s;rcases hh with⟨_,b,W1,c,hb,hc,_⟩|⟨_,b,hb,_⟩|⟨_,_,rfl,_⟩;obtain⟨a1,a2⟩:=z8 C8 hW.1 hb;obtain⟨b1,b2⟩:=z8 nB a1 hc;exact⟨b1,by omega⟩;obtain⟨a1,a2⟩:=z8 C8 hW.1 hb;exact⟨a1,by omega⟩;exact⟨hW.1,by omega⟩
theorem UY{H:Hd}{ct:Bool}{res:T3}{l ys:List Sm}{V X:List Vd}(hV:∀f∈V,WT H.rs.length f.ty)(h:kW H ct res V l=.ok (ys,X)):(∀f∈X,WT H.rs.length f.ty)/\X.length<=V.length+Sm.ey l:=
 z8 (λs _=>Nw s) hV h
theorem OU{H:Hd}{V:List Vd}{e y:E}(h:xM H V e=.ok y):y.k=e.k:=by
 obtain⟨ks,t,r,_,_,_,rfl⟩:=EF h;rfl
theorem nS{H:Hd}{V:List Vd}{ct:Bool}{k:Int}{l ys:List E}(h:oh H V l=.ok ys)(hf:eu ct k l=true):eu ct k ys=true:=by
 have hl:=z6 h;unfold eu at hf ⊢;rw[hl];match l,hl,hf,h with
 |[],hl,hf,_=>rw[List.length_nil]at hl;rw[List.eq_nil_of_length_eq_zero hl];exact hf|[e],hl,hf,h=>
  obtain⟨y,zs,h1,_,h2,rfl⟩:=nR h;unfold oh at h2;cases h2;simpa [OU h1] using hf
 |[e,e2],hl,hf,h=>
  obtain⟨y,zs,h1,_,h2,rfl⟩:=nR h;obtain⟨y2,zs2,h3,_,h4,rfl⟩:=nR h2;unfold oh at h4;cases h4;simpa [OU h1] using hf
 |e::e2::e3::l,hl,hf,h=>
  obtain⟨y,zs,h1,_,h2,rfl⟩:=nR h;obtain⟨y2,zs2,h3,_,h4,rfl⟩:=nR h2;obtain⟨y3,zs3,h5,_,h6,rfl⟩:=nR h4;simp at hf
theorem tO{H:Hd}{V:List Vd}{k:Int}{es:List E}(h:k≠9):zY H V k es=oh H V es:=by unfold zY;rw[if_neg h]
theorem UZ{H:Hd}{V:List Vd}{e:E}:zY H V 9 [e]=match xM H V e with|.error x=>.error x|.ok y=>.ok [y]:=by unfold zY;rfl
theorem Nx{ct:Bool}{es:List E}(h:eu ct 9 es=true):∃e,es=[e]/\e.k=7:=by
 unfold eu at h;match es,h with
 |[],h=>cases h|[e],h=>exact⟨e,rfl,by simpa using h⟩|_::_::_,h=>cases h
theorem U0{H:Hd}{V:List Vd}{ct:Bool}{k:Int}{l ys:List E}(h:zY H V k l=.ok ys)(hf:eu ct k l=true):eu ct k ys=true:=by
 by_cases h9:k=9;subst h9;obtain⟨e,rfl,he⟩:=Nx hf;rw[UZ]at h;split at h;cases h;rename_i y hy;cases h;unfold eu;simpa [OU hy] using he;rw[tO h9]at h;exact nS h hf
theorem nT{H:Hd}{res:T3}{V:List Vd}{k:Int}{nm:List UInt8}{es:List E}{t:T3}:mH H res V k (cv k nm) es t=mH H res V k nm es t:=by
 unfold mH;by_cases h1:k=1;simp[cv,h1];by_cases h2:k=2;simp[cv,h2];by_cases h3:k=3;simp[cv,h3];simp only[if_neg h1,if_neg h2,if_neg h3]
theorem IL{H:Hd}{V:List Vd}:∀{l ys:List E},(∀e∈l,∀y,xM H V e=.ok y->E.sz y=E.sz e)->oh H V l=.ok ys->E.ey ys=E.ey l
 |[],ys,_,h=>by unfold oh at h;cases h;rfl|e::l,ys,hp,h=>by
  obtain⟨y,zs,h1,_,h2,rfl⟩:=nR h;simp only[E.ey,hp e List.mem_cons_self y h1,IL (λe he=>hp e (List.mem_cons_of_mem _ he)) h2]
theorem U1{H:Hd}{V:List Vd}(e:E):∀y,xM H V e=.ok y->E.sz y=E.sz e:=by
 induction e using E.xN with
 |_ e ih=>
  intro y h;obtain⟨ks,t,r,_,h2,_,rfl⟩:=EF h;rw[E.vp e];simp only[E.sz,IL ih h2]
theorem ac7{H:Hd}{V:List Vd}{l ys:List E}(h:oh H V l=.ok ys):E.ey ys=E.ey l:=IL (λe _=>U1 e) h
theorem ac8{H:Hd}{V:List Vd}{ct:Bool}{k:Int}{l ys:List E}(h:zY H V k l=.ok ys)(hf:eu ct k l=true):E.ey ys=E.ey l:=by
 by_cases h9:k=9;subst h9;obtain⟨e,rfl,he⟩:=Nx hf;rw[UZ]at h;split at h;cases h;rename_i y hy;cases h;simp only[E.ey,U1 e y hy];rw[tO h9]at h;exact ac7 h
theorem z9{H:Hd}{ct:Bool}{res:T3}:∀{l ys:List Sm}{V X:List Vd},(∀s∈l,∀V y W,zh H ct res V s=.ok (y,W)->Sm.sz y<=Sm.sz s)->kW H ct res V l=.ok (ys,X)->Sm.ey ys<=Sm.ey l
 |[],ys,V,X,_,h=>by unfold kW at h;cases h;exact Nat.le_refl _|s::l,ys,V,X,hp,h=>by
  obtain⟨y,W,zs,h1,h2,rfl⟩:=z7 h;have a:=hp s List.mem_cons_self V y W h1;have b:=z9 (λs hs=>hp s (List.mem_cons_of_mem _ hs)) h2;simp only[Sm.ey];omega
theorem ac9{H:Hd}{ct:Bool}{res:T3}(s:Sm):∀V y W,zh H ct res V s=.ok (y,W)->Sm.sz y<=Sm.sz s:=by
 induction s using Sm.xN with
 |_ s C8 nB=>
  intro V y X h;obtain⟨t,ys,r,W,hf,ht,YG,cI,hh⟩:=IK h;have e:=ac8 YG hf;have hz:=Sm.sY s;rcases hh with⟨h5,b,W1,c,hb,hc,rfl⟩|⟨h6,b,hb,rfl⟩|⟨h5,h6,rfl,rfl⟩;have b2:=z9 C8 hb;have c2:=z9 nB hc;simp only[Sm.sz];omega;have b2:=z9 C8 hb;simp only[Sm.sz,Sm.ey];omega;simp only[Sm.sz,Sm.ey];omega
theorem ada{H:Hd}{ct:Bool}{res:T3}{l ys:List Sm}{V X:List Vd}(h:kW H ct res V l=.ok (ys,X)):Sm.ey ys<=Sm.ey l:=z9 (λs _=>ac9 s) h
theorem Hf{H:Hd}{n:Nat}:∀{ss:List Sg}{fs:List Fc}{bs:List Bd},pM H ss fs=.ok bs->(∀f∈fs,Sm.ey f.body<=n)->∀b∈bs,Sm.ey b.code<=n
 |[],fs,bs,h,_=>by unfold pM at h;cases h;simp|_::_,[],bs,h,_=>by unfold pM at h;cases h;simp|s::ss,f::fs,bs,h,hp=>by
  unfold pM at h;split at h;cases h;rename_i c W hc;split at h;cases h;rename_i l H9;cases h;intro b hb;rcases List.mem_cons.1 hb with e|e;subst e;have:=ada hc;have:=hp f List.mem_cons_self;simp only;omega;exact Hf H9 (λf hf=>hp f (List.mem_cons_of_mem _ hf)) b e
theorem Lg{H:Hd}(hH:H.ok){n:Nat}:∀{ss:List Sg}{fs:List Fc}{bs:List Bd},pM H ss fs=.ok bs->(∀s∈ss,∀f∈s.ps,WT H.rs.length f.ty)->(∀s∈ss,s.ps.length<=n)->(∀f∈fs,Sm.ey f.body<=n)->∀b∈bs,b.vars.length<=n+n
 |[],fs,bs,h,_,_,_=>by unfold pM at h;cases h;simp|_::_,[],bs,h,_,_,_=>by unfold pM at h;cases h;simp|s::ss,f::fs,bs,h,hs,hp,hq=>by
  unfold pM at h;split at h;cases h;rename_i c W hc;split at h;cases h;rename_i l H9;cases h;intro b hb;rcases List.mem_cons.1 hb with e|e;subst e;have:=(UY (hs s List.mem_cons_self) hc).2;have:=hp s List.mem_cons_self;have:=hq f List.mem_cons_self;simp only;omega;exact Lg hH H9 (λs h=>hs s (List.mem_cons_of_mem _ h)) (λs h=>hp s (List.mem_cons_of_mem _ h)) (λf h=>hq f (List.mem_cons_of_mem _ h)) b e
end mG
namespace mG
open Ax Go V7 lf
theorem Bg{k n:Int}{nm on:List UInt8}{od:Int}{ks:List E}{a:Int}:E.sz (Em k n nm on od ks a)=1+E.ey ks:=rfl
theorem qB:E.ey []=0:=rfl
theorem lu{e:E}:E.ey [e]=E.sz e:=by simp[E.ey]
theorem IM{e f:E}:E.ey [e,f]=E.sz e+E.sz f:=by simp[E.ey]
theorem OV:∀l r:List E,E.ey (l++r)=E.ey l+E.ey r
 |[],r=>by simp[E.ey]|e::l,r=>by
  have:=OV l r;simp only[List.cons_append,E.ey];omega
theorem OW:∀l r:List Sm,Sm.ey (l++r)=Sm.ey l+Sm.ey r
 |[],r=>by simp[Sm.ey]|e::l,r=>by
  have:=OW l r;simp only[List.cons_append,Sm.ey];omega
theorem nU:Sm.ey []=0:=rfl
theorem YI{e:Sm}:Sm.ey [e]=Sm.sz e:=by simp[Sm.ey]
theorem EH{k:Int}{nm on:List UInt8}{od:Int}{es:List E}{bd el:List Sm}{a ref:Int}:Sm.sz (.mk k nm on od es bd el a ref)=1+E.ey es+Sm.ey bd+Sm.ey el:=rfl
theorem iZ{q:RQ}:(aA q).at_=q.at_+1:=rfl
theorem YJ{q:RQ}{d:Int}:(rH q d).at_=q.at_:=rfl
theorem OX{q:RQ}{d:Int}:(rH q d).fe=q.fe:=rfl
theorem qC{T:List Tk}{q r:RQ}(w:vn T q r)(f:r.fe=0):q.at_+1<=r.at_:=by
 rcases w with w|⟨_,w⟩;exact absurd f w;exact w
theorem Lh(T:List Tk):∀f:Nat,(∀n q e r,eY T f n q=some (e,r)->r.fe=0->E.sz e+q.at_<=r.at_)/\(∀n a q e r,iM T f n a q=some (e,r)->r.fe=0->E.sz e+q.at_<=r.at_+E.sz a)/\
  (∀q e r,jA T f q=some (e,r)->r.fe=0->E.sz e+q.at_<=r.at_)/\(∀a q e r,eJ T f a q=some (e,r)->r.fe=0->E.sz e+q.at_<=r.at_+E.sz a)/\(∀q e r,jS T f q=some (e,r)->r.fe=0->E.sz e+q.at_<=r.at_)/\
  (∀q e r,jB T f q=some (e,r)->r.fe=0->E.sz e+q.at_<=r.at_)/\(∀a q e r,kz T f a q=some (e,r)->r.fe=0->E.sz e+q.at_<=r.at_)/\(∀q e r,nN T f q=some (e,r)->r.fe=0->E.ey e+q.at_<=r.at_)/\
  (∀l q e r,nt T f l q=some (e,r)->r.fe=0->E.ey e+q.at_<=r.at_+E.ey l)
 |0=>by simp[eY,iM,jA,eJ,jS,jB,kz,nN,nt]|f+1=>by
  obtain⟨hE,hS,hU,hB,hI,hF,hN,hA,hM⟩:=Lh T f;obtain⟨gE,gS,gU,gB,gI,gF,gN,gA,gM⟩:=kI T f;refine⟨λn q e r h fr=>?_,λn a q e r h fr=>?_,λq e r h fr=>?_,λa q e r h fr=>?_,λq e r h fr=>?_,λq e r h fr=>?_,λa q e r h fr=>?_,λq e r h fr=>?_,λl q e r h fr=>?_⟩;unfold eY at h;split at h;exact hU _ _ _ h fr;obtain⟨⟨x1,x2⟩,h1,h2⟩:=Option.bind_eq_some_iff.1 h;have f2:=(gS _ _ _ _ _ h2).hJ fr;have:=hE _ _ _ _ h1 f2;have:=hS _ _ _ _ _ h2 fr
  (try dsimp only at *);omega
  unfold iM at h;split at h;rename_i c;obtain⟨⟨x1,x2⟩,h1,h2⟩:=Option.bind_eq_some_iff.1 h;have f2:=(gS _ _ _ _ _ h2).hJ fr;have a1:=hE _ _ _ _ h1 f2;have a2:=hS _ _ _ _ _ h2 fr;rw[Bg,IM]at a2;rw[iZ]at a1
  (try dsimp only at *);omega
  cases h;omega;unfold jA at h;split at h;obtain⟨⟨x1,x2⟩,h1,h2⟩:=Option.bind_eq_some_iff.1 h;cases h2;rw[OX]at fr;have a1:=hE _ _ _ _ h1 fr;have a2:=qC kA ((gE _ _ _ _ h1).hJ fr);rw[Bg,lu,YJ]
  (try dsimp only at *);omega
  obtain⟨⟨x1,x2⟩,h1,h2⟩:=Option.bind_eq_some_iff.1 h;have f2:=(gB _ _ _ _ h2).hJ fr;have:=hF _ _ _ h1 f2;have:=hB _ _ _ _ h2 fr
  (try dsimp only at *);omega
  unfold eJ at h;split at h;rename_i c;have a1:=hB _ _ _ _ h fr;rw[Bg,lu]at a1;have a2:=(hY (T:=T) (q:=aA q)).le;rw[iZ]at a2;omega;split at h;obtain⟨⟨x1,x2⟩,h1,h2⟩:=Option.bind_eq_some_iff.1 h;have f2:=(gB _ _ _ _ h2).hJ fr;have f3:=(cD (T:=T) (q:=x2) (s:=[93])).hJ f2;have a1:=hE _ _ _ _ h1 f3;have a2:=qC kA ((gE _ _ _ _ h1).hJ f3);have a3:=hB _ _ _ _ h2 fr;have a4:=(cD (T:=T) (q:=x2) (s:=[93])).le;rw[Bg,IM]at a3
  (try dsimp only at *);omega
  cases h;omega;unfold jS at h;obtain⟨⟨x1,x2⟩,h1,h2⟩:=Option.bind_eq_some_iff.1 h;cases h2;have f3:=(cD (T:=T) (q:=x2) (s:=[41])).hJ fr;have a1:=hE _ _ _ _ h1 f3;have a2:=qC kA ((gE _ _ _ _ h1).hJ f3);have a4:=(cD (T:=T) (q:=x2) (s:=[41])).le
  (try dsimp only at *);omega
  unfold jB at h;split at h;cases h;rw[Bg,qB,iZ];omega;split at h;cases h;rw[Bg,qB,iZ];omega;split at h;cases h;have:=(lZ (T:=T) (q:=aA q)).le;rw[iZ]at this;rw[Bg,qB];omega;split at h;have:=hN _ _ _ _ h fr;rw[iZ]at this;omega;split at h;obtain⟨⟨x1,x2⟩,h1,h2⟩:=Option.bind_eq_some_iff.1 h;cases h2;have a1:=hI _ _ _ h1 fr;rw[iZ]at a1;rw[Bg,lu]
  (try dsimp only at *);omega
  split at h;cases h;have a1:=((fh (T:=T) (q:=aA q) (s:=[40])).trans (cD (s:=[41]))).le;rw[iZ]at a1;rw[Bg,qB];omega;split at h;exact hI _ _ _ h fr;split at h;obtain⟨⟨x1,x2⟩,h1,h2⟩:=Option.bind_eq_some_iff.1 h;cases h2;have a1:=hA _ _ _ h1 fr;have a2:=qC oO ((gA _ _ _ h1).hJ fr);rw[Bg]
  (try dsimp only at *);omega
  cases h;have a2:=qC oO fr;rw[Bg,qB];omega;unfold kz at h;split at h;obtain⟨⟨x1,x2⟩,h1,h2⟩:=Option.bind_eq_some_iff.1 h;cases h2;have a1:=hI _ _ _ h1 fr;have a2:=((lZ (T:=T) (q:=aA q)).trans (aI (s:=[93]))).le;rw[iZ]at a2;rw[Bg,lu]
  (try dsimp only at *);omega
  cases h;have a2:=qC oO fr;rw[Bg,qB];omega;unfold nN at h;split at h;cases h;have a1:=((fh (T:=T) (q:=q) (s:=[40])).trans (cD (s:=[41]))).le;rw[qB];omega;obtain⟨⟨x1,x2⟩,h1,h2⟩:=Option.bind_eq_some_iff.1 h;have f2:=(gM _ _ _ _ h2).hJ fr;have a1:=hE _ _ _ _ h1 f2;have a2:=(fh (T:=T) (q:=q) (s:=[40])).le;have a3:=hM _ _ _ _ h2 fr;rw[lu]at a3
  (try dsimp only at *);omega
  unfold nt at h;split at h;obtain⟨⟨x1,x2⟩,h1,h2⟩:=Option.bind_eq_some_iff.1 h;have f2:=(gM _ _ _ _ h2).hJ fr;have a1:=hE _ _ _ _ h1 f2;rw[iZ]at a1;have a3:=hM _ _ _ _ h2 fr;rw[OV,lu]at a3
  (try dsimp only at *);omega
  cases h;have a1:=(cD (T:=T) (q:=q) (s:=[41])).le;omega
theorem l7{T:List Tk}{f n:Nat}{q r:RQ}{e:E}(h:eY T f n q=some (e,r))(fr:r.fe=0):E.sz e+q.at_<=r.at_:=(Lh T f).1 _ _ _ _ h fr
theorem Ny{T:List Tk}{f:Nat}{a:Int}{q r:RQ}{s:Sm}(h:mW T f a q=some (s,r))(fr:r.fe=0):Sm.sz s+q.at_<=r.at_:=by
 unfold mW at h;obtain⟨⟨x1,x2⟩,h1,h2⟩:=Option.bind_eq_some_iff.1 h;dsimp only at h2;split at h2;obtain⟨⟨y1,y2⟩,h3,h4⟩:=Option.bind_eq_some_iff.1 h2;cases h4;have f1:=(aI (T:=T) (q:=y2) (s:=[59])).hJ fr;have w:=qC jU fr;have a3:=l7 h3 f1;have f3:=(dK h3).hJ f1;have w2:=qC jU f3;have f4:=aI.hJ f3;by_cases c:x1.k=4\/x1.k=5\/x1.k=6;rw[if_pos c]at w2 f4;have a1:=l7 h1 f4;rw[if_pos c]at a3;by_cases c4:x1.k=4;rw[if_pos c4,EH,lu,nU];(try dsimp only at *);omega;rw[if_neg c4,EH,IM,nU];(try dsimp only at *);omega;rw[if_neg c]at f4;exact absurd f4 (eL (by decide));cases h2;have f1:=(aI).hJ fr;have w:=qC jU fr;by_cases c:fP T x2 [59]=true/\x1.k≠7;rw[if_pos c]at f1;exact absurd f1 (eL (by decide));rw[if_neg c]at f1 w;have a1:=l7 h1 f1;rw[EH,lu,nU,if_neg c];(try dsimp only at *);omega
theorem EI(T:List Tk):∀f:Nat,(∀q s r,oB T f q=some (s,r)->r.fe=0->Sm.sz s+q.at_<=r.at_)/\(∀q s r,gD T f q=some (s,r)->r.fe=0->Sm.ey s+q.at_<=r.at_)/\
  (∀l q s r,jT T f l q=some (s,r)->r.fe=0->Sm.ey s+q.at_<=r.at_+Sm.ey l)
 |0=>by simp[oB,gD,jT]|f+1=>by
  obtain⟨hS,hB,hL⟩:=EI T f;obtain⟨gS,gB,gL⟩:=lN T f;refine⟨λq s r h fr=>?_,λq s r h fr=>?_,λl q s r h fr=>?_⟩;unfold oB at h;split at h;cases h;have:=((iy (T:=T) (q:=aA q)).trans (aI (s:=[59]))).le;rw[iZ]at this;rw[EH,qB,nU];omega;split at h;obtain⟨⟨x1,x2⟩,h1,h2⟩:=Option.bind_eq_some_iff.1 h;cases h2;have f1:=aI.hJ fr;have a1:=l7 h1 f1;have a2:=((iy (T:=T) (q:=aA q)).trans (aI (s:=[61]))).le;have a3:=(aI (T:=T) (q:=x2) (s:=[59])).le;rw[iZ]at a2;rw[EH,lu,nU];(try dsimp only at *);omega;split at h;obtain⟨⟨x1,x2⟩,h1,h2⟩:=Option.bind_eq_some_iff.1 h;obtain⟨⟨y1,y2⟩,h3,h4⟩:=Option.bind_eq_some_iff.1 h2;dsimp only at h4;split at h4;rename_i d;obtain⟨⟨z1,z2⟩,h5,h6⟩:=Option.bind_eq_some_iff.1 h4;cases h6;have f1:=(gB _ _ _ h5).1.hJ fr;have f2:y2.fe=0:=f1;have f3:=(gB _ _ _ h3).1.hJ f2;have a1:=l7 h1 f3;have a2:=hB _ _ _ h3 f2;have a3:=hB _ _ _ h5 fr;rw[iZ]at a1 a3;rw[EH,lu];(try dsimp only at *);omega;cases h4;have f3:=(gB _ _ _ h3).1.hJ fr;have a1:=l7 h1 f3;have a2:=hB _ _ _ h3 fr;rw[iZ]at a1;rw[EH,lu,nU];(try dsimp only at *);omega;split at h;obtain⟨⟨x1,x2⟩,h1,h2⟩:=Option.bind_eq_some_iff.1 h;obtain⟨⟨y1,y2⟩,h3,h4⟩:=Option.bind_eq_some_iff.1 h2;cases h4;have f3:=(gB _ _ _ h3).1.hJ fr;have a1:=l7 h1 f3;have a2:=hB _ _ _ h3 fr;rw[iZ]at a1;rw[EH,lu,nU];(try dsimp only at *);omega;split at h;split at h;cases h;have a2:=(aI (T:=T) (q:=aA q) (s:=[59])).le;rw[iZ]at a2;rw[EH,qB,nU];omega;obtain⟨⟨x1,x2⟩,h1,h2⟩:=Option.bind_eq_some_iff.1 h;cases h2;have f1:=aI.hJ fr;have a1:=l7 h1 f1;have a3:=(aI (T:=T) (q:=x2) (s:=[59])).le;rw[iZ]at a1;rw[EH,lu,nU];(try dsimp only at *);omega;split at h;obtain⟨⟨x1,x2⟩,h1,h2⟩:=Option.bind_eq_some_iff.1 h;cases h2;have f1:=aI.hJ fr;have a1:=l7 h1 f1;have a3:=(aI (T:=T) (q:=x2) (s:=[59])).le;rw[iZ]at a1;rw[EH,lu,nU];(try dsimp only at *);omega;exact Ny h fr;unfold gD at h;have a1:=hL _ _ _ _ h fr;have a2:=(fh (T:=T) (q:=q) (s:=[123])).le;rw[nU]at a1;omega;unfold jT at h;split at h;obtain⟨⟨x1,x2⟩,h1,h2⟩:=Option.bind_eq_some_iff.1 h;have f1:=(gL _ _ _ _ h2).hJ fr;have a1:=hS _ _ _ h1 f1;have a2:=hL _ _ _ _ h2 fr;rw[OW,YI]at a2
  (try dsimp only at *);omega
  cases h;have a2:=(cD (T:=T) (q:=q) (s:=[125])).le;omega
theorem EJ{T:List Tk}{f:Nat}{q r:RQ}{s:List Sm}(h:gD T f q=some (s,r))(fr:r.fe=0):Sm.ey s+q.at_<=r.at_:=(EI T f).2.1 _ _ _ h fr
theorem Ra{T:List Tk}{f:Nat}{q r:RQ}{s:Fc}(h:rJ T f q=some (s,r))(fr:r.fe=0):Sm.ey s.body<=r.at_:=by
 unfold rJ at h;obtain⟨⟨x1,x2⟩,h1,h2⟩:=Option.bind_eq_some_iff.1 h;dsimp only at h2;split at h2;obtain⟨⟨y1,y2⟩,h3,h4⟩:=Option.bind_eq_some_iff.1 h2;cases h4;have:=EJ h3 fr
 (try dsimp only at *);omega
 obtain⟨⟨y1,y2⟩,h3,h4⟩:=Option.bind_eq_some_iff.1 h2;cases h4;have:=EJ h3 fr
 (try dsimp only at *);omega
theorem oT{T:List Tk}:∀(f:Nat)(p:Pg)(q:RQ)(s:Pg)(r:RQ),gu T f p q=some (s,r)->q.at_<=T.length->(q.fe=0->∀g∈p.funcs,Sm.ey g.body<=T.length)->r.fe=0->∀g∈s.funcs,Sm.ey g.body<=T.length
 |0,_,_,_,_,h,_,_=>by simp[gu]at h|f+1,p,q,s,r,h,hq,hp=>by
  unfold gu at h;split at h;rename_i c;split at h;exact oT f _ _ _ _ h (eG.ub hq) λe=>absurd e (eL (by decide));split at h;rename_i d;obtain⟨⟨x1,x2⟩,h1,h2⟩:=Option.bind_eq_some_iff.1 h;exact oT f _ _ _ _ h2 ((wL h1).1.ub (bh d).2) λe=>hp c.1;split at h;rename_i d;exact oT f _ _ _ _ h ((iy.trans aI).ub (bh d).2) λe=>hp c.1;split at h;rename_i d;obtain⟨⟨x1,x2⟩,h1,h2⟩:=Option.bind_eq_some_iff.1 h;have hu:=(Be h1).1.ub (bh d).2;exact oT f _ _ _ _ h2 hu λe g hg=>by
   rcases List.mem_append.1 hg with hg|hg;exact hp c.1 g hg;rw[List.mem_singleton.1 hg];have:=Ra h1 e
   (try dsimp only at *);omega
  exact oT f _ _ _ _ h (eG.ub hq) λe=>absurd e (eL (by decide));cases h;exact λe=>hp e
theorem Rb{T:List Tk}{f:Nat}{x:Pg×Int×Int}(h:oN T f=some x):∀g∈x.1.funcs,Sm.ey g.body<=T.length:=by
 unfold oN at h;obtain⟨⟨p,r⟩,h1,h2⟩:=Option.bind_eq_some_iff.1 h;dsimp only at h2;split at h2;rename_i c;cases h2;exact oT f _ _ _ _ h1 (Nat.zero_le _) (λ_ g hg=>by cases hg) c;cases h2;intro g hg;cases hg
end mG
namespace mG
open Ax Go V7 lf
def oU(a b:Option Int):Option Int:=match a with
 |some x=>some x|none=>b
theorem uq{a:Option Int}:oU a none=a:=by cases a<;>rfl
theorem oV{a b c:Option Int}:oU (oU a b) c=oU a (oU b c):=by cases a<;>rfl
mutual
def yW(su:List Bool):E->Option Int
 |.mk k _ _ _ _ ay a _ ref=>oU (mC su ay) (if k=4/\0<=ref/\su[ref.toNat]?=some false then some a else none)
def mC(su:List Bool):List E->Option Int
 |[]=>none|e::l=>oU (yW su e) (mC su l)
end
mutual
def oz:List Bool->Sm->List Bool×Option Int
 |su,.mk k _ _ _ es bd el _ ref=>
  if k=1 then (su.set ref.toNat false,mC su es)
  else if k=2\/k=3 then (if 0<=ref then su.set ref.toNat true else su,mC su es)
  else if k=7 then (su.map λ_=>true,mC su es)
  else if k=6 then (su,oU (mC su es) (iP su bd).2)
  else if k=5 then (List.zipWith (λa b=>a&&b) (iP su bd).1 (iP su el).1,oU (mC su es) (oU (iP su bd).2 (iP su el).2))
  else (su,mC su es)
def iP:List Bool->List Sm->List Bool×Option Int
 |su,[]=>(su,none)
 |su,s::l=>((iP (oz su s).1 l).1,oU (oz su s).2 (iP (oz su s).1 l).2)
end
theorem IN(su:List Bool)(e:E):yW su e=oU (mC su e.ay) (if e.k=4/\0<=e.ref/\su[e.ref.toNat]?=some false then some e.a else none):=by
 obtain⟨k,n,nm,on,od,ay,a,ty,ref⟩:=e
 (conv=>lhs;unfold yW)<;>rfl
theorem qQ(su:List Bool)(e:E)(l:List E):mC su (e::l)=oU (yW su e) (mC su l):=by
 (conv=>lhs;unfold mC)<;>rfl
theorem IP(su:List Bool)(s:Sm):oz su s =
  if s.k=1 then (su.set s.ref.toNat false,mC su s.es)
  else if s.k=2\/s.k=3 then (if 0<=s.ref then su.set s.ref.toNat true else su,mC su s.es)
  else if s.k=7 then (su.map λ_=>true,mC su s.es)
  else if s.k=6 then (su,oU (mC su s.es) (iP su s.bd).2)
  else if s.k=5 then (List.zipWith (λa b=>a&&b) (iP su s.bd).1 (iP su s.el).1,oU (mC su s.es) (oU (iP su s.bd).2 (iP su s.el).2))
  else (su,mC su s.es):=by
 obtain⟨k,nm,on,od,es,bd,el,a,ref⟩:=s
 (conv=>lhs;unfold oz)<;>rfl
theorem Bh(su:List Bool)(s:Sm)(l:List Sm):iP su (s::l)=((iP (oz su s).1 l).1,oU (oz su s).2 (iP (oz su s).1 l).2):=by
 (conv=>lhs;unfold iP)<;>rfl
theorem U3(su:List Bool):iP su []=(su,none):=by unfold iP;rfl
mutual
theorem Li:∀(su:List Bool)(s:Sm),(oz su s).1.length=su.length
 |su,.mk k nm on od es bd el a ref=>by
  unfold oz;split;simp;split;split<;>simp;split;simp;split
  rfl
  split;simp[wM su bd,wM su el]
  rfl
theorem wM:∀(su:List Bool)(l:List Sm),(iP su l).1.length=su.length
 |su,[]=>by unfold iP;rfl|su,s::l=>by
  unfold iP;simp only;rw[wM (oz su s).1 l,Li su s]
end
mutual
def FX(n:Nat):E->Prop
 |.mk k _ _ _ _ ay _ _ ref=>(k=4->ref<n)/\x9 n ay
def x9(n:Nat):List E->Prop
 |[]=>True|e::l=>FX n e/\x9 n l
end
mutual
def FY(n:Nat):Sm->Prop
 |.mk k _ _ _ es bd el _ ref=>x9 n es/\(k=1\/k=2->0<=ref/\ref<n)/\(k=3->ref<n)/\rN n bd/\rN n el
def rN(n:Nat):List Sm->Prop
 |[]=>True|s::l=>FY n s/\rN n l
end
theorem xO(n:Nat)(e:E):FX n e↔(e.k=4->e.ref<n)/\x9 n e.ay:=by
 obtain⟨k,_,nm,on,od,ay,a,ty,ref⟩:=e;unfold FX;exact Iff.rfl
theorem vr(n:Nat)(s:Sm):FY n s↔x9 n s.es/\(s.k=1\/s.k=2->0<=s.ref/\s.ref<n)/\(s.k=3->s.ref<n)/\rN n s.bd/\rN n s.el:=by
 obtain⟨k,nm,on,od,es,bd,el,a,ref⟩:=s;unfold FY;exact Iff.rfl
theorem kJ(n:Nat):∀l:List E,x9 n l↔∀e∈l,FX n e
 |[]=>by simp[x9]|e::l=>by simp[x9,kJ n l]
theorem rO(n:Nat):∀l:List Sm,rN n l↔∀e∈l,FY n e
 |[]=>by simp[rN]|e::l=>by simp[rN,rO n l]
theorem Rd{n m:Nat}(h:n<=m)(e:E):FX n e->FX m e:=by
 induction e using E.xN with
 |_ e ih=>
  rw[xO,xO,kJ,kJ];exact λ⟨h1,h2⟩=>⟨λhk=>by have:=h1 hk;omega,λx hx=>ih x hx (h2 x hx)⟩
theorem xP{n m:Nat}(h:n<=m)(l:List E):x9 n l->x9 m l:=by
 rw[kJ,kJ];exact λh2 x hx=>Rd h x (h2 x hx)
theorem Hg{n m:Nat}(h:n<=m)(s:Sm):FY n s->FY m s:=by
 induction s using Sm.xN with
 |_ s C8 nB=>
  rw[vr,vr];rintro⟨h1,h2,h3,h4,h5⟩;rw[rO]at h4 h5 ⊢;refine⟨xP h _ h1,λhk=>?_,λhk=>?_,λx hx=>C8 x hx (h4 x hx),?_⟩;have:=h2 hk;omega;have:=h3 hk;omega;rw[rO];exact λx hx=>nB x hx (h5 x hx)
theorem Re{n m:Nat}(h:n<=m)(l:List Sm):rN n l->rN m l:=by
 rw[rO,rO];exact λh2 x hx=>Hg h x (h2 x hx)
theorem IQ{s:List UInt8}:∀{l:List Vd}{i k:Nat}{t:T3},js s i l=some (k,t)->k<i+l.length
 |[],_,_,_,h=>by cases h|f::l,i,k,t,h=>by
  unfold js at h;split at h;cases h;simp;have:=IQ h;simp only[List.length_cons];omega
theorem U4{H:Hd}{V:List Vd}{s:List UInt8}{t:T3}{r:Int}(h:CG H V s=some (t,r)):r<V.length:=by
 unfold CG at h;split at h;rename_i e;cases h;have:=IQ e;omega;split at h;cases h;omega;cases h
theorem OY{H:Hd}{V:List Vd}(e:E):∀y,xM H V e=.ok y->FX V.length y:=by
 induction e using E.xN with
 |_ e ih=>
  intro y h;obtain⟨ks,t,r,_,h2,h3,rfl⟩:=EF h;rw[xO];refine⟨λhk=>?_,?_⟩;have hk:e.k=4:=hk;show r<_;unfold pL at h3;rw[if_neg (by omega),if_neg (by omega),if_neg (by omega),if_pos hk]at h3;exact U4 h3;show x9 _ ks;rw[kJ];exact vq h2 ih
theorem Aa{H:Hd}{ct:Bool}{res:T3}:∀{l ys:List Sm}{V X:List Vd},(∀s∈l,∀V y W,zh H ct res V s=.ok (y,W)->V.length<=W.length/\FY W.length y)->kW H ct res V l=.ok (ys,X)->V.length<=X.length/\rN X.length ys
 |[],ys,V,X,_,h=>by
  unfold kW at h;cases h;exact⟨Nat.le_refl _,by simp[rN]⟩
 |s::l,ys,V,X,hp,h=>by
  obtain⟨y,W,zs,h1,h2,rfl⟩:=z7 h;obtain⟨a1,a2⟩:=hp s List.mem_cons_self V y W h1;obtain⟨b1,b2⟩:=Aa (λt ht=>hp t (List.mem_cons_of_mem _ ht)) h2;refine⟨by omega,?_⟩;unfold rN;exact⟨Hg b1 _ a2,b2⟩
theorem ahJ{H:Hd}{res:T3}{V W:List Vd}{k:Int}{nm:List UInt8}{es:List E}{t:T3}{r:Int}(h:mH H res V k nm es t=some (r,W)):(k=1\/k=2->r=V.length)/\(k=3->r<V.length):=by
 unfold mH at h;split at h;rename_i c;split at h;cases h;cases h;exact⟨λ_=>rfl,λh=>by omega⟩;rename_i n1;split at h;rename_i c;split at h;split at h;cases h;cases h;exact⟨λ_=>rfl,λh=>by omega⟩;cases h;rename_i n2;split at h;rename_i c;split at h;rename_i u r' e;split at h;cases h;exact⟨λh=>by omega,λ_=>U4 e⟩;cases h;cases h;rename_i n3;exact⟨λh=>by omega,λh=>by omega⟩
theorem adb{H:Hd}{V:List Vd}{k:Int}{es ys:List E}(h:zY H V k es=.ok ys):x9 V.length ys:=by
 unfold zY at h;rw[kJ];split at h;split at h;rename_i e l;cases hx:xM H V e with
 |error a=>rw[hx]at h;cases h|ok y=>
  rw[hx]at h;cases h;intro z hz;rw[List.mem_singleton.1 hz];exact OY e y hx
 cases h;simp;exact vq h λe _ y hy=>OY e y hy
theorem YK{H:Hd}{ct:Bool}{res:T3}(s:Sm):∀V y X,zh H ct res V s=.ok (y,X)->V.length<=X.length/\FY X.length y:=by
 induction s using Sm.xN with
 |_ s C8 nB=>
  intro V y X h;obtain⟨t,ys,r,W,hf,ht,YG,cI,hh⟩:=IK h;have mO:=adb YG;have hVW:V.length<=W.length:=by
   rcases Lf cI with e|⟨_,e⟩;rw[e];exact Nat.le_refl _;rw[e];simp
  have hr:=ahJ cI;have FL:s.k=1\/s.k=2->0<=r/\r<(W.length:Int):=λhk=>by
   rcases Lf cI with e|⟨_,e⟩;have h1:=hr.1 hk;have:W.length=V.length+1:=by
    unfold mH at cI;rcases hk with hk|hk;rw[if_pos hk]at cI;split at cI;cases cI;cases cI;simp;rw[if_neg (by omega),if_pos hk]at cI;split at cI;split at cI;cases cI;cases cI;simp;cases cI
   omega;have h1:=hr.1 hk;rw[e,h1];simp;omega
  have hr3:s.k=3->r<(W.length:Int):=λhk=>by have:=hr.2 hk;omega
  rcases hh with⟨h5,b,W1,c,hb,hc,rfl⟩|⟨h6,b,hb,rfl⟩|⟨h5,h6,rfl,rfl⟩;obtain⟨a1,a2⟩:=Aa (λx hx V y W hw=>C8 x hx V y W hw) hb;obtain⟨b1,b2⟩:=Aa (λx hx V y W hw=>nB x hx V y W hw) hc;refine⟨by omega,(vr _ _).2 ⟨xP (by omega) _ mO,λhk=>?_,λhk=>?_,Re b1 _ a2,b2⟩⟩;have hk:s.k=1\/s.k=2:=hk;omega;have hk:s.k=3:=hk;omega;obtain⟨a1,a2⟩:=Aa (λx hx V y W hw=>C8 x hx V y W hw) hb;refine⟨by omega,(vr _ _).2 ⟨xP (by omega) _ mO,λhk=>?_,λhk=>?_,a2,by simp[Sm.el,rN]⟩⟩;have hk:s.k=1\/s.k=2:=hk;omega;have hk:s.k=3:=hk;omega;exact⟨hVW,(vr _ _).2 ⟨xP hVW _ mO,FL,hr3,by simp[Sm.bd,rN],by simp[Sm.el,rN]⟩⟩
theorem YL{H:Hd}{ct:Bool}{res:T3}{l ys:List Sm}{V X:List Vd}(h:kW H ct res V l=.ok (ys,X)):V.length<=X.length/\rN X.length ys:=
 Aa (λs _ V y W=>YK s V y W) h
def su0(g:Sg)(b:Bd):List Bool:=List.replicate g.ps.length true++List.replicate (b.vars.length-g.ps.length) false
def yX:List Sg->List Bd->Option Int
 |s::ss,b::bs=>oU (iP (su0 s b) b.code).2 (yX ss bs)|_,_=>none
theorem EK{H:Hd}:∀{ss:List Sg}{fs:List Fc}{bs:List Bd},pM H ss fs=.ok bs->∀(k:Nat)(h1:k<ss.length)(h2:k<bs.length),ss[k].ps.length<=bs[k].vars.length/\rN bs[k].vars.length bs[k].code
 |[],_,bs,h,k,h1,_=>by simp at h1|s::ss,[],bs,h,k,_,h2=>by
  unfold pM at h;cases h;simp at h2
 |s::ss,f::fs,bs,h,k,h1,h2=>by
  unfold pM at h;split at h;cases h;rename_i c W hb;split at h;cases h;rename_i l hl;cases h;match k with
  |0=>exact YL hb|k+1=>
   have:=EK hl k (by simpa using h1) (by simpa using h2);simpa using this
end mG
