/- Part of a proof. -/
import Derived.Test.YtachcambnjecnaaGreatA6

namespace V7
open Ax Go
def sS:AV->Bool
 |.iO _ _=>false|_=>true
theorem wh{v:AV}(h:sS v=true)(hs:aD v=true):v.view=v:=by cases v<;>simp_all [sS,aD,AV.view]
@[simp]theorem JA(v:AV):sS v.view=true:=by cases v<;>simp[sS,AV.view]
def lT(sz:Nat)(p:List AV->Bool)(v:AV):Bool:=sS v&&bX sz v&&(aM v).all p
theorem qL{sz:Nat}{p:List AV->Bool}{v:AV}(h:lT sz p v=true):bX sz v=true:=by simp only[lT,Bool.and_eq_true]at h;exact h.1.2
theorem yQ{sz:Nat}{p:List AV->Bool}{v:AV}(h:lT sz p v=true):∀r∈aM v,p r=true:=by simp only[lT,Bool.and_eq_true,List.all_eq_true]at h;exact h.2
theorem xy{sz:Nat}{p:List AV->Bool}{v:AV}(h:lT sz p v=true):v.view=v:=by
 have h2:=pg (qL h);simp only[lT,Bool.and_eq_true]at h;exact wh h.1.1 h2
theorem zQ{α:Type}{sz:Nat}{p:List AV->Bool}{d:List AV->α}{e:α->List AV}{v:AV}(h:lT sz p v=true)(he:∀r,p r=true->r=e (d r)):aM v=((aM v).map d).map e:=by
 rw[List.map_map];conv=>lhs;rw[<-List.map_id (aM v)]
 exact List.map_congr_left λr hr=>he r (yQ h r hr)
def TY(n:Int):Bool:=decide (-9223372036854775808<=n)&&decide (n<=9223372036854775807)
structure T3 where
 b:Int
 r:Int
 d:Int
 deriving DecidableEq
abbrev T0:T3:=⟨0,0,0⟩
@[simp]def T3.cells(t:T3):List AV:=[.int .i64 t.b,.int .i64 t.r,.int .i64 t.d]
def aep(r:List AV):Bool:=match r with | [.int .i64 a,.int .i64 b,.int .i64 c]=>TY a&&TY b&&TY c|_=>false
def dT(r:List AV):T3:=match r with | [.int .i64 a,.int .i64 b,.int .i64 c]=>⟨a,b,c⟩|_=>T0
def aeq(v:AV):Bool:=lT 3 aep v
def dTs(v:AV):List T3:=(aM v).map dT
@[simp]theorem aer(v:AV):dTs v.view=dTs v:=by simp[dTs]
@[simp]theorem ZO{v:AV}(h:aeq v=true):bX 3 v=true:=qL h
@[simp]theorem aiO{v:AV}(h:aeq v=true):aD v=true:=pg (ZO h)
def M9(r:List AV):Bool:=match r with | [.str _]=>true|_=>false
def dSt(r:List AV):List UInt8:=match r with | [.str s]=>s|_=>[]
def qg(v:AV):Bool:=lT 1 M9 v
def ee(v:AV):List (List UInt8):=(aM v).map dSt
theorem Sn(r:List AV)(h:M9 r=true):r=[.str (dSt r)]:=by
 unfold M9 at h;split at h
 rfl
 cases h
theorem JB{v:AV}(h:qg v=true):aM v=(ee v).map λs=>[.str s]:=zQ h Sn
theorem wj{v:AV}(h:qg v=true):v.view=v:=xy h
@[simp]theorem mj(v:AV):ee v.view=ee v:=by simp[ee]
@[simp]theorem Na{v:AV}(h:qg v=true):bX 1 v=true:=qL h
@[simp]theorem xz{v:AV}(h:qg v=true):aD v=true:=pg (Na h)
def Cl{α:Type}(p:α->Bool)(l:List α)(k:Nat):Prop:=∀j (h:j<l.length),j<k->p l[j]=false
theorem qM{α:Type}{p:α->Bool}{l:List α}:Cl p l 0:=λ_ _ h=>absurd h (by omega)
theorem qN{α:Type}{p:α->Bool}{l:List α}{k:Nat}(h:Cl p l k)(h1:k<l.length)(hp:p l[k]=false):Cl p l (k+1):=by
 intro j j1 hj;rcases Nat.lt_or_ge j k with tV|tV;exact h j j1 tV;have:j=k:=by omega
 subst this;exact hp
def vo(l:List (List UInt8))(s:List UInt8):Int:=match l.findIdx? λx=>decide (x=s) with
 |some k=>k|none=>-1
theorem HJ{l:List (List UInt8)}{s:List UInt8}{k:Nat}(h:Cl (λx=>decide (x=s)) l k)(hk:k<l.length)(e:l[k]=s):vo l s=k:=by
 have:l.findIdx? (λx=>decide (x=s))=some k:=by
  rw[List.findIdx?_eq_some_iff_getElem];refine⟨hk,by simpa using e,λj hj=>?_⟩;have:=h j (by omega) hj;simpa using this
 unfold vo;rw[this]
theorem AY{l:List (List UInt8)}{s:List UInt8}(h:Cl (λx=>decide (x=s)) l l.length):vo l s = -1:=by
 have:l.findIdx? (λx=>decide (x=s))=none:=by
  rw[List.findIdx?_eq_none_iff];intro x hx;obtain⟨j,hj,rfl⟩:=List.mem_iff_getElem.1 hx;exact h j hj hj
 unfold vo;rw[this]
theorem VE(l:List (List UInt8))(s:List UInt8):vo l s = -1\/∃k:Nat,vo l s=k/\k<l.length:=by
 unfold vo;cases e:l.findIdx? λx=>decide (x=s) with
 |none=>exact .inl rfl|some k=>exact .inr ⟨k,rfl,(List.findIdx?_eq_some_iff_getElem.1 e).1⟩
def bZ(l:List (List UInt8))(s:List UInt8)(d:Int):T3×Bool:=
 if d<0\/3<d then (T0,false) else
 if s=[105,110,116] then (⟨1,0,d⟩,true) else
 if s=[98,111,111,108] then (⟨2,0,d⟩,true) else
 if vo l s<0 then (T0,false) else (⟨3,vo l s,d⟩,true)
def nJ(t:T3):Bool:=decide (t.b=3)||decide (0<t.d)
structure PD where
 name:List UInt8
 on:List UInt8
 od:Int
 at_:Int
def PD.cells(p:PD):List AV:=[.str p.name,.str p.on,.int .i64 p.od,.int .i64 p.at_]
def Nb(r:List AV):Bool:=match r with | [.str _,.str _,.int .i64 d,.int .i64 a]=>TY d&&TY a|_=>false
def dP(r:List AV):PD:=match r with | [.str n,.str o,.int .i64 d,.int .i64 a]=>⟨n,o,d,a⟩|_=>⟨[],[],0,0⟩
theorem So(r:List AV)(h:Nb r=true):r=(dP r).cells:=by
 unfold Nb at h;split at h
 rfl
 cases h
def AZ(v:AV):Bool:=lT 4 Nb v
def iJ(v:AV):List PD:=(aM v).map dP
theorem Nc{v:AV}(h:AZ v=true):aM v=(iJ v).map PD.cells:=zQ h So
theorem pz{v:AV}(h:AZ v=true):v.view=v:=xy h
@[simp]theorem aes(v:AV):iJ v.view=iJ v:=by simp[iJ]
@[simp]theorem ZP{v:AV}(h:AZ v=true):bX 4 v=true:=qL h
@[simp]theorem sU{v:AV}(h:AZ v=true):aD v=true:=pg (ZP h)
structure CR where
 name:List UInt8
 cP:AV
 at_:Int
def CR.cells(r:CR):List AV:=[.str r.name,r.cP,.int .i64 r.at_]
def Gf(r:List AV):Bool:=match r with | [.str _,f,.int .i64 a]=>AZ f&&TY a|_=>false
def dCR(r:List AV):CR:=match r with | [.str s,f,.int .i64 a]=>⟨s,f,a⟩|_=>⟨[],.U,0⟩
theorem Sp(r:List AV)(h:Gf r=true):r=(dCR r).cells:=by
 unfold Gf at h;split at h
 rfl
 cases h
def BP(v:AV):Bool:=lT 3 Gf v
def cj(v:AV):List CR:=(aM v).map dCR
theorem D4{v:AV}(h:BP v=true):aM v=(cj v).map CR.cells:=zQ h Sp
theorem A5{v:AV}(h:BP v=true):∀r∈cj v,AZ r.cP=true:=by
 intro r hr;obtain⟨x,hx,rfl⟩:=List.mem_map.1 hr;have:=yQ h x hx;unfold Gf at this;unfold dCR;split at this;simp only[Bool.and_eq_true]at this;exact this.1;cases this
theorem zR{v:AV}(h:BP v=true):v.view=v:=xy h
@[simp]theorem abR(v:AV):cj v.view=cj v:=by simp[cj]
@[simp]theorem VF{v:AV}(h:BP v=true):bX 3 v=true:=qL h
@[simp]theorem CH{v:AV}(h:BP v=true):aD v=true:=pg (VF h)
structure FN where
 name:List UInt8
 params:AV
 bO:Bool
 on:List UInt8
 od:Int
 body:AV
 at_:Int
def FN.cells(f:FN):List AV:=[.str f.name,f.params,.bool f.bO,.str f.on,.int .i64 f.od,f.body,.int .i64 f.at_]
def Gg(r:List AV):Bool:=match r with | [.str _,p,.bool _,.str _,.int .i64 d,b,.int .i64 a]=>AZ p&&sS b&&aD b&&TY d&&TY a|_=>false
def dFN(r:List AV):FN:=match r with | [.str n,p,.bool h,.str o,.int .i64 d,b,.int .i64 a]=>⟨n,p,h,o,d,b,a⟩|_=>⟨[],.U,false,[],0,.U,0⟩
theorem Sq(r:List AV)(h:Gg r=true):r=(dFN r).cells:=by
 unfold Gg at h;split at h
 rfl
 cases h
def BQ(v:AV):Bool:=lT 7 Gg v
def dN(v:AV):List FN:=(aM v).map dFN
theorem JC{v:AV}(h:BQ v=true):aM v=(dN v).map FN.cells:=zQ h Sq
theorem Gh{v:AV}(h:BQ v=true):∀r∈dN v,AZ r.params=true/\sS r.body=true/\aD r.body=true:=by
 intro r hr;obtain⟨x,hx,rfl⟩:=List.mem_map.1 hr;have:=yQ h x hx;unfold Gg at this;unfold dFN;split at this;simp only[Bool.and_eq_true]at this;exact⟨this.1.1.1.1,this.1.1.1.2,this.1.1.2⟩;cases this
theorem zS{v:AV}(h:BQ v=true):v.view=v:=xy h
@[simp]theorem abS(v:AV):dN v.view=dN v:=by simp[dN]
@[simp]theorem VG{v:AV}(h:BQ v=true):bX 7 v=true:=qL h
@[simp]theorem CI{v:AV}(h:BQ v=true):aD v=true:=pg (VG h)
structure GD where
 aR:AV
 globals:AV
 funcs:AV
def GD.cells(p:GD):List AV:=[p.aR,p.globals,p.funcs]
structure GD.ok (p:GD):Prop where
 aR:BP p.aR=true
 globals:AZ p.globals=true
 funcs:BQ p.funcs=true
def iK(l:List CR):List (List UInt8):=l.map (·.name)
def A6(rs:List (List UInt8))(p:PD):List AV:=.str p.name::(bZ rs p.on p.od).1.cells
def dA(rs:List (List UInt8))(l:List PD):List (List AV):=l.map (A6 rs)
def wm(a b:Option Int):Option Int:=match a with|some x=>some x|none=>b
def nU(rs:List (List UInt8))(before:List PD)(p:PD):Option Int:=if before.any (λq=>decide (q.name=p.name)) || !(bZ rs p.on p.od).2 then some p.at_ else none
def cH{α:Type}(vu:List α->α->Option Int)(l:List α):Nat->Option Int
 |0=>none|k+1=>wm (cH vu l k) (match l[k]? with|some x=>vu (l.take k) x|none=>none)
def yp(a:Option Int):List AV:=match a with|some x=>[.int .i64 3,.int .i64 x]|none=>[.int .i64 0,.int .i64 0]
end V7
namespace jG
open Ax Go V7
structure Tk where
 k:Int
 t:List UInt8
 n:Int
 a:Int
def Tk.cells(x:Tk):List AV:=[.int .i64 x.k,.str x.t,.int .i64 x.n,.int .i64 x.a]
abbrev Tk0:Tk:=⟨0,[],0,0⟩
structure TL (l:AV)(T:List Tk):Prop where
 sz:bX 4 l=true
 rows:aM l=T.map Tk.cells
 len:T.length<1000000000
theorem TL.sl{l:AV}{T:List Tk}(h:TL l T):aD l=true:=pg h.sz
structure RQ where
 at_:Nat
 op:Int
 fe:Int
 fa:Int
def RQ.aT(l:AV)(q:RQ):dy:=.rows 0 5 [[l,.int .i64 q.at_,.int .i64 q.op,.int .i64 q.fe,.int .i64 q.fa]]
def fP(T:List Tk)(q:RQ):Tk:=T.getD q.at_ Tk0
def jr(T:List Tk)(q:RQ)(e:Int):RQ:=if q.fe=0 then ⟨q.at_,q.op,e,(fP T q).a⟩ else q
def yR(s:List UInt8):Int:=match s with|c::_=>if 97<=c.toNat/\c.toNat<=122 then 3 else 4 | []=>4
def iD(T:List Tk)(q:RQ)(s:List UInt8):Bool:=decide (q.fe=0)&&decide ((fP T q).k=yR s)&&decide ((fP T q).t=s)
def cg(q:RQ):RQ:=⟨q.at_+1,q.op,q.fe,q.fa⟩
def dH(T:List Tk)(q:RQ)(s:List UInt8):RQ:=if iD T q s then cg q else jr T q 2
def wo(q:RQ)(d:Int):RQ:=⟨q.at_,IntKind.i64.wrap (q.op+d),q.fe,q.fa⟩
def jJ(T:List Tk)(q:RQ)(s:List UInt8):RQ:=if iD T q s&&decide (50<=q.op) then jr T q 4 else wo (dH T q s) 1
def mm(T:List Tk)(q:RQ)(s:List UInt8):RQ:=wo (dH T q s) (-1)
def eu(T:List Tk)(q:RQ):List UInt8×RQ:=if q.fe=0/\(fP T q).k=1 then ((fP T q).t,cg q) else ([],jr T q 2)
def uC(T:List Tk)(q:RQ)(s:List UInt8):Nat->RQ
 |0=>q|k+1=>dH T (uC T q s k) s
def JD(T:List Tk):Nat->Nat->RQ->Nat×RQ
 |0,d,q=>(d,q)
 |k+1,d,q=>if iD T q [91] then JD T k (d+1) (cg q) else (d,q)
def ofN(T:List Tk)(q:RQ):List UInt8×RQ:=if iD T q [105,110,116]||iD T q [98,111,111,108] then ((fP T q).t,cg q) else eu T q
def yq(T:List Tk)(q:RQ):(List UInt8×Int)×RQ:=
 if iD T (JD T 3 0 q).2 [91] then (([],0),jr T (JD T 3 0 q).2 4)
 else (((ofN T (JD T 3 0 q).2).1,((JD T 3 0 q).1:Int)),uC T (ofN T (JD T 3 0 q).2).2 [93] (JD T 3 0 q).1)
def aA(sz:Nat)(rows:List (List AV)):AV:=(bD sz rows).view
inductive E where
 |mk (k n:Int) (nm on:List UInt8) (od:Int) (aC:List E) (a:Int) (ty:T3) (cG:Int)
def E.k:E->Int|.mk k _ _ _ _ _ _ _ _=>k
def E.n:E->Int|.mk _ n _ _ _ _ _ _ _=>n
def E.nm:E->List UInt8|.mk _ _ nm _ _ _ _ _ _=>nm
def E.on:E->List UInt8|.mk _ _ _ on _ _ _ _ _=>on
def E.od:E->Int|.mk _ _ _ _ od _ _ _ _=>od
def E.aC:E->List E|.mk _ _ _ _ _ aC _ _ _=>aC
def E.a:E->Int|.mk _ _ _ _ _ _ a _ _=>a
def E.ty:E->T3|.mk _ _ _ _ _ _ _ ty _=>ty
def E.cG:E->Int|.mk _ _ _ _ _ _ _ _ cG=>cG
mutual
def E.row:E->List AV
 |.mk k n nm on od aC a ty cG=>[.int .i64 k,.int .i64 n,.str nm,.str on,.int .i64 od,aA 11 (E.rows aC),.int .i64 a,.int .i64 ty.b,.int .i64 ty.r,.int .i64 ty.d,.int .i64 cG]
def E.rows:List E->List (List AV)
 |[]=>[]
 |e::l=>e.row::E.rows l
end
def Em(k n:Int)(nm on:List UInt8)(od:Int)(aC:List E)(a:Int):E:=.mk k n nm on od aC a T0 0
def aI(l:List E):AV:=aA 11 (E.rows l)
inductive Sm where
 |mk (k:Int) (nm on:List UInt8) (od:Int) (es:List E) (bd el:List Sm) (a cG:Int)
def Sm.k:Sm->Int|.mk k _ _ _ _ _ _ _ _=>k
def Sm.nm:Sm->List UInt8|.mk _ nm _ _ _ _ _ _ _=>nm
def Sm.on:Sm->List UInt8|.mk _ _ on _ _ _ _ _ _=>on
def Sm.od:Sm->Int|.mk _ _ _ od _ _ _ _ _=>od
def Sm.es:Sm->List E|.mk _ _ _ _ es _ _ _ _=>es
def Sm.bd:Sm->List Sm|.mk _ _ _ _ _ bd _ _ _=>bd
def Sm.el:Sm->List Sm|.mk _ _ _ _ _ _ el _ _=>el
def Sm.a:Sm->Int|.mk _ _ _ _ _ _ _ a _=>a
def Sm.cG:Sm->Int|.mk _ _ _ _ _ _ _ _ cG=>cG
mutual
def Sm.row:Sm->List AV
 |.mk k nm on od es bd el a cG=>[.int .i64 k,.str nm,.str on,.int .i64 od,aI es,aA 9 (Sm.rows bd),aA 9 (Sm.rows el),.int .i64 a,.int .i64 cG]
def Sm.rows:List Sm->List (List AV)
 |[]=>[]
 |s::l=>s.row::Sm.rows l
end
def aS(l:List Sm):AV:=aA 9 (Sm.rows l)
structure Rc where
 name:List UInt8
 cP:List PD
 a:Int
def Rc.row(r:Rc):List AV:=[.str r.name,aA 4 (r.cP.map PD.cells),.int .i64 r.a]
structure Fc where
 name:List UInt8
 params:List PD
 bO:Bool
 on:List UInt8
 od:Int
 body:List Sm
 a:Int
def Fc.row(f:Fc):List AV:=[.str f.name,aA 4 (f.params.map PD.cells),.bool f.bO,.str f.on,.int .i64 f.od,aS f.body,.int .i64 f.a]
structure Pg where
 aR:List Rc
 globals:List PD
 funcs:List Fc
def Pg.row(p:Pg):List AV:=[aA 3 (p.aR.map Rc.row),aA 4 (p.globals.map PD.cells),aA 7 (p.funcs.map Fc.row)]
@[simp]theorem aL{sz:Nat}{r:List (List AV)}:aD (aA sz r)=true:=by simp[aA]
@[simp]theorem aE{sz:Nat}{r:List (List AV)}:aM (aA sz r)=r:=by simp[aA]
@[simp]theorem aJ{sz:Nat}{r:List (List AV)}:(aA sz r).view=aA sz r:=by
 unfold aA bD;split<;>simp[AV.view]
@[simp]theorem kZ{sz:Nat}{r:List (List AV)}:(aA sz r).cx=true:=bU aL
@[simp]theorem oP{sz:Nat}{r:List (List AV)}:(aA sz r).ax=true:=ck aL
@[simp]theorem aQ{l:List E}:aD (aI l)=true:=aL
@[simp]theorem aN{l:List E}:(aI l).view=aI l:=aJ
@[simp]theorem aeu{l:List E}:(aI l).cx=true:=kZ
@[simp]theorem aev{l:List E}:(aI l).ax=true:=oP
@[simp]theorem bn{l:List Sm}:aD (aS l)=true:=aL
@[simp]theorem aO{l:List Sm}:(aS l).view=aS l:=aJ
@[simp]theorem aew{l:List Sm}:(aS l).cx=true:=kZ
@[simp]theorem aex{l:List Sm}:(aS l).ax=true:=oP
@[simp]theorem aey{sz:Nat}:aA sz []=.U:=rfl
@[simp]theorem abT{sz:Nat}{r:List AV}{l:List (List AV)}:aA sz (r::l)=.dL sz (r::l):=rfl
theorem gh:∀l:List E,E.rows l=l.map E.row
 |[]=>by simp[E.rows]|e::l=>by simp[E.rows,gh l]
theorem fY:∀l:List Sm,Sm.rows l=l.map Sm.row
 |[]=>by simp[Sm.rows]|e::l=>by simp[Sm.rows,fY l]
theorem qz:aI []=.U:=by simp[aI,E.rows,aA,jB,AV.view]
theorem pA:aS []=.U:=by simp[aS,Sm.rows,aA,jB,AV.view]
theorem E.az(e:E):e.row=[.int .i64 e.k,.int .i64 e.n,.str e.nm,.str e.on,.int .i64 e.od,aI e.aC,.int .i64 e.a,.int .i64 e.ty.b,.int .i64 e.ty.r,.int .i64 e.ty.d,.int .i64 e.cG]:=by
 cases e;simp[E.row,E.k,E.n,E.nm,E.on,E.od,E.aC,E.a,E.ty,E.cG,aI]
theorem Sm.az(s:Sm):s.row=[.int .i64 s.k,.str s.nm,.str s.on,.int .i64 s.od,aI s.es,aS s.bd,aS s.el,.int .i64 s.a,.int .i64 s.cG]:=by
 cases s;simp[Sm.row,Sm.k,Sm.nm,Sm.on,Sm.od,Sm.es,Sm.bd,Sm.el,Sm.a,Sm.cG,aS]
def eL:Nat->List (List UInt8×Int)
 |0=>[([124,124],24)]
 |1=>[([38,38],23)]
 |2=>[([60],19),([60,61],20),([61,61],21),([33,61],22)]
 |3=>[([43],14),([45],15)]
 |_=>[([42],16),([47],17),([37],18)]
def gy:List (List UInt8×Int)->List UInt8->Int
 |[],_=>0|(s,k)::r,t=>if s=t then k else gy r t
def uD(n:Nat)(c:Tk):Int:=if c.k=4 then gy (eL n) c.t else 0
mutual
def js(T:List Tk):Nat->Nat->RQ->Option (E×RQ)
 |0,_,_=>none|f+1,n,q=>if n=5 then p6 T f q else (js T f (n+1) q).bind λx=>oQ T f n x.1 x.2
def oQ(T:List Tk):Nat->Nat->E->RQ->Option (E×RQ)
 |0,_,_,_=>none|f+1,n,a,q=>if q.fe=0/\uD n (fP T q)≠0 then
   (js T f (n+1) (cg q)).bind λx=>oQ T f n (Em (uD n (fP T q)) 0 [] [] 0 [a,x.1] (fP T q).a) x.2
  else some (a,q)
def p6(T:List Tk):Nat->RQ->Option (E×RQ)
 |0,_=>none|f+1,q=>if iD T q [45]||iD T q [33] then
   (js T f 5 (jJ T q (fP T q).t)).bind λx=>some (Em (if iD T q [45] then 12 else 13) 0 [] [] 0 [x.1] (fP T q).a,wo x.2 (-1))
  else (p8 T f q).bind λx=>kD T f x.1 x.2
def kD(T:List Tk):Nat->E->RQ->Option (E×RQ)
 |0,_,_=>none|f+1,a,q=>if iD T q [46] then kD T f (Em 5 0 (eu T (cg q)).1 [] 0 [a] (fP T q).a) (eu T (cg q)).2
  else if iD T q [91] then (js T f 0 (jJ T q [91])).bind λx=>kD T f (Em 6 0 [] [] 0 [a,x.1] (fP T q).a) (mm T x.2 [93])
  else some (a,q)
def nV(T:List Tk):Nat->RQ->Option (E×RQ)
 |0,_=>none|f+1,q=>(js T f 0 (jJ T q [40])).bind λx=>some (x.1,mm T x.2 [41])
def p8(T:List Tk):Nat->RQ->Option (E×RQ)
 |0,_=>none|f+1,q=>
  if q.fe=0/\(fP T q).k=2 then some (Em 1 (fP T q).n [] [] 0 [] (fP T q).a,cg q)
  else if iD T q [116,114,117,101]||iD T q [102,97,108,115,101] then some (Em 2 (if (fP T q).t=[116,114,117,101] then 1 else 0) [] [] 0 [] (fP T q).a,cg q)
  else if iD T q [110,117,108,108] then some (Em 3 0 [] (yq T (cg q)).1.1 (yq T (cg q)).1.2 [] (fP T q).a,(yq T (cg q)).2)
  else if iD T q [110,101,119] then p9 T f (fP T q).a (cg q)
  else if iD T q [108,101,110] then (nV T f (cg q)).bind λx=>some (Em 10 0 [] [] 0 [x.1] (fP T q).a,x.2)
  else if iD T q [114,101,97,100] then some (Em 11 0 [] [] 0 [] (fP T q).a,mm T (jJ T (cg q) [40]) [41])
  else if iD T q [40] then nV T f q
  else if iD T (eu T q).2 [40] then (uV T f (eu T q).2).bind λx=>some (Em 7 0 (eu T q).1 [] 0 x.1 (fP T q).a,x.2)
  else some (Em 4 0 (eu T q).1 [] 0 [] (fP T q).a,(eu T q).2)
def p9(T:List Tk):Nat->Int->RQ->Option (E×RQ)
 |0,_,_=>none|f+1,a,q=>if iD T q [91] then
   (nV T f (dH T (yq T (cg q)).2 [93])).bind λx=>some (Em 9 0 [] (yq T (cg q)).1.1 (yq T (cg q)).1.2 [x.1] a,x.2)
  else some (Em 8 0 [] (eu T q).1 0 [] a,(eu T q).2)
def uV(T:List Tk):Nat->RQ->Option (List E×RQ)
 |0,_=>none|f+1,q=>if iD T (jJ T q [40]) [41] then some ([],mm T (jJ T q [40]) [41])
  else (js T f 0 (jJ T q [40])).bind λx=>tF T f [x.1] x.2
def tF(T:List Tk):Nat->List E->RQ->Option (List E×RQ)
 |0,_,_=>none|f+1,l,q=>if iD T q [44] then (js T f 0 (cg q)).bind λx=>tF T f (l++[x.1]) x.2
  else some (l,mm T q [41])
end
def sV(T:List Tk)(f:Nat)(a:Int)(q:RQ):Option (Sm×RQ):=
 (js T f 0 q).bind λx=>if iD T x.2 [61] then
   (js T f 0 (dH T (if x.1.k=4\/x.1.k=5\/x.1.k=6 then x.2 else jr T x.2 2) [61])).bind λy=>
    some (if x.1.k=4 then .mk 3 x.1.nm [] 0 [y.1] [] [] a 0 else .mk 4 [] [] 0 [x.1,y.1] [] [] a 0,dH T y.2 [59])
  else some (.mk 9 [] [] 0 [x.1] [] [] a 0,dH T (if iD T x.2 [59]=true/\x.1.k≠7 then jr T x.2 2 else x.2) [59])
def eA(T:List Tk)(q:RQ):PD×RQ:=
 (⟨(eu T q).1,(yq T (dH T (eu T q).2 [58])).1.1,(yq T (dH T (eu T q).2 [58])).1.2,(fP T q).a⟩,(yq T (dH T (eu T q).2 [58])).2)
mutual
def uW(T:List Tk):Nat->RQ->Option (Sm×RQ)
 |0,_=>none|f+1,q=>
  if iD T q [118,97,114] then
   some (.mk 1 (eA T (cg q)).1.name (eA T (cg q)).1.on (eA T (cg q)).1.od [] [] [] (fP T q).a 0,dH T (eA T (cg q)).2 [59])
  else if iD T q [108,101,116] then (js T f 0 (dH T (eA T (cg q)).2 [61])).bind λx=>
   some (.mk 2 (eA T (cg q)).1.name (eA T (cg q)).1.on (eA T (cg q)).1.od [x.1] [] [] (fP T q).a 0,dH T x.2 [59])
  else if iD T q [105,102] then (js T f 0 (cg q)).bind λx=>(jZ T f x.2).bind λy=>
   if iD T y.2 [101,108,115,101] then (jZ T f (cg y.2)).bind λz=>some (.mk 5 [] [] 0 [x.1] y.1 z.1 (fP T q).a 0,z.2)
   else some (.mk 5 [] [] 0 [x.1] y.1 [] (fP T q).a 0,y.2)
  else if iD T q [119,104,105,108,101] then (js T f 0 (cg q)).bind λx=>(jZ T f x.2).bind λy=>
   some (.mk 6 [] [] 0 [x.1] y.1 [] (fP T q).a 0,y.2)
  else if iD T q [114,101,116,117,114,110] then
   if iD T (cg q) [59] then some (.mk 7 [] [] 0 [] [] [] (fP T q).a 0,dH T (cg q) [59])
   else (js T f 0 (cg q)).bind λx=>some (.mk 7 [] [] 0 [x.1] [] [] (fP T q).a 0,dH T x.2 [59])
  else if iD T q [112,114,105,110,116] then (js T f 0 (cg q)).bind λx=>some (.mk 8 [] [] 0 [x.1] [] [] (fP T q).a 0,dH T x.2 [59])
  else sV T f (fP T q).a q
def jZ(T:List Tk):Nat->RQ->Option (List Sm×RQ)
 |0,_=>none|f+1,q=>oR T f [] (jJ T q [123])
def oR(T:List Tk):Nat->List Sm->RQ->Option (List Sm×RQ)
 |0,_,_=>none|f+1,l,q=>if q.fe=0/\iD T q [125]=false then (uW T f q).bind λx=>oR T f (l++[x.1]) x.2
  else some (l,mm T q [125])
end
def mo(T:List Tk):Nat->List PD->RQ->Option (List PD×RQ)
 |0,_,_=>none|f+1,l,q=>if q.fe=0/\iD T q [125]=false then
   if (fP T q).k=1/\l.length=8 then some (l,jr T q 4)
   else mo T f (l++[(eA T q).1]) (dH T (eA T q).2 [59])
  else some (l,q)
def qA(T:List Tk)(f:Nat)(q:RQ):Option (Rc×RQ):=
 (mo T f [] (dH T (eu T q).2 [123])).bind λx=>some (⟨(eu T q).1,x.1,(fP T q).a⟩,dH T x.2 [125])
def D5(T:List Tk)(q:RQ):RQ:=if iD T q [41] then q else if iD T (dH T q [44]) [41] then jr T (dH T q [44]) 2 else dH T q [44]
def mq(T:List Tk):Nat->List PD->RQ->Option (List PD×RQ)
 |0,_,_=>none|f+1,l,q=>if q.fe=0/\iD T q [41]=false then
   if (fP T q).k=1/\l.length=6 then some (l,jr T q 4)
   else mq T f (l++[(eA T q).1]) (D5 T (eA T q).2)
  else some (l,q)
def wu(T:List Tk)(f:Nat)(q:RQ):Option (Fc×RQ):=
 (mq T f [] (dH T (eu T q).2 [40])).bind λx=>
  if iD T (dH T x.2 [41]) [58] then
   (jZ T f (yq T (cg (dH T x.2 [41]))).2).bind λy=>some (⟨(eu T q).1,x.1,true,(yq T (cg (dH T x.2 [41]))).1.1,(yq T (cg (dH T x.2 [41]))).1.2,y.1,(fP T q).a⟩,y.2)
  else (jZ T f (dH T x.2 [41])).bind λy=>some (⟨(eu T q).1,x.1,false,[],0,y.1,(fP T q).a⟩,y.2)
def ZQ:List UInt8:=[114,101,99,111,114,100]
def Sr:List UInt8:=[103,108,111,98,97,108]
def Ss:List UInt8:=[102,117,110,99]
def pO(T:List Tk):Nat->Pg->RQ->Option (Pg×RQ)
 |0,_,_=>none|f+1,p,q=>if q.fe=0/\(fP T q).k≠0 then
   if iD T q ZQ=true/\p.aR.length=12\/iD T q Sr=true/\p.globals.length=8\/iD T q Ss=true/\p.funcs.length=16 then pO T f p (jr T q 4)
   else if iD T q ZQ then (qA T f (cg q)).bind λx=>pO T f ⟨p.aR++[x.1],p.globals,p.funcs⟩ x.2
   else if iD T q Sr then pO T f ⟨p.aR,p.globals++[(eA T (cg q)).1],p.funcs⟩ (dH T (eA T (cg q)).2 [59])
   else if iD T q Ss then (wu T f (cg q)).bind λx=>pO T f ⟨p.aR,p.globals,p.funcs++[x.1]⟩ x.2
   else pO T f p (jr T q 2)
  else some (p,q)
def CJ:Pg:=⟨[],[],[]⟩
def uE(T:List Tk)(f:Nat):Option (Pg×Int×Int):=
 (pO T f CJ ⟨0,0,0,0⟩).bind λx=>some (if x.2.fe=0 then (x.1,0,0) else (CJ,x.2.fe,x.2.fa))
end jG
namespace jG
open Ax Go V7
structure fU (T:List Tk)(q r:RQ):Prop where
 le:q.at_<=r.at_
 ub:q.at_<=T.length->r.at_<=T.length
 vu:q.fe≠0->r.fe=q.fe/\r.at_=q.at_
theorem fU.refl(T:List Tk)(q:RQ):fU T q q:=⟨Nat.le_refl _,id,λ_=>⟨rfl,rfl⟩⟩
theorem fU.trans{T:List Tk}{q r s:RQ}(h:fU T q r)(k:fU T r s):fU T q s:=
 ⟨Nat.le_trans h.le k.le,λu=>k.ub (h.ub u),λb=>by
  obtain⟨a1,a2⟩:=h.vu b;obtain⟨b1,b2⟩:=k.vu (by rw[a1];exact b);exact⟨b1.trans a1,b2.trans a2⟩⟩
theorem fU.BR{T:List Tk}{q r:RQ}(h:fU T q r)(f:r.fe=0):q.fe=0:=by
 apply Classical.byContradiction;intro hn;have:=(h.vu hn).1;rw[f]at this;exact hn this.symm
theorem uF{T:List Tk}{q:RQ}(h:(fP T q).k≠0):q.at_<T.length:=by
 apply Classical.byContradiction;intro hn;rw[fP,List.getD,List.getElem?_eq_none (by omega)]at h;exact h rfl
theorem OE(s:List UInt8):yR s≠0:=by
 unfold yR;split;split<;>decide
 decide
theorem bR{T:List Tk}{q:RQ}{s:List UInt8}(h:iD T q s=true):q.fe=0/\q.at_<T.length:=by
 simp only[iD,Bool.and_eq_true,decide_eq_true_eq]at h;exact⟨h.1.1,uF (by rw[h.1.2];exact OE s)⟩
theorem Gi{T:List Tk}{q:RQ}{s:List UInt8}(h:iD T q s=true):(fP T q).t=s:=by
 simp only[iD,Bool.and_eq_true,decide_eq_true_eq]at h;exact h.2
theorem VH{T:List Tk}{q:RQ}{s:List UInt8}(h:q.fe≠0):iD T q s=false:=by simp[iD,h]
theorem zT{T:List Tk}{q:RQ}{n:Nat}(h:uD n (fP T q)≠0):q.at_<T.length:=uF (by
 unfold uD at h;split at h;rename_i e;rw[e];decide;exact absurd rfl h)
theorem cD{T:List Tk}{q:RQ}(h:q.fe=0)(h2:q.at_<T.length):fU T q (cg q):=⟨Nat.le_succ _,λ_=>h2,λb=>absurd h b⟩
theorem jw{T:List Tk}{q:RQ}{e:Int}:fU T q (jr T q e):=by
 unfold jr;split;rename_i h;exact⟨Nat.le_refl _,id,λb=>absurd h b⟩;exact fU.refl T q
theorem A7{T:List Tk}{q:RQ}{d:Int}:fU T q (wo q d):=⟨Nat.le_refl _,id,λ_=>⟨rfl,rfl⟩⟩
theorem bM{T:List Tk}{q:RQ}{s:List UInt8}:fU T q (dH T q s):=by
 unfold dH;split;rename_i h;exact cD (bR h).1 (bR h).2;exact jw
theorem fM{T:List Tk}{q:RQ}{s:List UInt8}:fU T q (jJ T q s):=by
 unfold jJ;split;exact jw;exact bM.trans A7
theorem ff{T:List Tk}{q:RQ}{s:List UInt8}:fU T q (mm T q s):=bM.trans A7
theorem iG{T:List Tk}{q:RQ}:fU T q (eu T q).2:=by
 unfold eu;split;rename_i h;exact cD h.1 (uF (by rw[h.2];decide));exact jw
theorem D6{T:List Tk}{q:RQ}{s:List UInt8}:∀k,fU T q (uC T q s k)
 |0=>fU.refl T q|k+1=>(D6 k).trans bM
theorem D7{T:List Tk}:∀(k d:Nat)(q:RQ),fU T q (JD T k d q).2/\(JD T k d q).1<=d+k/\d<=(JD T k d q).1
 |0,d,q=>⟨fU.refl T q,Nat.le_refl _,Nat.le_refl _⟩
 |k+1,d,q=>by
  unfold JD;split;rename_i h;obtain⟨h1,h2,h3⟩:=D7 (T:=T) k (d+1) (cg q);exact⟨(cD (bR h).1 (bR h).2).trans h1,by omega,by omega⟩;exact⟨fU.refl T q,by simp,Nat.le_refl _⟩
theorem Su{T:List Tk}{q:RQ}:fU T q (ofN T q).2:=by
 unfold ofN;split;rename_i h;rw[Bool.or_eq_true]at h;rcases h with h|h<;>exact cD (bR h).1 (bR h).2;exact iG
theorem nW{T:List Tk}{q:RQ}:fU T q (yq T q).2:=by
 unfold yq;have h:=(D7 (T:=T) 3 0 q).1;split;exact h.trans jw;exact(h.trans Su).trans (D6 _)
theorem Ln{T:List Tk}{q:RQ}:0<=(yq T q).1.2/\(yq T q).1.2<=3:=by
 have h:=(D7 (T:=T) 3 0 q).2.1;unfold yq;split;exact⟨Int.le_refl _,by show (0:Int)<=3;decide⟩;refine⟨Int.natCast_nonneg _,?_⟩;simp only;omega
theorem jh{T:List Tk}{q:RQ}:fU T q (eA T q).2:=(iG.trans bM).trans nW
def mu(T:List Tk)(q:RQ):Nat:=if q.fe=0 then T.length-q.at_+1 else 0
theorem lU{T:List Tk}{q r:RQ}(h:fU T q r):mu T r<=mu T q:=by
 unfold mu;by_cases f:q.fe=0;rw[if_pos f];split;have:=h.le;omega;omega;obtain⟨a1,_⟩:=h.vu f;rw[a1,if_neg f,if_neg f];exact Nat.le_refl _
def uG(T:List Tk)(q r:RQ):Prop:=r.fe≠0\/q.at_<T.length/\q.at_<r.at_
theorem D8{T:List Tk}{q r:RQ}(f:q.fe=0)(w:uG T q r):mu T r<mu T q:=by
 unfold mu;rw[if_pos f];rcases w with w|⟨w,v⟩;rw[if_neg w];omega;split<;>omega
theorem nX{T:List Tk}{q r:RQ}(h:fU T q r)(w:uG T q r):mu T r<=mu T q-1:=by
 by_cases f:q.fe=0;have:=D8 f w;omega;have h0:mu T q=0:=by unfold mu;rw[if_neg f]
 have:=lU h;omega
theorem rF{T:List Tk}{q:RQ}(f:q.fe=0):0<mu T q:=by unfold mu;rw[if_pos f];omega
theorem kQ{T:List Tk}{q:RQ}{e:Int}(he:e≠0):(jr T q e).fe≠0:=by
 unfold jr;split;exact he
 assumption
theorem mw{T:List Tk}{q:RQ}(h:q.at_<T.length):uG T q (cg q):=.inr ⟨h,Nat.lt_succ_self _⟩
theorem j4{T:List Tk}{q:RQ}{s:List UInt8}:uG T q (dH T q s):=by
 unfold dH;split;rename_i h;exact mw (bR h).2;exact .inl (kQ (by decide))
theorem kE{T:List Tk}{q:RQ}{s:List UInt8}:uG T q (jJ T q s):=by
 unfold jJ;split;exact .inl (kQ (by decide));exact j4
theorem oS{T:List Tk}{q:RQ}:uG T q (eu T q).2:=by
 unfold eu;split;rename_i h;exact mw (uF (by rw[h.2];decide));exact .inl (kQ (by decide))
theorem uG.trans{T:List Tk}{q r s:RQ}(w:uG T q r)(h:fU T r s):uG T q s:=by
 rcases w with w|⟨w,v⟩;exact .inl (by rw[(h.vu w).1];exact w);exact .inr ⟨w,Nat.lt_of_lt_of_le v h.le⟩
theorem fU.HK{T:List Tk}{q r s:RQ}(h:fU T q r)(w:uG T r s):uG T q s:=by
 rcases w with w|⟨w,v⟩;exact .inl w;exact .inr ⟨Nat.lt_of_le_of_lt h.le w,Nat.lt_of_le_of_lt h.le v⟩
theorem uH{T:List Tk}{q:RQ}:uG T q (eA T q).2:=(oS.trans bM).trans nW
theorem zU(T:List Tk):∀f:Nat,(∀n q e r,js T f n q=some (e,r)->fU T q r)/\(∀n a q e r,oQ T f n a q=some (e,r)->fU T q r)/\
  (∀q e r,p6 T f q=some (e,r)->fU T q r)/\(∀a q e r,kD T f a q=some (e,r)->fU T q r)/\(∀q e r,nV T f q=some (e,r)->fU T q r)/\
  (∀q e r,p8 T f q=some (e,r)->fU T q r)/\(∀a q e r,p9 T f a q=some (e,r)->fU T q r)/\(∀q e r,uV T f q=some (e,r)->fU T q r)/\
  (∀l q e r,tF T f l q=some (e,r)->fU T q r)
 |0=>by simp[js,oQ,p6,kD,nV,p8,p9,uV,tF]|f+1=>by
  obtain⟨hE,hS,hU,hB,hI,hF,hN,hA,hM⟩:=zU T f;refine⟨λn q e r h=>?_,λn a q e r h=>?_,λq e r h=>?_,λa q e r h=>?_,λq e r h=>?_,λq e r h=>?_,λa q e r h=>?_,λq e r h=>?_,λl q e r h=>?_⟩;unfold js at h;split at h;exact hU _ _ _ h;obtain⟨⟨x1,x2⟩,h1,h2⟩:=Option.bind_eq_some_iff.1 h;exact(hE _ _ _ _ h1).trans (hS _ _ _ _ _ h2);unfold oQ at h;split at h;rename_i c;obtain⟨⟨x1,x2⟩,h1,h2⟩:=Option.bind_eq_some_iff.1 h;exact((cD c.1 (zT c.2)).trans (hE _ _ _ _ h1)).trans (hS _ _ _ _ _ h2);cases h;exact fU.refl _ _;unfold p6 at h;split at h;obtain⟨⟨x1,x2⟩,h1,h2⟩:=Option.bind_eq_some_iff.1 h;cases h2;exact(fM.trans (hE _ _ _ _ h1)).trans A7;obtain⟨⟨x1,x2⟩,h1,h2⟩:=Option.bind_eq_some_iff.1 h;exact(hF _ _ _ h1).trans (hB _ _ _ _ h2);unfold kD at h;split at h;rename_i c;exact((cD (bR c).1 (bR c).2).trans iG).trans (hB _ _ _ _ h);split at h;obtain⟨⟨x1,x2⟩,h1,h2⟩:=Option.bind_eq_some_iff.1 h;exact((fM.trans (hE _ _ _ _ h1)).trans ff).trans (hB _ _ _ _ h2);cases h;exact fU.refl _ _;unfold nV at h;obtain⟨⟨x1,x2⟩,h1,h2⟩:=Option.bind_eq_some_iff.1 h;cases h2;exact(fM.trans (hE _ _ _ _ h1)).trans ff;unfold p8 at h;split at h;rename_i c;cases h;exact cD c.1 (uF (by rw[c.2];decide));split at h;rename_i c;cases h;rw[Bool.or_eq_true]at c;rcases c with c|c<;>exact cD (bR c).1 (bR c).2;split at h;rename_i c;cases h;exact(cD (bR c).1 (bR c).2).trans nW;split at h;rename_i c;exact(cD (bR c).1 (bR c).2).trans (hN _ _ _ _ h);split at h;rename_i c;obtain⟨⟨x1,x2⟩,h1,h2⟩:=Option.bind_eq_some_iff.1 h;cases h2;exact(cD (bR c).1 (bR c).2).trans (hI _ _ _ h1);split at h;rename_i c;cases h;exact((cD (bR c).1 (bR c).2).trans fM).trans ff;split at h;exact hI _ _ _ h;split at h;obtain⟨⟨x1,x2⟩,h1,h2⟩:=Option.bind_eq_some_iff.1 h;cases h2;exact iG.trans (hA _ _ _ h1);cases h;exact iG;unfold p9 at h;split at h;rename_i c;obtain⟨⟨x1,x2⟩,h1,h2⟩:=Option.bind_eq_some_iff.1 h;cases h2;exact(((cD (bR c).1 (bR c).2).trans nW).trans bM).trans (hI _ _ _ h1);cases h;exact iG;unfold uV at h;split at h;cases h;exact fM.trans ff;obtain⟨⟨x1,x2⟩,h1,h2⟩:=Option.bind_eq_some_iff.1 h;exact(fM.trans (hE _ _ _ _ h1)).trans (hM _ _ _ _ h2);unfold tF at h;split at h;rename_i c;obtain⟨⟨x1,x2⟩,h1,h2⟩:=Option.bind_eq_some_iff.1 h;exact((cD (bR c).1 (bR c).2).trans (hE _ _ _ _ h1)).trans (hM _ _ _ _ h2);cases h;exact ff
theorem iX{T:List Tk}{f n:Nat}{q r:RQ}{e:E}(h:js T f n q=some (e,r)):fU T q r:=(zU T f).1 _ _ _ _ h
theorem bind_some{α β:Type}{x:Option α}{g:α->Option β}(h1:∃a,x=some a)(h2:∀a,x=some a->∃b,g a=some b):∃b,x.bind g=some b:=by
 obtain⟨a,ha⟩:=h1;obtain⟨b,hb⟩:=h2 a ha;exact⟨b,by rw[ha];exact hb⟩
theorem JE(T:List Tk):∀f:Nat,(∀n q,n<=5->40*mu T q+12<=f+n->∃x,js T f n q=some x)/\(∀n a q,n<5->40*mu T q+1<=f->∃x,oQ T f n a q=some x)/\
  (∀q,40*mu T q+6<=f->∃x,p6 T f q=some x)/\(∀a q,40*mu T q+1<=f->∃x,kD T f a q=some x)/\(∀q,40*(mu T q-1)+13<=f->∃x,nV T f q=some x)/\
  (∀q,40*mu T q+5<=f->∃x,p8 T f q=some x)/\(∀a q,40*mu T q+15<=f->∃x,p9 T f a q=some x)/\(∀q,40*(mu T q-1)+13<=f->∃x,uV T f q=some x)/\
  (∀l q,40*mu T q+1<=f->∃x,tF T f l q=some x)
 |0=>by
  refine⟨λn q h1 h2=>?_,λn a q h1 h2=>?_,λq h=>?_,λa q h=>?_,λq h=>?_,λq h=>?_,λa q h=>?_,λq h=>?_,λl q h=>?_⟩<;>omega
 |f+1=>by
  obtain⟨hE,hS,hU,hB,hI,hF,hN,hA,hM⟩:=JE T f;obtain⟨gE,gS,gU,gB,gI,gF,gN,gA,gM⟩:=zU T f;refine⟨λn q h1 h2=>?_,λn a q h1 h2=>?_,λq h=>?_,λa q h=>?_,λq h=>?_,λq h=>?_,λa q h=>?_,λq h=>?_,λl q h=>?_⟩;unfold js;split;exact hU _ (by omega);refine bind_some (hE _ _ (by omega) (by omega)) λ⟨x1,x2⟩ h3=>?_;try dsimp only
  have:=lU (gE _ _ _ _ h3);exact hS _ _ _ (by omega) (by omega);unfold oQ;split;rename_i c;have m1:=nX (cD c.1 (zT c.2)) (mw (zT c.2));have m0:=rF (T:=T) c.1;refine bind_some (hE _ _ (by omega) (by omega)) λ⟨x1,x2⟩ h3=>?_;try dsimp only
  have:=lU (gE _ _ _ _ h3);exact hS _ _ _ (by omega) (by omega);exact⟨_,rfl⟩;unfold p6;split;rename_i c;rw[Bool.or_eq_true]at c;have c0:q.fe=0:=by rcases c with c|c<;>exact(bR c).1
  have m1:=nX (T:=T) (q:=q) (fM (s:=(fP T q).t)) kE;have m0:=rF (T:=T) c0;exact bind_some (hE _ _ (by omega) (by omega)) λx _=>⟨_,rfl⟩;refine bind_some (hF _ (by omega)) λ⟨x1,x2⟩ h3=>?_;try dsimp only
  have:=lU (gF _ _ _ h3);exact hB _ _ (by omega);unfold kD;split;rename_i c;have m1:=nX ((cD (bR c).1 (bR c).2).trans iG) ((mw (bR c).2).trans iG);have m0:=rF (T:=T) (bR c).1;exact hB _ _ (by omega);split;rename_i c;have m0:=rF (T:=T) (bR c).1;have m1:=nX (T:=T) (q:=q) (fM (s:=[91])) kE;refine bind_some (hE _ _ (by omega) (by omega)) λ⟨x1,x2⟩ h3=>?_;try dsimp only
  have m2:=lU ((gE _ _ _ _ h3).trans (ff (s:=[93])));exact hB _ _ (by omega);exact⟨_,rfl⟩;unfold nV;have m1:=nX (T:=T) (q:=q) (fM (s:=[40])) kE;exact bind_some (hE _ _ (by omega) (by omega)) λx _=>⟨_,rfl⟩;unfold p8;split;exact⟨_,rfl⟩;split;exact⟨_,rfl⟩;split;exact⟨_,rfl⟩;split;rename_i c;have m1:=nX (cD (bR c).1 (bR c).2) (mw (bR c).2);have m0:=rF (T:=T) (bR c).1;exact hN _ _ (by omega);split;rename_i c;have m1:=nX (cD (bR c).1 (bR c).2) (mw (bR c).2);have m0:=rF (T:=T) (bR c).1;exact bind_some (hI _ (by omega)) λx _=>⟨_,rfl⟩;split;exact⟨_,rfl⟩;split;rename_i c;have m0:=rF (T:=T) (bR c).1;exact hI _ (by omega);split;rename_i c;have m0:=rF (T:=T) (bR c).1;have m1:=lU (T:=T) (q:=q) iG;exact bind_some (hA _ (by omega)) λx _=>⟨_,rfl⟩;exact⟨_,rfl⟩;unfold p9;split;rename_i c;have m1:=lU (((cD (bR c).1 (bR c).2).trans nW).trans (bM (s:=[93])));exact bind_some (hI _ (by omega)) λx _=>⟨_,rfl⟩;exact⟨_,rfl⟩;unfold uV;split;exact⟨_,rfl⟩;have m1:=nX (T:=T) (q:=q) (fM (s:=[40])) kE;refine bind_some (hE _ _ (by omega) (by omega)) λ⟨x1,x2⟩ h3=>?_;try dsimp only
  have:=lU (gE _ _ _ _ h3);exact hM _ _ (by omega);unfold tF;split;rename_i c;have m1:=nX (cD (bR c).1 (bR c).2) (mw (bR c).2);have m0:=rF (T:=T) (bR c).1;refine bind_some (hE _ _ (by omega) (by omega)) λ⟨x1,x2⟩ h3=>?_;try dsimp only
  have:=lU (gE _ _ _ _ h3);exact hM _ _ (by omega);exact⟨_,rfl⟩
theorem oT{T:List Tk}{f:Nat}{q:RQ}(h:40*mu T q+12<=f):∃x,js T f 0 q=some x:=(JE T f).1 0 q (by omega) (by omega)
theorem Lp{T:List Tk}{f:Nat}{a:Int}{q r:RQ}{s:Sm}(h:sV T f a q=some (s,r)):fU T q r/\uG T q r:=by
 unfold sV at h;obtain⟨⟨x1,x2⟩,h1,h2⟩:=Option.bind_eq_some_iff.1 h;have g1:=iX h1;dsimp only at h2;split at h2;obtain⟨⟨y1,y2⟩,h3,h4⟩:=Option.bind_eq_some_iff.1 h2;cases h4;have g2:fU T x2 (dH T (if x1.k=4\/x1.k=5\/x1.k=6 then x2 else jr T x2 2) [61]):=by
  refine fU.trans ?_ bM;split;exact fU.refl _ _;exact jw
 have g3:=(g1.trans g2).trans (iX h3);exact⟨g3.trans bM,g3.HK j4⟩;cases h2;have g2:fU T x2 (if iD T x2 [59]=true/\x1.k≠7 then jr T x2 2 else x2):=by
  split;exact jw;exact fU.refl _ _
 exact⟨(g1.trans g2).trans bM,(g1.trans g2).HK j4⟩
theorem rG(T:List Tk):∀f:Nat,(∀q s r,uW T f q=some (s,r)->fU T q r/\uG T q r)/\(∀q s r,jZ T f q=some (s,r)->fU T q r/\uG T q r)/\
  (∀l q s r,oR T f l q=some (s,r)->fU T q r)
 |0=>by simp[uW,jZ,oR]|f+1=>by
  obtain⟨hS,hB,hL⟩:=rG T f;refine⟨λq s r h=>?_,λq s r h=>?_,λl q s r h=>?_⟩;unfold uW at h;split at h;rename_i c;cases h;have g:=(cD (bR c).1 (bR c).2).trans jh;exact⟨g.trans bM,g.HK j4⟩;split at h;rename_i c;obtain⟨⟨x1,x2⟩,h1,h2⟩:=Option.bind_eq_some_iff.1 h;cases h2;have g:=(((cD (bR c).1 (bR c).2).trans jh).trans bM).trans (iX h1);exact⟨g.trans bM,g.HK j4⟩;split at h;rename_i c;obtain⟨⟨x1,x2⟩,h1,h2⟩:=Option.bind_eq_some_iff.1 h;obtain⟨⟨y1,y2⟩,h3,h4⟩:=Option.bind_eq_some_iff.1 h2;have g1:=(cD (bR c).1 (bR c).2).trans (iX h1);have g:=g1.trans (hB _ _ _ h3).1;have w:=g1.HK (hB _ _ _ h3).2;dsimp only at h4;split at h4;rename_i d;obtain⟨⟨z1,z2⟩,h5,h6⟩:=Option.bind_eq_some_iff.1 h4;cases h6;have g2:=(cD (bR d).1 (bR d).2).trans (hB _ _ _ h5).1;exact⟨g.trans g2,w.trans g2⟩;cases h4;exact⟨g,w⟩;split at h;rename_i c;obtain⟨⟨x1,x2⟩,h1,h2⟩:=Option.bind_eq_some_iff.1 h;obtain⟨⟨y1,y2⟩,h3,h4⟩:=Option.bind_eq_some_iff.1 h2;cases h4;have g1:=(cD (bR c).1 (bR c).2).trans (iX h1);exact⟨g1.trans (hB _ _ _ h3).1,g1.HK (hB _ _ _ h3).2⟩;split at h;rename_i c;have g1:=cD (bR c).1 (bR c).2;split at h;cases h;exact⟨g1.trans bM,g1.HK j4⟩;obtain⟨⟨x1,x2⟩,h1,h2⟩:=Option.bind_eq_some_iff.1 h;cases h2;have g:=g1.trans (iX h1);exact⟨g.trans bM,g.HK j4⟩;split at h;rename_i c;obtain⟨⟨x1,x2⟩,h1,h2⟩:=Option.bind_eq_some_iff.1 h;cases h2;have g:=(cD (bR c).1 (bR c).2).trans (iX h1);exact⟨g.trans bM,g.HK j4⟩;exact Lp h;unfold jZ at h;have g:=hL _ _ _ _ h;exact⟨fM.trans g,kE.trans g⟩;unfold oR at h;split at h;obtain⟨⟨x1,x2⟩,h1,h2⟩:=Option.bind_eq_some_iff.1 h;exact(hS _ _ _ h1).1.trans (hL _ _ _ _ h2);cases h;exact ff
theorem Lq{T:List Tk}{f:Nat}{a:Int}{q:RQ}(h:40*mu T q+12<=f):∃x,sV T f a q=some x:=by
 unfold sV;refine bind_some (oT h) λ⟨x1,x2⟩ h1=>?_;try dsimp only
 have m1:=lU (iX h1);split;have g2:fU T x2 (dH T (if x1.k=4\/x1.k=5\/x1.k=6 then x2 else jr T x2 2) [61]):=by
  refine fU.trans ?_ bM;split;exact fU.refl _ _;exact jw
 have m2:=lU g2;exact bind_some (oT (by omega)) λx _=>⟨_,rfl⟩;exact⟨_,rfl⟩
theorem D9(T:List Tk):∀f:Nat,(∀q,40*mu T q+15<=f->∃x,uW T f q=some x)/\(∀q,40*(mu T q-1)+18<=f->∃x,jZ T f q=some x)/\
  (∀l q,40*mu T q+17<=f->∃x,oR T f l q=some x)
 |0=>by refine⟨λq h=>?_,λq h=>?_,λl q h=>?_⟩<;>omega|f+1=>by
  obtain⟨hS,hB,hL⟩:=D9 T f;obtain⟨gS,gB,gL⟩:=rG T f;refine⟨λq h=>?_,λq h=>?_,λl q h=>?_⟩;have one:∀s,iD T q s=true->mu T (cg q)<=mu T q-1/\0<mu T q:=λs c=>⟨nX (cD (bR c).1 (bR c).2) (mw (bR c).2),rF (bR c).1⟩;unfold uW;split;exact⟨_,rfl⟩;split;rename_i c;have m0:=one _ c;have m1:=lU (T:=T) (q:=cg q) (jh.trans (bM (s:=[61])));exact bind_some (oT (by omega)) λx _=>⟨_,rfl⟩;split;rename_i c;have m0:=one _ c;refine bind_some (oT (by omega)) λ⟨x1,x2⟩ h1=>?_;try dsimp only
  have m1:=lU (iX h1);refine bind_some (hB _ (by omega)) λ⟨y1,y2⟩ h2=>?_;try dsimp only
  have m2:=lU (gB _ _ _ h2).1;split;rename_i d;have m3:=lU (cD (bR d).1 (bR d).2);exact bind_some (hB _ (by omega)) λx _=>⟨_,rfl⟩;exact⟨_,rfl⟩;split;rename_i c;have m0:=one _ c;refine bind_some (oT (by omega)) λ⟨x1,x2⟩ h1=>?_;try dsimp only
  have m1:=lU (iX h1);exact bind_some (hB _ (by omega)) λx _=>⟨_,rfl⟩;split;rename_i c;have m0:=one _ c;split;exact⟨_,rfl⟩;exact bind_some (oT (by omega)) λx _=>⟨_,rfl⟩;split;rename_i c;have m0:=one _ c;exact bind_some (oT (by omega)) λx _=>⟨_,rfl⟩;exact Lq (by omega);unfold jZ;have m1:=nX (T:=T) (q:=q) (fM (s:=[123])) kE;exact hL _ _ (by omega);unfold oR;split;rename_i c;refine bind_some (hS _ (by omega)) λ⟨x1,x2⟩ h1=>?_;try dsimp only
  have m1:=D8 c.1 (gS _ _ _ h1).2;exact hL _ _ (by omega);exact⟨_,rfl⟩
theorem uI{T:List Tk}{f:Nat}{q r:RQ}{s:List Sm}(h:jZ T f q=some (s,r)):fU T q r/\uG T q r:=(rG T f).2.1 _ _ _ h
theorem Ea{T:List Tk}{f:Nat}{q:RQ}(h:40*mu T q+18<=f):∃x,jZ T f q=some x:=(D9 T f).2.1 _ (by omega)
theorem BS(T:List Tk):∀(f:Nat)(l:List PD)(q:RQ)(s:List PD)(r:RQ),mo T f l q=some (s,r)->fU T q r
 |0,_,_,_,_,h=>by simp[mo]at h|f+1,l,q,s,r,h=>by
  unfold mo at h;split at h;split at h;cases h;exact jw;exact(jh.trans bM).trans (BS T f _ _ _ _ h);cases h;exact fU.refl _ _
theorem BU(T:List Tk):∀(f:Nat)(l:List PD)(q:RQ),mu T q<f->∃x,mo T f l q=some x
 |0,_,_,h=>absurd h (by omega)|f+1,l,q,h=>by
  unfold mo;split;rename_i c;split;exact⟨_,rfl⟩;have:=D8 c.1 ((uH (T:=T) (q:=q)).trans (bM (s:=[59])));exact BU T f _ _ (by omega);exact⟨_,rfl⟩
theorem BW{T:List Tk}{f:Nat}{q r:RQ}{s:Rc}(h:qA T f q=some (s,r)):fU T q r/\uG T q r:=by
 unfold qA at h;obtain⟨⟨x1,x2⟩,h1,h2⟩:=Option.bind_eq_some_iff.1 h;cases h2;have g:=(bM (T:=T) (s:=[123])).trans (BS T f _ _ _ _ h1);exact⟨(iG.trans g).trans bM,((oS.trans g)).trans bM⟩
theorem JF{T:List Tk}{f:Nat}{q:RQ}(h:mu T q<f):∃x,qA T f q=some x:=by
 unfold qA;have m:=lU (T:=T) (q:=q) (iG.trans (bM (s:=[123])));exact bind_some (BU T f _ _ (by omega)) λx _=>⟨_,rfl⟩
theorem rH{T:List Tk}{q:RQ}:fU T q (D5 T q):=by
 unfold D5;split;exact fU.refl _ _;split;exact bM.trans jw;exact bM
theorem wz(T:List Tk):∀(f:Nat)(l:List PD)(q:RQ)(s:List PD)(r:RQ),mq T f l q=some (s,r)->fU T q r
 |0,_,_,_,_,h=>by simp[mq]at h|f+1,l,q,s,r,h=>by
  unfold mq at h;split at h;split at h;cases h;exact jw;exact(jh.trans rH).trans (wz T f _ _ _ _ h);cases h;exact fU.refl _ _
theorem BX(T:List Tk):∀(f:Nat)(l:List PD)(q:RQ),mu T q<f->∃x,mq T f l q=some x
 |0,_,_,h=>absurd h (by omega)|f+1,l,q,h=>by
  unfold mq;split;rename_i c;split;exact⟨_,rfl⟩;have:=D8 c.1 ((uH (T:=T) (q:=q)).trans rH);exact BX T f _ _ (by omega);exact⟨_,rfl⟩
theorem Gj{T:List Tk}{f:Nat}{q r:RQ}{s:Fc}(h:wu T f q=some (s,r)):fU T q r/\uG T q r:=by
 unfold wu at h;obtain⟨⟨x1,x2⟩,h1,h2⟩:=Option.bind_eq_some_iff.1 h;have g:=((bM (T:=T) (s:=[40])).trans (wz T f _ _ _ _ h1)).trans (bM (s:=[41]));have gg:=iG.trans g;dsimp only at h2;split at h2;rename_i d;obtain⟨⟨y1,y2⟩,h3,h4⟩:=Option.bind_eq_some_iff.1 h2;cases h4;have g2:=((cD (bR d).1 (bR d).2).trans nW).trans (uI h3).1;exact⟨gg.trans g2,(oS.trans g).trans g2⟩;obtain⟨⟨y1,y2⟩,h3,h4⟩:=Option.bind_eq_some_iff.1 h2;cases h4;have g2:=(uI h3).1;exact⟨gg.trans g2,(oS.trans g).trans g2⟩
theorem OF{T:List Tk}{f:Nat}{q:RQ}(h:40*mu T q+18<=f):∃x,wu T f q=some x:=by
 unfold wu;have m:=lU (T:=T) (q:=q) (iG.trans (bM (s:=[40])));refine bind_some (BX T f _ _ (by omega)) λ⟨x1,x2⟩ h1=>?_;try dsimp only
 have m1:=lU ((wz T f _ _ _ _ h1).trans (bM (s:=[41])));split;rename_i d;have m2:=lU ((cD (bR d).1 (bR d).2).trans nW);exact bind_some (Ea (by omega)) λx _=>⟨_,rfl⟩;exact bind_some (Ea (by omega)) λx _=>⟨_,rfl⟩
theorem qO(T:List Tk):∀(f:Nat)(p:Pg)(q:RQ),40*mu T q+19<=f->∃x,pO T f p q=some x
 |0,_,_,h=>absurd h (by omega)|f+1,p,q,h=>by
  unfold pO;split;rename_i c;have m0:=rF (T:=T) c.1;have w1:=D8 c.1 (T:=T) (r:=jr T q 4) (.inl (kQ (by decide)));have w2:=D8 c.1 (T:=T) (r:=jr T q 2) (.inl (kQ (by decide)));have m1:=D8 c.1 (mw (uF c.2));split;exact qO T f _ _ (by omega);split;refine bind_some (JF (by omega)) λ⟨x1,x2⟩ h1=>?_;try dsimp only
  have:=lU (BW h1).1;exact qO T f _ _ (by omega);split;have:=lU (T:=T) (q:=cg q) (jh.trans (bM (s:=[59])));exact qO T f _ _ (by omega);split;refine bind_some (OF (by omega)) λ⟨x1,x2⟩ h1=>?_;try dsimp only
  have:=lU (Gj h1).1;exact qO T f _ _ (by omega);exact qO T f _ _ (by omega);exact⟨_,rfl⟩
theorem wA(T:List Tk):∃x,uE T (40*T.length+100)=some x:=by
 unfold uE;exact bind_some (qO T _ _ _ (by simp[mu];omega)) λx _=>⟨_,rfl⟩
end jG
namespace jG
open Ax Go V7
def XJ(T:List Tk)(N:Int):Prop:=0<=N/\∀x∈T,0<=x.a/\x.a<=N
theorem HL{T:List Tk}{N:Int}(h:XJ T N)(q:RQ):0<=(fP T q).a/\(fP T q).a<=N:=by
 by_cases hl:q.at_<T.length;have:fP T q=T[q.at_]:=by simp[fP,hl]
 rw[this];exact h.2 _ (List.getElem_mem hl);have hc:fP T q=Tk0:=by simp[fP,List.getD,List.getElem?_eq_none (Nat.le_of_not_lt hl)]
 rw[hc];exact⟨Int.le_refl _,h.1⟩
def HM(N:Int)(p:PD):Prop:=0<=p.od/\p.od<=3/\0<=p.at_/\p.at_<=N
theorem Eb{T:List Tk}{N:Int}(h:XJ T N)(q:RQ):HM N (eA T q).1:=⟨Ln.1,Ln.2,(HL h q).1,(HL h q).2⟩
structure Rc.In (N:Int)(r:Rc):Prop where
 a:0<=r.a/\r.a<=N
 len:r.cP.length<=9
 f:∀p∈r.cP,HM N p
structure Fc.In (N:Int)(r:Fc):Prop where
 a:0<=r.a/\r.a<=N
 len:r.params.length<=7
 f:∀p∈r.params,HM N p
 od:0<=r.od/\r.od<=3
structure Pg.In (N:Int)(p:Pg):Prop where
 r:p.aR.length<=12/\∀x∈p.aR,Rc.In N x
 g:p.globals.length<=8/\∀x∈p.globals,HM N x
 f:p.funcs.length<=16/\∀x∈p.funcs,Fc.In N x
theorem rI{α:Type}{P:α->Prop}{l:List α}{a:α}(h:∀x∈l,P x)(ha:P a):∀x∈l++[a],P x:=by
 intro x hx;rcases List.mem_append.1 hx with h1|h1;exact h x h1;rw[List.mem_singleton.1 h1];exact ha
theorem JG{T:List Tk}{q:RQ}(h:(fP T q).k≠1):(eu T q).2.fe≠0:=by
 unfold eu;rw[if_neg (λe=>h e.2)];exact kQ (by decide)
theorem xA{T:List Tk}{q:RQ}(h:(fP T q).k≠1):(eA T q).2.fe≠0:=by
 have g:fU T (eu T q).2 (eA T q).2:=bM.trans nW;rw[(g.vu (JG h)).1];exact JG h
theorem Gk{T:List Tk}{N:Int}(hN:XJ T N):∀(f:Nat)(l:List PD)(q:RQ)(s:List PD)(r:RQ),mo T f l q=some (s,r)->(∀p∈l,HM N p)->(l.length<=8\/q.fe≠0/\l.length<=9)->
  (∀p∈s,HM N p)/\(s.length<=8\/r.fe≠0/\s.length<=9)
 |0,_,_,_,_,h,_,_=>by simp[mo]at h|f+1,l,q,s,r,h,hl,hn=>by
  unfold mo at h;split at h;rename_i c;have h8:l.length<=8:=by
   rcases hn with hn|hn;exact hn;exact absurd c.1 hn.1
  split at h;rename_i c2;cases h;exact⟨hl,.inl h8⟩;rename_i c2;refine Gk hN f _ _ _ _ h (rI hl (Eb hN q)) ?_;by_cases hk:(fP T q).k=1;exact .inl (by
   have:l.length≠8:=λe=>c2 ⟨hk,e⟩;simp;omega)
  refine .inr ⟨?_,by simp;omega⟩;have g:=bM (T:=T) (q:=(eA T q).2) (s:=[59]);rw[(g.vu (xA hk)).1];exact xA hk;cases h;exact⟨hl,hn⟩
theorem Gl{T:List Tk}{N:Int}(hN:XJ T N):∀(f:Nat)(l:List PD)(q:RQ)(s:List PD)(r:RQ),mq T f l q=some (s,r)->(∀p∈l,HM N p)->(l.length<=6\/q.fe≠0/\l.length<=7)->
  (∀p∈s,HM N p)/\(s.length<=6\/r.fe≠0/\s.length<=7)
 |0,_,_,_,_,h,_,_=>by simp[mq]at h|f+1,l,q,s,r,h,hl,hn=>by
  unfold mq at h;split at h;rename_i c;have h8:l.length<=6:=by
   rcases hn with hn|hn;exact hn;exact absurd c.1 hn.1
  split at h;rename_i c2;cases h;exact⟨hl,.inl h8⟩;rename_i c2;refine Gl hN f _ _ _ _ h (rI hl (Eb hN q)) ?_;by_cases hk:(fP T q).k=1;exact .inl (by
   have:l.length≠6:=λe=>c2 ⟨hk,e⟩;simp;omega)
  refine .inr ⟨?_,by simp;omega⟩;have g:=rH (T:=T) (q:=(eA T q).2);rw[(g.vu (xA hk)).1];exact xA hk;cases h;exact⟨hl,hn⟩
theorem OH{T:List Tk}{N:Int}(hN:XJ T N){f:Nat}{q r:RQ}{s:Rc}(h:qA T f q=some (s,r)):Rc.In N s/\(r.fe=0->s.cP.length<=8):=by
 unfold qA at h;obtain⟨⟨x1,x2⟩,h1,h2⟩:=Option.bind_eq_some_iff.1 h;cases h2;obtain⟨a,b⟩:=Gk hN _ _ _ _ _ h1 (by simp) (by simp);refine⟨⟨HL hN q,by rcases b with b|b<;>simp only<;>omega,a⟩,λe=>?_⟩;rcases b with b|b;exact b;exact absurd (bM.BR e) b.1
theorem VI{T:List Tk}{N:Int}(hN:XJ T N){f:Nat}{q r:RQ}{s:Fc}(h:wu T f q=some (s,r)):Fc.In N s/\(r.fe=0->s.params.length<=6):=by
 unfold wu at h;obtain⟨⟨x1,x2⟩,h1,h2⟩:=Option.bind_eq_some_iff.1 h;obtain⟨a,b⟩:=Gl hN _ _ _ _ _ h1 (by simp) (by simp);have hc:=HL hN q;have lG:∀r:RQ,fU T x2 r->r.fe=0->x1.length<=6:=λr g e=>by
  rcases b with b|b;exact b;exact absurd (g.BR e) b.1
 have b7:x1.length<=7:=by rcases b with b|b<;>omega
 dsimp only at h2;split at h2;rename_i d;obtain⟨⟨y1,y2⟩,h3,h4⟩:=Option.bind_eq_some_iff.1 h2;cases h4;exact⟨⟨hc,b7,a,Ln⟩,lG _ (((bM.trans (cD (bR d).1 (bR d).2)).trans nW).trans (uI h3).1)⟩;obtain⟨⟨y1,y2⟩,h3,h4⟩:=Option.bind_eq_some_iff.1 h2;cases h4;exact⟨⟨hc,b7,a,Int.le_refl _,by show (0:Int)<=3;decide⟩,lG _ (bM.trans (uI h3).1)⟩
def Pg.few(p:Pg):Prop:=(∀x∈p.aR,x.cP.length<=8)/\∀x∈p.funcs,x.params.length<=6
theorem xB{T:List Tk}{N:Int}(hN:XJ T N):∀(f:Nat)(p:Pg)(q:RQ)(s:Pg)(r:RQ),pO T f p q=some (s,r)->Pg.In N p->(q.fe=0->p.few)->Pg.In N s/\(r.fe=0->s.few)
 |0,_,_,_,_,h,_,_=>by simp[pO]at h|f+1,p,q,s,r,h,hp,hf=>by
  unfold pO at h;split at h;rename_i c;split at h;exact xB hN f _ _ _ _ h hp λe=>absurd e (kQ (by decide));rename_i af;split at h;rename_i d;obtain⟨⟨x1,x2⟩,h1,h2⟩:=Option.bind_eq_some_iff.1 h;obtain⟨i1,i2⟩:=OH hN h1;have:p.aR.length≠12:=λe=>af (.inl ⟨d,e⟩);have:=hp.r.1;exact xB hN f _ _ _ _ h2 ⟨⟨by simp;omega,rI hp.r.2 i1⟩,hp.g,hp.f⟩ λe=>⟨rI (hf c.1).1 (i2 e),(hf c.1).2⟩;split at h;rename_i d;have:p.globals.length≠8:=λe=>af (.inr (.inl ⟨d,e⟩));have:=hp.g.1;exact xB hN f _ _ _ _ h ⟨hp.r,⟨by simp;omega,rI hp.g.2 (Eb hN _)⟩,hp.f⟩ λe=>hf c.1;split at h;rename_i d;obtain⟨⟨x1,x2⟩,h1,h2⟩:=Option.bind_eq_some_iff.1 h;obtain⟨i1,i2⟩:=VI hN h1;have:p.funcs.length≠16:=λe=>af (.inr (.inr ⟨d,e⟩));have:=hp.f.1;exact xB hN f _ _ _ _ h2 ⟨hp.r,hp.g,⟨by simp;omega,rI hp.f.2 i1⟩⟩ λe=>⟨(hf c.1).1,rI (hf c.1).2 (i2 e)⟩;exact xB hN f _ _ _ _ h hp λe=>absurd e (kQ (by decide));cases h;exact⟨hp,hf⟩
theorem HN{N:Int}:Pg.In N CJ:=⟨⟨by simp[CJ],by simp[CJ]⟩,⟨by simp[CJ],by simp[CJ]⟩,⟨by simp[CJ],by simp[CJ]⟩⟩
theorem CL:CJ.few:=⟨by simp[CJ],by simp[CJ]⟩
theorem OI{T:List Tk}{N:Int}(hN:XJ T N){f:Nat}{x:Pg×Int×Int}(h:uE T f=some x):Pg.In N x.1/\x.1.few:=by
 unfold uE at h;obtain⟨⟨x1,x2⟩,h1,h2⟩:=Option.bind_eq_some_iff.1 h;obtain⟨a,b⟩:=xB hN _ _ _ _ _ h1 HN λ_=>CL;simp only[Option.some.injEq]at h2;subst h2;split;rename_i e;exact⟨a,b e⟩;exact⟨HN,CL⟩
end jG
namespace j9
open Ax Go V7 jG
abbrev tI:T3:=⟨1,0,0⟩
abbrev tB:T3:=⟨2,0,0⟩
structure Vd where
 nm:List UInt8
 ty:T3
 deriving DecidableEq
structure Sg where
 nm:List UInt8
 ps:List Vd
 bO:Bool
 bz:T3
structure Hd where
 rs:List (List UInt8)
 bK:List (List UInt8×List Vd)
 globals:List Vd
 sigs:List Sg
def kR(rs:List (List UInt8))(l:List PD):List Vd:=l.map λq=>⟨q.name,(bZ rs q.on q.od).1⟩
def cw(p:Pg):List (List UInt8):=p.aR.map (·.name)
def wB(rs:List (List UInt8))(f:Fc):Sg:=⟨f.name,kR rs f.params,f.bO,if f.bO then (bZ rs f.on f.od).1 else T0⟩
def aG(p:Pg):Hd:=⟨cw p,p.aR.map λr=>(r.name,kR (cw p) r.cP),kR (cw p) p.globals,p.funcs.map (wB (cw p))⟩
def eH(s:List UInt8):Nat->List Vd->Option (Nat×T3)
 |_,[]=>none|i,f::l=>if f.nm=s then some (i,f.ty) else eH s (i+1) l
def rX(H:Hd)(V:List Vd)(s:List UInt8):Option (T3×Int):=match eH s 0 V with
 |some (k,t)=>some (t,(k:Int))|none=>match eH s 0 H.globals with
  |some (k,t)=>some (t,-1-(k:Int))|none=>none
def mH(s:List UInt8):Nat->List Sg->Option (Nat×Sg)
 |_,[]=>none|i,g::l=>if g.nm=s then some (i,g) else mH s (i+1) l
def ji:List Vd->List E->Bool
 |[],[]=>true|f::l,e::r=>decide (e.ty=f.ty)&&ji l r|_,_=>false
def gq(k n:Int)(m:Nat):Bool:=
 if k=1\/k=3\/k=4\/k=8\/k=11 then decide (m=0)
 else if k=2 then decide (m=0)&&(decide (n=0)||decide (n=1))
 else if k=7 then true
 else if k=5\/k=9\/k=10\/k=12\/k=13 then decide (m=1)
 else (decide (k=6)||decide (14<=k)&&decide (k<=24))&&decide (m=2)
def qP(ks:List E):T3:=match ks with|e::_=>e.ty | []=>T0
def BY(ks:List E):T3:=match ks with|_::e::_=>e.ty|_=>T0
def pP(k n:Int):Int:=if k=1\/k=2 then n else 0
def kF(k:Int)(nm:List UInt8):List UInt8:=if k=4\/k=5\/k=7 then nm else []
def kG(k:Int)(on:List UInt8):List UInt8:=if k=3\/k=8\/k=9 then on else []
def kH(k:Int)(od:Int):Int:=if k=3\/k=8\/k=9 then od else 0
def Cm(b:Bool)(t:T3):Option (T3×Int):=if b then some (t,0) else none
def wC(H:Hd)(t:T3)(nm:List UInt8):Option (T3×Int):=if t.b=3/\t.d=0 then match H.bK[t.r.toNat]? with
  |some s=>match eH nm 0 s.2 with
   |some (i,u)=>some (u,(i:Int))|none=>none
  |none=>none
 else none
def oC(H:Hd)(nm:List UInt8)(ks:List E):Option (T3×Int):=match mH nm 0 H.sigs with
 |some (i,s)=>if ji s.ps ks then some (s.bz,(i:Int)) else none
 |none=>none
def Fp(k:Int)(a b:T3):Option (T3×Int):=
 if k=14\/k=15\/k=16\/k=17\/k=18 then Cm (decide (a=tI)&&decide (b=tI)) tI
 else if k=19\/k=20 then Cm (decide (a=tI)&&decide (b=tI)) tB
 else if k=21\/k=22 then Cm (decide (a=b)) tB
 else Cm (decide (a=tB)&&decide (b=tB)) tB
def lV(H:Hd)(V:List Vd)(k:Int)(nm on:List UInt8)(od:Int)(ks:List E):Option (T3×Int):=
 if k=1\/k=11 then some (tI,0)
 else if k=2 then some (tB,0)
 else if k=3 then Cm ((bZ H.rs on od).2&&nJ (bZ H.rs on od).1) (bZ H.rs on od).1
 else if k=4 then rX H V nm
 else if k=5 then wC H (qP ks) nm
 else if k=6 then Cm (decide (0<(qP ks).d)&&decide (BY ks=tI)) ⟨(qP ks).b,(qP ks).r,(qP ks).d-1⟩
 else if k=7 then oC H nm ks
 else if k=8 then Cm ((bZ H.rs on od).2&&decide ((bZ H.rs on od).1.b=3)&&decide ((bZ H.rs on od).1.d=0)) (bZ H.rs on od).1
 else if k=9 then Cm ((bZ H.rs on od).2&&decide ((bZ H.rs on od).1.d<3)&&decide (qP ks=tI)) ⟨(bZ H.rs on od).1.b,(bZ H.rs on od).1.r,(bZ H.rs on od).1.d+1⟩
 else if k=10 then Cm (decide (0<(qP ks).d)) tI
 else if k=12 then Cm (decide (qP ks=tI)) tI
 else if k=13 then Cm (decide (qP ks=tB)) tB
 else Fp k (qP ks) (BY ks)
mutual
def xC(H:Hd)(V:List Vd):E->Except Int E
 |.mk k n nm on od aC a _ _=>if gq k n aC.length then
   match kM H V aC with
   |.error x=>.error x|.ok ks=>match lV H V k nm on od ks with
    |none=>.error a|some (t,r)=>.ok (.mk k (pP k n) (kF k nm) (kG k on) (kH k od) ks a t r)
  else .error a
def kM(H:Hd)(V:List Vd):List E->Except Int (List E)
 |[]=>.ok []|e::l=>match xC H V e with
  |.error x=>.error x|.ok y=>if y.ty=T0 then .error y.a else match kM H V l with
   |.error x=>.error x|.ok ys=>.ok (y::ys)
end
def cI(bO:Bool)(k:Int)(es:List E):Bool:=
 if k=1 then decide (es.length=0)
 else if k=4 then match es with | [e,_]=>decide (e.k=5)||decide (e.k=6)|_=>false
 else if k=7 then decide (es.length=1)&&bO||decide (es.length=0) && !bO
 else if k=9 then match es with | [e]=>decide (e.k=7)|_=>false
 else if k=2\/k=3\/k=5\/k=6\/k=8 then decide (es.length=1)
 else false
def j6(H:Hd)(bz:T3)(V:List Vd)(k:Int)(nm:List UInt8)(es:List E)(t:T3):Option (Int×List Vd):=
 if k=1 then (match eH nm 0 V with|some _=>none|none=>some ((V.length:Int),V++[⟨nm,t⟩]))
 else if k=2 then (if qP es=t then match eH nm 0 V with|some _=>none|none=>some ((V.length:Int),V++[⟨nm,t⟩]) else none)
 else if k=3 then (match rX H V nm with|some (u,r)=>if u=qP es then some (r,V) else none|none=>none)
 else if k=4 then (if qP es=BY es then some (0,V) else none)
 else if k=5\/k=6 then (if qP es=tB then some (0,V) else none)
 else if k=7 then (if es.length=0\/qP es=bz then some (0,V) else none)
 else if k=8 then (if qP es=tI then some (0,V) else none)
 else some (0,V)
def kS(H:Hd)(k:Int)(on:List UInt8)(od:Int):Option T3:=if k=1\/k=2 then (if (bZ H.rs on od).2 then some (bZ H.rs on od).1 else none) else some T0
def td(H:Hd)(V:List Vd)(k:Int)(es:List E):Except Int (List E):=if k=9 then match es with
  |e::_=>match xC H V e with
   |.error x=>.error x|.ok y=>.ok [y]
  |[]=>.ok []
 else kM H V es
def cv(k:Int)(nm:List UInt8):List UInt8:=if k=1\/k=2\/k=3 then nm else []
def bH(k:Int)(on:List UInt8):List UInt8:=if k=1\/k=2 then on else []
def bJ(k:Int)(od:Int):Int:=if k=1\/k=2 then od else 0
mutual
def xU(H:Hd)(bO:Bool)(bz:T3):List Vd->Sm->Except Int (Sm×List Vd)
 |V,.mk k nm on od es bd el a _=>if cI bO k es then
   match kS H k on od with
   |none=>.error a|some t=>match td H V k es with
    |.error x=>.error x|.ok ys=>match j6 H bz V k nm ys t with
     |none=>.error a|some (r,W)=>if k=5 then
       match ki H bO bz W bd with
       |.error x=>.error x|.ok (b,W1)=>match ki H bO bz W1 el with
        |.error x=>.error x|.ok (c,W2)=>.ok (.mk k (cv k nm) (bH k on) (bJ k od) ys b c a r,W2)
      else if k=6 then
       match ki H bO bz W bd with
       |.error x=>.error x|.ok (b,W1)=>.ok (.mk k (cv k nm) (bH k on) (bJ k od) ys b [] a r,W1)
      else .ok (.mk k (cv k nm) (bH k on) (bJ k od) ys [] [] a r,W)
  else .error a
def ki(H:Hd)(bO:Bool)(bz:T3):List Vd->List Sm->Except Int (List Sm×List Vd)
 |V,[]=>.ok ([],V)|V,s::l=>match xU H bO bz V s with
  |.error x=>.error x|.ok (y,W)=>match ki H bO bz W l with
   |.error x=>.error x|.ok (ys,X)=>.ok (y::ys,X)
end
structure Bd where
 vars:List Vd
 code:List Sm
 a:Int
def qh(H:Hd):List Sg->List Fc->Except Int (List Bd)
 |s::ss,f::fs=>match ki H s.bO s.bz s.ps f.body with
  |.error x=>.error x|.ok (c,W)=>match qh H ss fs with
   |.error x=>.error x|.ok l=>.ok (⟨W,c,f.a⟩::l)
 |_,_=>.ok []
def Vd.row(f:Vd):List AV:=.str f.nm::f.ty.cells
def br(l:List Vd):AV:=aA 4 (l.map Vd.row)
def Sg.row(s:Sg):List AV:=[.str s.nm,br s.ps,.bool s.bO,.int .i64 s.bz.b,.int .i64 s.bz.r,.int .i64 s.bz.d]
def dw(s:List UInt8×List Vd):List AV:=[.str s.1,br s.2]
def Bd.row(b:Bd):List AV:=[br b.vars,aS b.code,.int .i64 b.a]
end j9
namespace j9
open Ax Go V7 jG
theorem E.yu{P:E->Prop}(h:∀e,(∀x∈e.aC,P x)->P e)(e:E):P e:=h e λx _=>E.yu h x
termination_by sizeOf e
decreasing_by
 have hx:x∈e.aC:=by assumption
 cases e;simp only[E.aC]at hx;have:=List.sizeOf_lt_of_mem hx;simp only[E.mk.sizeOf_spec];omega
theorem Sm.yu{P:Sm->Prop}(h:∀s,(∀x∈s.bd,P x)->(∀x∈s.el,P x)->P s)(s:Sm):P s:=h s (λx _=>Sm.yu h x) λx _=>Sm.yu h x
termination_by sizeOf s
decreasing_by
 all_goals
  rename_i hx;cases s;simp only[Sm.bd,Sm.el]at hx;have:=List.sizeOf_lt_of_mem hx;simp only[Sm.mk.sizeOf_spec];omega
mutual
def E.sz:E->Nat
 |.mk _ _ _ _ _ aC _ _ _=>1+E.cQ aC
def E.cQ:List E->Nat
 |[]=>0|e::l=>E.sz e+E.cQ l
end
theorem E.Lr(e:E):0<E.sz e:=by cases e;simp only[E.sz];omega
theorem E.dD:∀l:List E,l.length<=E.cQ l
 |[]=>Nat.le_refl _|e::l=>by
  have:=E.dD l;have:=E.Lr e;simp only[E.cQ,List.length_cons];omega
theorem E.iA:∀{l:List E}{e:E},e∈l->E.sz e<=E.cQ l
 |[],_,h=>by cases h|x::l,e,h=>by
  rcases List.mem_cons.1 h with h|h;subst h;simp only[E.cQ];omega;have:=E.iA h;simp only[E.cQ];omega
theorem E.mz(e:E):E.sz e=1+E.cQ e.aC:=by cases e;rfl
def WT(n:Nat)(t:T3):Prop:=0<=t.d/\t.d<=3/\(t.b=3->0<=t.r/\t.r<n)
structure Hd.ok (H:Hd):Prop where
 rs:H.rs.length=H.bK.length
 bK:∀s∈H.bK,∀f∈s.2,WT H.rs.length f.ty
 globals:∀f∈H.globals,WT H.rs.length f.ty
 sigs:∀s∈H.sigs,WT H.rs.length s.bz/\∀f∈s.ps,WT H.rs.length f.ty
theorem Sv{n:Nat}:WT n T0:=⟨Int.le_refl _,by decide,λh=>by cases h⟩
theorem VJ{n:Nat}:WT n tI:=⟨Int.le_refl _,by decide,λh=>by cases h⟩
theorem Sw{n:Nat}:WT n tB:=⟨Int.le_refl _,by decide,λh=>by cases h⟩
theorem mX(l:List (List UInt8))(s:List UInt8)(d:Int):WT l.length (bZ l s d).1:=by
 unfold bZ;split;exact Sv;rename_i h;have hd:0<=d/\d<=3:=by omega
 split;exact⟨hd.1,hd.2,λh=>by cases h⟩;split;exact⟨hd.1,hd.2,λh=>by cases h⟩;split;exact Sv;rename_i h;refine⟨hd.1,hd.2,λ_=>?_⟩;rcases VE l s with e|⟨k,e,hk⟩;rw[e]at h;exact absurd (by decide) h;simp only;rw[e];omega
theorem zV{s:List UInt8}:∀{l:List Vd}{i k:Nat}{t:T3},eH s i l=some (k,t)->∃f∈l,f.ty=t
 |[],_,_,_,h=>by cases h|f::l,i,k,t,h=>by
  unfold eH at h;split at h;cases h;exact⟨f,List.mem_cons_self,rfl⟩;obtain⟨g,h1,h2⟩:=zV h;exact⟨g,List.mem_cons_of_mem _ h1,h2⟩
theorem Gm{s:List UInt8}:∀{l:List Sg}{i k:Nat}{t:Sg},mH s i l=some (k,t)->t∈l
 |[],_,_,_,h=>by cases h|f::l,i,k,t,h=>by
  unfold mH at h;split at h;cases h;exact List.mem_cons_self;exact List.mem_cons_of_mem _ (Gm h)
theorem rJ{n:Nat}{b:Bool}{t u:T3}{r:Int}(h:Cm b t=some (u,r))(ht:b=true->WT n t):WT n u:=by
 cases b with
 |false=>cases h|true=>cases h;exact ht rfl
theorem ZR{H:Hd}{V:List Vd}{s:List UInt8}{t:T3}{r:Int}(hH:H.ok)(hV:∀f∈V,WT H.rs.length f.ty)(h:rX H V s=some (t,r)):WT H.rs.length t:=by
 unfold rX at h;split at h;rename_i k u e;cases h;obtain⟨f,h1,h2⟩:=zV e;rw[<-h2];exact hV f h1;split at h;rename_i k u e;cases h;obtain⟨f,h1,h2⟩:=zV e;rw[<-h2];exact hH.globals f h1;cases h
theorem ZS{H:Hd}{V:List Vd}{k:Int}{nm on:List UInt8}{od:Int}{ks:List E}{t:T3}{r:Int}(hH:H.ok)(hV:∀f∈V,WT H.rs.length f.ty)(hk:∀e∈ks,WT H.rs.length e.ty)(h:lV H V k nm on od ks=some (t,r)):WT H.rs.length t:=by
 have h1:WT H.rs.length (qP ks):=by
  unfold qP;split;exact hk _ List.mem_cons_self;exact Sv
 have hty:=mX H.rs on od;unfold lV at h;by_cases c1:k=1\/k=11;rw[if_pos c1]at h;cases h;exact VJ;rw[if_neg c1]at h;by_cases c2:k=2;rw[if_pos c2]at h;cases h;exact Sw;rw[if_neg c2]at h;by_cases c3:k=3;rw[if_pos c3]at h;exact rJ h λ_=>hty;rw[if_neg c3]at h;by_cases c4:k=4;rw[if_pos c4]at h;exact ZR hH hV h;rw[if_neg c4]at h;by_cases c5:k=5;rw[if_pos c5]at h;unfold wC at h;split at h;split at h;rename_i s hs;split at h;rename_i i u e;cases h;obtain⟨f,h2,h3⟩:=zV e;rw[<-h3];exact hH.bK _ (List.mem_of_getElem? hs) f h2;cases h;cases h;cases h;rw[if_neg c5]at h;by_cases c6:k=6;rw[if_pos c6]at h;refine rJ h λhb=>?_;simp only[Bool.and_eq_true,decide_eq_true_eq]at hb;exact⟨by simp only;omega,by have:=h1.2.1;simp only;omega,h1.2.2⟩;rw[if_neg c6]at h;by_cases c7:k=7;rw[if_pos c7]at h;unfold oC at h;split at h;rename_i i s e;split at h;cases h;exact(hH.sigs s (Gm e)).1;cases h;cases h;rw[if_neg c7]at h;by_cases c8:k=8;rw[if_pos c8]at h;exact rJ h λ_=>hty;rw[if_neg c8]at h;by_cases c9:k=9;rw[if_pos c9]at h;refine rJ h λhb=>?_;simp only[Bool.and_eq_true,decide_eq_true_eq]at hb;exact⟨by have:=hty.1;simp only;omega,by simp only;omega,hty.2.2⟩;rw[if_neg c9]at h;by_cases HO:k=10;rw[if_pos HO]at h;exact rJ h λ_=>VJ;rw[if_neg HO]at h;by_cases HP:k=12;rw[if_pos HP]at h;exact rJ h λ_=>VJ;rw[if_neg HP]at h;by_cases Kr:k=13;rw[if_pos Kr]at h;exact rJ h λ_=>Sw;rw[if_neg Kr]at h;unfold Fp at h;split at h;exact rJ h λ_=>VJ;split at h;exact rJ h λ_=>Sw;split at h;exact rJ h λ_=>Sw;exact rJ h λ_=>Sw
theorem mO{H:Hd}{V:List Vd}{e:E}{l:List E}{ys:List E}(h:kM H V (e::l)=.ok ys):∃y zs,xC H V e=.ok y/\y.ty≠T0/\kM H V l=.ok zs/\ys=y::zs:=by
 unfold kM at h;split at h;cases h;rename_i y hy;split at h;cases h;rename_i ht;split at h;cases h;rename_i zs hz;cases h;exact⟨y,zs,hy,ht,hz,rfl⟩
theorem qB{H:Hd}{V:List Vd}{P:E->Prop}:∀{l ys:List E},kM H V l=.ok ys->(∀e∈l,∀y,xC H V e=.ok y->P y)->∀y∈ys,P y
 |[],ys,h,_=>by
  unfold kM at h;cases h;simp
 |e::l,ys,h,hp=>by
  obtain⟨y,zs,h1,_,h2,rfl⟩:=mO h;intro z hz;rcases List.mem_cons.1 hz with e1|e1;subst e1;exact hp e List.mem_cons_self _ h1;exact qB h2 (λe he=>hp e (List.mem_cons_of_mem _ he)) z e1
theorem yS{H:Hd}{V:List Vd}{e y:E}(h:xC H V e=.ok y):∃ks t r,gq e.k e.n e.aC.length=true/\kM H V e.aC=.ok ks/\lV H V e.k e.nm e.on e.od ks=some (t,r)/\y=.mk e.k (pP e.k e.n) (kF e.k e.nm) (kG e.k e.on) (kH e.k e.od) ks e.a t r:=by
 obtain⟨k,n,nm,on,od,aC,a,ty,cG⟩:=e;unfold xC at h;split at h;rename_i hk;split at h;cases h;rename_i ks nj;split at h;cases h;rename_i t r ht;cases h;exact⟨ks,t,r,hk,nj,ht,rfl⟩;cases h
theorem Sx{H:Hd}{V:List Vd}(hH:H.ok)(hV:∀f∈V,WT H.rs.length f.ty)(e:E):∀y,xC H V e=.ok y->WT H.rs.length y.ty:=by
 induction e using E.yu with
 |_ e ih=>
  intro y h;obtain⟨ks,t,r,_,h2,h3,rfl⟩:=yS h;exact ZS hH hV (qB h2 ih) h3
theorem nY{H:Hd}{V:List Vd}:∀{l ys:List E},kM H V l=.ok ys->ys.length=l.length
 |[],ys,h=>by unfold kM at h;cases h;rfl|e::l,ys,h=>by
  obtain⟨y,zs,_,_,h2,rfl⟩:=mO h;simp[nY h2]
theorem Ls{k n:Int}{m:Nat}(h:gq k n m=true):gq k (pP k n) m=true:=by
 unfold gq pP at *;split;rename_i c;rw[if_pos c]at h;exact h;rename_i c;rw[if_neg c]at h;split;rename_i c2;rw[if_pos c2]at h;rw[if_pos (.inr c2)];exact h;rename_i c2;rw[if_neg c2]at h;exact h
theorem Sy{H:Hd}{V:List Vd}{k:Int}{nm on:List UInt8}{od:Int}{ks:List E}:lV H V k (kF k nm) (kG k on) (kH k od) ks=lV H V k nm on od ks:=by
 unfold lV;by_cases c3:k=3;simp[kG,kH,c3];by_cases c4:k=4;simp[kF,c4];by_cases c5:k=5;simp[kF,c5];by_cases c7:k=7;simp[kF,c7];by_cases c8:k=8;simp[kG,kH,c8];by_cases c9:k=9;simp[kG,kH,c9];simp only[if_neg c3,if_neg c4,if_neg c5,if_neg c7,if_neg c8,if_neg c9]
end j9
namespace j9
open Ax Go V7 jG
mutual
def Sm.sz:Sm->Nat
 |.mk _ _ _ _ es bd el _ _=>1+E.cQ es+Sm.cQ bd+Sm.cQ el
def Sm.cQ:List Sm->Nat
 |[]=>0|s::l=>Sm.sz s+Sm.cQ l
end
theorem Sm.Lr(s:Sm):0<Sm.sz s:=by cases s;simp only[Sm.sz];omega
theorem Sm.dD:∀l:List Sm,l.length<=Sm.cQ l
 |[]=>Nat.le_refl _|e::l=>by
  have:=Sm.dD l;have:=Sm.Lr e;simp only[Sm.cQ,List.length_cons];omega
theorem Sm.iA:∀{l:List Sm}{e:Sm},e∈l->Sm.sz e<=Sm.cQ l
 |[],_,h=>by cases h|x::l,e,h=>by
  rcases List.mem_cons.1 h with h|h;subst h;simp only[Sm.cQ];omega;have:=Sm.iA h;simp only[Sm.cQ];omega
theorem Sm.jM(s:Sm):Sm.sz s=1+E.cQ s.es+Sm.cQ s.bd+Sm.cQ s.el:=by cases s;rfl
theorem ZT(H:Hd)(bO:Bool)(bz:T3)(V:List Vd)(k:Int)(nm on:List UInt8)(od:Int)(es:List E)(bd el:List Sm)(a cG:Int):xU H bO bz V (.mk k nm on od es bd el a cG)=if cI bO k es then
   match kS H k on od with
   |none=>.error a|some t=>match td H V k es with
    |.error x=>.error x|.ok ys=>match j6 H bz V k nm ys t with
     |none=>.error a|some (r,W)=>if k=5 then
       match ki H bO bz W bd with
       |.error x=>.error x|.ok (b,W1)=>match ki H bO bz W1 el with
        |.error x=>.error x|.ok (c,W2)=>.ok (.mk k (cv k nm) (bH k on) (bJ k od) ys b c a r,W2)
      else if k=6 then
       match ki H bO bz W bd with
       |.error x=>.error x|.ok (b,W1)=>.ok (.mk k (cv k nm) (bH k on) (bJ k od) ys b [] a r,W1)
      else .ok (.mk k (cv k nm) (bH k on) (bJ k od) ys [] [] a r,W)
  else .error a:=by
 (conv=>lhs;unfold xU)<;>rfl
theorem nk(H:Hd)(bO:Bool)(bz:T3)(V:List Vd)(s:Sm):xU H bO bz V s=if cI bO s.k s.es then
   match kS H s.k s.on s.od with
   |none=>.error s.a|some t=>match td H V s.k s.es with
    |.error x=>.error x|.ok ys=>match j6 H bz V s.k s.nm ys t with
     |none=>.error s.a|some (r,W)=>if s.k=5 then
       match ki H bO bz W s.bd with
       |.error x=>.error x|.ok (b,W1)=>match ki H bO bz W1 s.el with
        |.error x=>.error x|.ok (c,W2)=>.ok (.mk s.k (cv s.k s.nm) (bH s.k s.on) (bJ s.k s.od) ys b c s.a r,W2)
      else if s.k=6 then
       match ki H bO bz W s.bd with
       |.error x=>.error x|.ok (b,W1)=>.ok (.mk s.k (cv s.k s.nm) (bH s.k s.on) (bJ s.k s.od) ys b [] s.a r,W1)
      else .ok (.mk s.k (cv s.k s.nm) (bH s.k s.on) (bJ s.k s.od) ys [] [] s.a r,W)
  else .error s.a:=by
 obtain⟨k,nm,on,od,es,bd,el,a,cG⟩:=s;exact ZT H bO bz V k nm on od es bd el a cG
theorem Ec{H:Hd}{bO:Bool}{bz:T3}{V X:List Vd}{s y:Sm}(h:xU H bO bz V s=.ok (y,X)):∃t ys r W,cI bO s.k s.es=true/\kS H s.k s.on s.od=some t/\td H V s.k s.es=.ok ys/\j6 H bz V s.k s.nm ys t=some (r,W)/\
  (s.k=5/\(∃b W1 c,ki H bO bz W s.bd=.ok (b,W1)/\ki H bO bz W1 s.el=.ok (c,X)/\y=.mk s.k (cv s.k s.nm) (bH s.k s.on) (bJ s.k s.od) ys b c s.a r)\/
   s.k=6/\(∃b,ki H bO bz W s.bd=.ok (b,X)/\y=.mk s.k (cv s.k s.nm) (bH s.k s.on) (bJ s.k s.od) ys b [] s.a r)\/
   s.k≠5/\s.k≠6/\X=W/\y=.mk s.k (cv s.k s.nm) (bH s.k s.on) (bJ s.k s.od) ys [] [] s.a r):=by
 rw[nk]at h;split at h;rename_i hf;split at h;cases h;rename_i t ht;split at h;cases h;rename_i ys rK;split at h;cases h;rename_i r W cJ;refine⟨t,ys,r,W,hf,ht,rK,cJ,?_⟩;split at h;rename_i h5;split at h;cases h;rename_i b W1 hb;split at h;cases h;rename_i c W2 hc;cases h;exact .inl ⟨h5,b,W1,c,hb,hc,rfl⟩;rename_i h5;split at h;rename_i h6;split at h;cases h;rename_i b W1 hb;cases h;exact .inr (.inl ⟨h6,b,hb,rfl⟩);rename_i h6;cases h;exact .inr (.inr ⟨h5,h6,rfl,rfl⟩);cases h
theorem wD{H:Hd}{bO:Bool}{bz:T3}{V X:List Vd}{s:Sm}{l:List Sm}{zs:List Sm}(h:ki H bO bz V (s::l)=.ok (zs,X)):∃y W ys,xU H bO bz V s=.ok (y,W)/\ki H bO bz W l=.ok (ys,X)/\zs=y::ys:=by
 unfold ki at h;split at h;cases h;rename_i y W hy;split at h;cases h;rename_i ys X' hz;cases h;exact⟨y,W,ys,hy,hz,rfl⟩
theorem JH{H:Hd}{bz:T3}{V W:List Vd}{k:Int}{nm:List UInt8}{es:List E}{t:T3}{r:Int}(h:j6 H bz V k nm es t=some (r,W)):W=V\/(k=1\/k=2)/\W=V++[⟨nm,t⟩]:=by
 unfold j6 at h;split at h;rename_i c;split at h;cases h;cases h;exact .inr ⟨.inl c,rfl⟩;split at h;rename_i c;split at h;split at h;cases h;cases h;exact .inr ⟨.inr c,rfl⟩;cases h;all_goals left
 split at h;split at h;split at h<;>cases h;rfl;cases h;split at h;split at h<;>cases h;rfl;split at h;split at h<;>cases h;rfl;split at h;split at h<;>cases h;rfl;split at h;split at h<;>cases h;rfl;cases h;rfl
theorem VK{H:Hd}{k:Int}{on:List UInt8}{od:Int}{t:T3}(h:kS H k on od=some t):WT H.rs.length t:=by
 unfold kS at h;split at h;split at h<;>cases h;exact mX _ _ _;cases h;exact Sv
theorem zW{H:Hd}{bO:Bool}{bz:T3}:∀{l ys:List Sm}{V X:List Vd},(∀s∈l,∀V y W,(∀f∈V,WT H.rs.length f.ty)->xU H bO bz V s=.ok (y,W)->(∀f∈W,WT H.rs.length f.ty)/\W.length<=V.length+Sm.sz s)->
  (∀f∈V,WT H.rs.length f.ty)->ki H bO bz V l=.ok (ys,X)->(∀f∈X,WT H.rs.length f.ty)/\X.length<=V.length+Sm.cQ l
 |[],ys,V,X,_,hV,h=>by unfold ki at h;cases h;exact⟨hV,by simp[Sm.cQ]⟩|s::l,ys,V,X,hp,hV,h=>by
  obtain⟨y,W,zs,h1,h2,rfl⟩:=wD h;obtain⟨a1,a2⟩:=hp s List.mem_cons_self V y W hV h1;obtain⟨b1,b2⟩:=zW (λs hs=>hp s (List.mem_cons_of_mem _ hs)) a1 h2;exact⟨b1,by simp only[Sm.cQ];omega⟩
theorem Ed{H:Hd}{bO:Bool}{bz:T3}(s:Sm):∀V y W,(∀f∈V,WT H.rs.length f.ty)->xU H bO bz V s=.ok (y,W)->(∀f∈W,WT H.rs.length f.ty)/\W.length<=V.length+Sm.sz s:=by
 induction s using Sm.yu with
 |_ s sW k7=>
  intro V y X hV h;obtain⟨t,ys,r,W,hf,ht,rK,cJ,hh⟩:=Ec h;have hW:(∀f∈W,WT H.rs.length f.ty)/\W.length<=V.length+1:=by
   rcases JH cJ with e|⟨_,e⟩;subst e;exact⟨hV,by omega⟩;subst e;refine⟨λf hf=>?_,by simp⟩;rcases List.mem_append.1 hf with h|h;exact hV f h;rw[List.mem_singleton.1 h];exact VK ht
  have hz:=Sm.jM s;rcases hh with⟨_,b,W1,c,hb,hc,_⟩|⟨_,b,hb,_⟩|⟨_,_,rfl,_⟩;obtain⟨a1,a2⟩:=zW sW hW.1 hb;obtain⟨b1,b2⟩:=zW k7 a1 hc;exact⟨b1,by omega⟩;obtain⟨a1,a2⟩:=zW sW hW.1 hb;exact⟨a1,by omega⟩;exact⟨hW.1,by omega⟩
theorem Lt{H:Hd}{bO:Bool}{bz:T3}{l ys:List Sm}{V X:List Vd}(hV:∀f∈V,WT H.rs.length f.ty)(h:ki H bO bz V l=.ok (ys,X)):(∀f∈X,WT H.rs.length f.ty)/\X.length<=V.length+Sm.cQ l:=
 zW (λs _=>Ed s) hV h
theorem Nd{H:Hd}{V:List Vd}{e y:E}(h:xC H V e=.ok y):y.k=e.k:=by
 obtain⟨ks,t,r,_,_,_,rfl⟩:=yS h;rfl
theorem nZ{H:Hd}{V:List Vd}{bO:Bool}{k:Int}{l ys:List E}(h:kM H V l=.ok ys)(hf:cI bO k l=true):cI bO k ys=true:=by
 have hl:=nY h;unfold cI at hf ⊢;rw[hl];match l,hl,hf,h with
 |[],hl,hf,_=>rw[List.length_nil]at hl;rw[List.eq_nil_of_length_eq_zero hl];exact hf|[e],hl,hf,h=>
  obtain⟨y,zs,h1,_,h2,rfl⟩:=mO h;unfold kM at h2;cases h2;simpa [Nd h1] using hf
 |[e,e2],hl,hf,h=>
  obtain⟨y,zs,h1,_,h2,rfl⟩:=mO h;obtain⟨y2,zs2,h3,_,h4,rfl⟩:=mO h2;unfold kM at h4;cases h4;simpa [Nd h1] using hf
 |e::e2::e3::l,hl,hf,h=>
  obtain⟨y,zs,h1,_,h2,rfl⟩:=mO h;obtain⟨y2,zs2,h3,_,h4,rfl⟩:=mO h2;obtain⟨y3,zs3,h5,_,h6,rfl⟩:=mO h4;simp at hf
theorem sX{H:Hd}{V:List Vd}{k:Int}{es:List E}(h:k≠9):td H V k es=kM H V es:=by unfold td;rw[if_neg h]
theorem Sz{H:Hd}{V:List Vd}{e:E}:td H V 9 [e]=match xC H V e with|.error x=>.error x|.ok y=>.ok [y]:=by unfold td;rfl
theorem Lu{bO:Bool}{es:List E}(h:cI bO 9 es=true):∃e,es=[e]/\e.k=7:=by
 unfold cI at h;match es,h with
 |[],h=>cases h|[e],h=>exact⟨e,rfl,by simpa using h⟩|_::_::_,h=>cases h
theorem SA{H:Hd}{V:List Vd}{bO:Bool}{k:Int}{l ys:List E}(h:td H V k l=.ok ys)(hf:cI bO k l=true):cI bO k ys=true:=by
 by_cases h9:k=9;subst h9;obtain⟨e,rfl,he⟩:=Lu hf;rw[Sz]at h;split at h;cases h;rename_i y hy;cases h;unfold cI;simpa [Nd hy] using he;rw[sX h9]at h;exact nZ h hf
theorem n6{H:Hd}{bz:T3}{V:List Vd}{k:Int}{nm:List UInt8}{es:List E}{t:T3}:j6 H bz V k (cv k nm) es t=j6 H bz V k nm es t:=by
 unfold j6;by_cases h1:k=1;simp[cv,h1];by_cases h2:k=2;simp[cv,h2];by_cases h3:k=3;simp[cv,h3];simp only[if_neg h1,if_neg h2,if_neg h3]
theorem HQ{H:Hd}{V:List Vd}:∀{l ys:List E},(∀e∈l,∀y,xC H V e=.ok y->E.sz y=E.sz e)->kM H V l=.ok ys->E.cQ ys=E.cQ l
 |[],ys,_,h=>by unfold kM at h;cases h;rfl|e::l,ys,hp,h=>by
  obtain⟨y,zs,h1,_,h2,rfl⟩:=mO h;simp only[E.cQ,hp e List.mem_cons_self y h1,HQ (λe he=>hp e (List.mem_cons_of_mem _ he)) h2]
theorem SB{H:Hd}{V:List Vd}(e:E):∀y,xC H V e=.ok y->E.sz y=E.sz e:=by
 induction e using E.yu with
 |_ e ih=>
  intro y h;obtain⟨ks,t,r,_,h2,_,rfl⟩:=yS h;rw[E.mz e];simp only[E.sz,HQ ih h2]
theorem ZU{H:Hd}{V:List Vd}{l ys:List E}(h:kM H V l=.ok ys):E.cQ ys=E.cQ l:=HQ (λe _=>SB e) h
theorem ZV{H:Hd}{V:List Vd}{bO:Bool}{k:Int}{l ys:List E}(h:td H V k l=.ok ys)(hf:cI bO k l=true):E.cQ ys=E.cQ l:=by
 by_cases h9:k=9;subst h9;obtain⟨e,rfl,he⟩:=Lu hf;rw[Sz]at h;split at h;cases h;rename_i y hy;cases h;simp only[E.cQ,SB e y hy];rw[sX h9]at h;exact ZU h
theorem zX{H:Hd}{bO:Bool}{bz:T3}:∀{l ys:List Sm}{V X:List Vd},(∀s∈l,∀V y W,xU H bO bz V s=.ok (y,W)->Sm.sz y<=Sm.sz s)->ki H bO bz V l=.ok (ys,X)->Sm.cQ ys<=Sm.cQ l
 |[],ys,V,X,_,h=>by unfold ki at h;cases h;exact Nat.le_refl _|s::l,ys,V,X,hp,h=>by
  obtain⟨y,W,zs,h1,h2,rfl⟩:=wD h;have a:=hp s List.mem_cons_self V y W h1;have b:=zX (λs hs=>hp s (List.mem_cons_of_mem _ hs)) h2;simp only[Sm.cQ];omega
theorem ZW{H:Hd}{bO:Bool}{bz:T3}(s:Sm):∀V y W,xU H bO bz V s=.ok (y,W)->Sm.sz y<=Sm.sz s:=by
 induction s using Sm.yu with
 |_ s sW k7=>
  intro V y X h;obtain⟨t,ys,r,W,hf,ht,rK,cJ,hh⟩:=Ec h;have e:=ZV rK hf;have hz:=Sm.jM s;rcases hh with⟨h5,b,W1,c,hb,hc,rfl⟩|⟨h6,b,hb,rfl⟩|⟨h5,h6,rfl,rfl⟩;have b2:=zX sW hb;have c2:=zX k7 hc;simp only[Sm.sz];omega;have b2:=zX sW hb;simp only[Sm.sz,Sm.cQ];omega;simp only[Sm.sz,Sm.cQ];omega
theorem ZY{H:Hd}{bO:Bool}{bz:T3}{l ys:List Sm}{V X:List Vd}(h:ki H bO bz V l=.ok (ys,X)):Sm.cQ ys<=Sm.cQ l:=zX (λs _=>ZW s) h
theorem sC{H:Hd}:∀{ss:List Sg}{fs:List Fc}{bs:List Bd},ss.length=fs.length->qh H ss fs=.ok bs->bs.length=fs.length
 |[],[],bs,_,h=>by unfold qh at h;cases h;rfl|s::ss,f::fs,bs,hl,h=>by
  unfold qh at h;split at h;cases h;split at h;cases h;rename_i l IQ;cases h;simp[sC (by simpa using hl) IQ]
 |[],_::_,_,hl,_=>by cases hl|_::_,[],_,hl,_=>by cases hl
theorem Gn{H:Hd}{n:Nat}:∀{ss:List Sg}{fs:List Fc}{bs:List Bd},qh H ss fs=.ok bs->(∀f∈fs,Sm.cQ f.body<=n)->∀b∈bs,Sm.cQ b.code<=n
 |[],fs,bs,h,_=>by unfold qh at h;cases h;simp|_::_,[],bs,h,_=>by unfold qh at h;cases h;simp|s::ss,f::fs,bs,h,hp=>by
  unfold qh at h;split at h;cases h;rename_i c W hc;split at h;cases h;rename_i l IQ;cases h;intro b hb;rcases List.mem_cons.1 hb with e|e;subst e;have:=ZY hc;have:=hp f List.mem_cons_self;simp only;omega;exact Gn IQ (λf hf=>hp f (List.mem_cons_of_mem _ hf)) b e
theorem JI{H:Hd}(hH:H.ok){n:Nat}:∀{ss:List Sg}{fs:List Fc}{bs:List Bd},qh H ss fs=.ok bs->(∀s∈ss,∀f∈s.ps,WT H.rs.length f.ty)->(∀s∈ss,s.ps.length<=n)->(∀f∈fs,Sm.cQ f.body<=n)->∀b∈bs,b.vars.length<=n+n
 |[],fs,bs,h,_,_,_=>by unfold qh at h;cases h;simp|_::_,[],bs,h,_,_,_=>by unfold qh at h;cases h;simp|s::ss,f::fs,bs,h,hs,hp,hq=>by
  unfold qh at h;split at h;cases h;rename_i c W hc;split at h;cases h;rename_i l IQ;cases h;intro b hb;rcases List.mem_cons.1 hb with e|e;subst e;have:=(Lt (hs s List.mem_cons_self) hc).2;have:=hp s List.mem_cons_self;have:=hq f List.mem_cons_self;simp only;omega;exact JI hH IQ (λs h=>hs s (List.mem_cons_of_mem _ h)) (λs h=>hp s (List.mem_cons_of_mem _ h)) (λf h=>hq f (List.mem_cons_of_mem _ h)) b e
end j9
namespace j9
open Ax Go V7 jG
theorem A8{k n:Int}{nm on:List UInt8}{od:Int}{ks:List E}{a:Int}:E.sz (Em k n nm on od ks a)=1+E.cQ ks:=rfl
theorem qC:E.cQ []=0:=rfl
theorem lz{e:E}:E.cQ [e]=E.sz e:=by simp[E.cQ]
theorem HR{e f:E}:E.cQ [e,f]=E.sz e+E.sz f:=by simp[E.cQ]
theorem Nf:∀l r:List E,E.cQ (l++r)=E.cQ l+E.cQ r
 |[],r=>by simp[E.cQ]|e::l,r=>by
  have:=Nf l r;simp only[List.cons_append,E.cQ];omega
theorem Ng:∀l r:List Sm,Sm.cQ (l++r)=Sm.cQ l+Sm.cQ r
 |[],r=>by simp[Sm.cQ]|e::l,r=>by
  have:=Ng l r;simp only[List.cons_append,Sm.cQ];omega
theorem n7:Sm.cQ []=0:=rfl
theorem VL{e:Sm}:Sm.cQ [e]=Sm.sz e:=by simp[Sm.cQ]
theorem Ee{k:Int}{nm on:List UInt8}{od:Int}{es:List E}{bd el:List Sm}{a cG:Int}:Sm.sz (.mk k nm on od es bd el a cG)=1+E.cQ es+Sm.cQ bd+Sm.cQ el:=rfl
theorem jo{q:RQ}:(cg q).at_=q.at_+1:=rfl
theorem VM{q:RQ}{d:Int}:(wo q d).at_=q.at_:=rfl
theorem VN{q:RQ}{d:Int}:(wo q d).fe=q.fe:=rfl
theorem qD{T:List Tk}{q r:RQ}(w:uG T q r)(f:r.fe=0):q.at_+1<=r.at_:=by
 rcases w with w|⟨_,w⟩;exact absurd f w;exact w
theorem JJ(T:List Tk):∀f:Nat,(∀n q e r,js T f n q=some (e,r)->r.fe=0->E.sz e+q.at_<=r.at_)/\(∀n a q e r,oQ T f n a q=some (e,r)->r.fe=0->E.sz e+q.at_<=r.at_+E.sz a)/\
  (∀q e r,p6 T f q=some (e,r)->r.fe=0->E.sz e+q.at_<=r.at_)/\(∀a q e r,kD T f a q=some (e,r)->r.fe=0->E.sz e+q.at_<=r.at_+E.sz a)/\(∀q e r,nV T f q=some (e,r)->r.fe=0->E.sz e+q.at_<=r.at_)/\
  (∀q e r,p8 T f q=some (e,r)->r.fe=0->E.sz e+q.at_<=r.at_)/\(∀a q e r,p9 T f a q=some (e,r)->r.fe=0->E.sz e+q.at_<=r.at_)/\(∀q e r,uV T f q=some (e,r)->r.fe=0->E.cQ e+q.at_<=r.at_)/\
  (∀l q e r,tF T f l q=some (e,r)->r.fe=0->E.cQ e+q.at_<=r.at_+E.cQ l)
 |0=>by simp[js,oQ,p6,kD,nV,p8,p9,uV,tF]|f+1=>by
  obtain⟨hE,hS,hU,hB,hI,hF,hN,hA,hM⟩:=JJ T f;obtain⟨gE,gS,gU,gB,gI,gF,gN,gA,gM⟩:=zU T f;refine⟨λn q e r h fr=>?_,λn a q e r h fr=>?_,λq e r h fr=>?_,λa q e r h fr=>?_,λq e r h fr=>?_,λq e r h fr=>?_,λa q e r h fr=>?_,λq e r h fr=>?_,λl q e r h fr=>?_⟩;unfold js at h;split at h;exact hU _ _ _ h fr;obtain⟨⟨x1,x2⟩,h1,h2⟩:=Option.bind_eq_some_iff.1 h;have f2:=(gS _ _ _ _ _ h2).BR fr;have:=hE _ _ _ _ h1 f2;have:=hS _ _ _ _ _ h2 fr
  (try dsimp only at *);omega
  unfold oQ at h;split at h;rename_i c;obtain⟨⟨x1,x2⟩,h1,h2⟩:=Option.bind_eq_some_iff.1 h;have f2:=(gS _ _ _ _ _ h2).BR fr;have a1:=hE _ _ _ _ h1 f2;have a2:=hS _ _ _ _ _ h2 fr;rw[A8,HR]at a2;rw[jo]at a1
  (try dsimp only at *);omega
  cases h;omega;unfold p6 at h;split at h;obtain⟨⟨x1,x2⟩,h1,h2⟩:=Option.bind_eq_some_iff.1 h;cases h2;rw[VN]at fr;have a1:=hE _ _ _ _ h1 fr;have a2:=qD kE ((gE _ _ _ _ h1).BR fr);rw[A8,lz,VM]
  (try dsimp only at *);omega
  obtain⟨⟨x1,x2⟩,h1,h2⟩:=Option.bind_eq_some_iff.1 h;have f2:=(gB _ _ _ _ h2).BR fr;have:=hF _ _ _ h1 f2;have:=hB _ _ _ _ h2 fr
  (try dsimp only at *);omega
  unfold kD at h;split at h;rename_i c;have a1:=hB _ _ _ _ h fr;rw[A8,lz]at a1;have a2:=(iG (T:=T) (q:=cg q)).le;rw[jo]at a2;omega;split at h;obtain⟨⟨x1,x2⟩,h1,h2⟩:=Option.bind_eq_some_iff.1 h;have f2:=(gB _ _ _ _ h2).BR fr;have f3:=(ff (T:=T) (q:=x2) (s:=[93])).BR f2;have a1:=hE _ _ _ _ h1 f3;have a2:=qD kE ((gE _ _ _ _ h1).BR f3);have a3:=hB _ _ _ _ h2 fr;have a4:=(ff (T:=T) (q:=x2) (s:=[93])).le;rw[A8,HR]at a3
  (try dsimp only at *);omega
  cases h;omega;unfold nV at h;obtain⟨⟨x1,x2⟩,h1,h2⟩:=Option.bind_eq_some_iff.1 h;cases h2;have f3:=(ff (T:=T) (q:=x2) (s:=[41])).BR fr;have a1:=hE _ _ _ _ h1 f3;have a2:=qD kE ((gE _ _ _ _ h1).BR f3);have a4:=(ff (T:=T) (q:=x2) (s:=[41])).le
  (try dsimp only at *);omega
  unfold p8 at h;split at h;cases h;rw[A8,qC,jo];omega;split at h;cases h;rw[A8,qC,jo];omega;split at h;cases h;have:=(nW (T:=T) (q:=cg q)).le;rw[jo]at this;rw[A8,qC];omega;split at h;have:=hN _ _ _ _ h fr;rw[jo]at this;omega;split at h;obtain⟨⟨x1,x2⟩,h1,h2⟩:=Option.bind_eq_some_iff.1 h;cases h2;have a1:=hI _ _ _ h1 fr;rw[jo]at a1;rw[A8,lz]
  (try dsimp only at *);omega
  split at h;cases h;have a1:=((fM (T:=T) (q:=cg q) (s:=[40])).trans (ff (s:=[41]))).le;rw[jo]at a1;rw[A8,qC];omega;split at h;exact hI _ _ _ h fr;split at h;obtain⟨⟨x1,x2⟩,h1,h2⟩:=Option.bind_eq_some_iff.1 h;cases h2;have a1:=hA _ _ _ h1 fr;have a2:=qD oS ((gA _ _ _ h1).BR fr);rw[A8]
  (try dsimp only at *);omega
  cases h;have a2:=qD oS fr;rw[A8,qC];omega;unfold p9 at h;split at h;obtain⟨⟨x1,x2⟩,h1,h2⟩:=Option.bind_eq_some_iff.1 h;cases h2;have a1:=hI _ _ _ h1 fr;have a2:=((nW (T:=T) (q:=cg q)).trans (bM (s:=[93]))).le;rw[jo]at a2;rw[A8,lz]
  (try dsimp only at *);omega
  cases h;have a2:=qD oS fr;rw[A8,qC];omega;unfold uV at h;split at h;cases h;have a1:=((fM (T:=T) (q:=q) (s:=[40])).trans (ff (s:=[41]))).le;rw[qC];omega;obtain⟨⟨x1,x2⟩,h1,h2⟩:=Option.bind_eq_some_iff.1 h;have f2:=(gM _ _ _ _ h2).BR fr;have a1:=hE _ _ _ _ h1 f2;have a2:=(fM (T:=T) (q:=q) (s:=[40])).le;have a3:=hM _ _ _ _ h2 fr;rw[lz]at a3
  (try dsimp only at *);omega
  unfold tF at h;split at h;obtain⟨⟨x1,x2⟩,h1,h2⟩:=Option.bind_eq_some_iff.1 h;have f2:=(gM _ _ _ _ h2).BR fr;have a1:=hE _ _ _ _ h1 f2;rw[jo]at a1;have a3:=hM _ _ _ _ h2 fr;rw[Nf,lz]at a3
  (try dsimp only at *);omega
  cases h;have a1:=(ff (T:=T) (q:=q) (s:=[41])).le;omega
theorem mA{T:List Tk}{f n:Nat}{q r:RQ}{e:E}(h:js T f n q=some (e,r))(fr:r.fe=0):E.sz e+q.at_<=r.at_:=(JJ T f).1 _ _ _ _ h fr
theorem Lv{T:List Tk}{f:Nat}{a:Int}{q r:RQ}{s:Sm}(h:sV T f a q=some (s,r))(fr:r.fe=0):Sm.sz s+q.at_<=r.at_:=by
 unfold sV at h;obtain⟨⟨x1,x2⟩,h1,h2⟩:=Option.bind_eq_some_iff.1 h;dsimp only at h2;split at h2;obtain⟨⟨y1,y2⟩,h3,h4⟩:=Option.bind_eq_some_iff.1 h2;cases h4;have f1:=(bM (T:=T) (q:=y2) (s:=[59])).BR fr;have w:=qD j4 fr;have a3:=mA h3 f1;have f3:=(iX h3).BR f1;have w2:=qD j4 f3;have f4:=bM.BR f3;by_cases c:x1.k=4\/x1.k=5\/x1.k=6;rw[if_pos c]at w2 f4;have a1:=mA h1 f4;rw[if_pos c]at a3;by_cases c4:x1.k=4;rw[if_pos c4,Ee,lz,n7];(try dsimp only at *);omega;rw[if_neg c4,Ee,HR,n7];(try dsimp only at *);omega;rw[if_neg c]at f4;exact absurd f4 (kQ (by decide));cases h2;have f1:=(bM).BR fr;have w:=qD j4 fr;by_cases c:iD T x2 [59]=true/\x1.k≠7;rw[if_pos c]at f1;exact absurd f1 (kQ (by decide));rw[if_neg c]at f1 w;have a1:=mA h1 f1;rw[Ee,lz,n7,if_neg c];(try dsimp only at *);omega
theorem Ef(T:List Tk):∀f:Nat,(∀q s r,uW T f q=some (s,r)->r.fe=0->Sm.sz s+q.at_<=r.at_)/\(∀q s r,jZ T f q=some (s,r)->r.fe=0->Sm.cQ s+q.at_<=r.at_)/\
  (∀l q s r,oR T f l q=some (s,r)->r.fe=0->Sm.cQ s+q.at_<=r.at_+Sm.cQ l)
 |0=>by simp[uW,jZ,oR]|f+1=>by
  obtain⟨hS,hB,hL⟩:=Ef T f;obtain⟨gS,gB,gL⟩:=rG T f;refine⟨λq s r h fr=>?_,λq s r h fr=>?_,λl q s r h fr=>?_⟩;unfold uW at h;split at h;cases h;have:=((jh (T:=T) (q:=cg q)).trans (bM (s:=[59]))).le;rw[jo]at this;rw[Ee,qC,n7];omega;split at h;obtain⟨⟨x1,x2⟩,h1,h2⟩:=Option.bind_eq_some_iff.1 h;cases h2;have f1:=bM.BR fr;have a1:=mA h1 f1;have a2:=((jh (T:=T) (q:=cg q)).trans (bM (s:=[61]))).le;have a3:=(bM (T:=T) (q:=x2) (s:=[59])).le;rw[jo]at a2;rw[Ee,lz,n7];(try dsimp only at *);omega;split at h;obtain⟨⟨x1,x2⟩,h1,h2⟩:=Option.bind_eq_some_iff.1 h;obtain⟨⟨y1,y2⟩,h3,h4⟩:=Option.bind_eq_some_iff.1 h2;dsimp only at h4;split at h4;rename_i d;obtain⟨⟨z1,z2⟩,h5,h6⟩:=Option.bind_eq_some_iff.1 h4;cases h6;have f1:=(gB _ _ _ h5).1.BR fr;have f2:y2.fe=0:=f1;have f3:=(gB _ _ _ h3).1.BR f2;have a1:=mA h1 f3;have a2:=hB _ _ _ h3 f2;have a3:=hB _ _ _ h5 fr;rw[jo]at a1 a3;rw[Ee,lz];(try dsimp only at *);omega;cases h4;have f3:=(gB _ _ _ h3).1.BR fr;have a1:=mA h1 f3;have a2:=hB _ _ _ h3 fr;rw[jo]at a1;rw[Ee,lz,n7];(try dsimp only at *);omega;split at h;obtain⟨⟨x1,x2⟩,h1,h2⟩:=Option.bind_eq_some_iff.1 h;obtain⟨⟨y1,y2⟩,h3,h4⟩:=Option.bind_eq_some_iff.1 h2;cases h4;have f3:=(gB _ _ _ h3).1.BR fr;have a1:=mA h1 f3;have a2:=hB _ _ _ h3 fr;rw[jo]at a1;rw[Ee,lz,n7];(try dsimp only at *);omega;split at h;split at h;cases h;have a2:=(bM (T:=T) (q:=cg q) (s:=[59])).le;rw[jo]at a2;rw[Ee,qC,n7];omega;obtain⟨⟨x1,x2⟩,h1,h2⟩:=Option.bind_eq_some_iff.1 h;cases h2;have f1:=bM.BR fr;have a1:=mA h1 f1;have a3:=(bM (T:=T) (q:=x2) (s:=[59])).le;rw[jo]at a1;rw[Ee,lz,n7];(try dsimp only at *);omega;split at h;obtain⟨⟨x1,x2⟩,h1,h2⟩:=Option.bind_eq_some_iff.1 h;cases h2;have f1:=bM.BR fr;have a1:=mA h1 f1;have a3:=(bM (T:=T) (q:=x2) (s:=[59])).le;rw[jo]at a1;rw[Ee,lz,n7];(try dsimp only at *);omega;exact Lv h fr;unfold jZ at h;have a1:=hL _ _ _ _ h fr;have a2:=(fM (T:=T) (q:=q) (s:=[123])).le;rw[n7]at a1;omega;unfold oR at h;split at h;obtain⟨⟨x1,x2⟩,h1,h2⟩:=Option.bind_eq_some_iff.1 h;have f1:=(gL _ _ _ _ h2).BR fr;have a1:=hS _ _ _ h1 f1;have a2:=hL _ _ _ _ h2 fr;rw[Ng,VL]at a2
  (try dsimp only at *);omega
  cases h;have a2:=(ff (T:=T) (q:=q) (s:=[125])).le;omega
theorem Eg{T:List Tk}{f:Nat}{q r:RQ}{s:List Sm}(h:jZ T f q=some (s,r))(fr:r.fe=0):Sm.cQ s+q.at_<=r.at_:=(Ef T f).2.1 _ _ _ h fr
theorem OJ{T:List Tk}{f:Nat}{q r:RQ}{s:Fc}(h:wu T f q=some (s,r))(fr:r.fe=0):Sm.cQ s.body<=r.at_:=by
 unfold wu at h;obtain⟨⟨x1,x2⟩,h1,h2⟩:=Option.bind_eq_some_iff.1 h;dsimp only at h2;split at h2;obtain⟨⟨y1,y2⟩,h3,h4⟩:=Option.bind_eq_some_iff.1 h2;cases h4;have:=Eg h3 fr
 (try dsimp only at *);omega
 obtain⟨⟨y1,y2⟩,h3,h4⟩:=Option.bind_eq_some_iff.1 h2;cases h4;have:=Eg h3 fr
 (try dsimp only at *);omega
theorem oU{T:List Tk}:∀(f:Nat)(p:Pg)(q:RQ)(s:Pg)(r:RQ),pO T f p q=some (s,r)->q.at_<=T.length->(q.fe=0->∀g∈p.funcs,Sm.cQ g.body<=T.length)->r.fe=0->∀g∈s.funcs,Sm.cQ g.body<=T.length
 |0,_,_,_,_,h,_,_=>by simp[pO]at h|f+1,p,q,s,r,h,hq,hp=>by
  unfold pO at h;split at h;rename_i c;split at h;exact oU f _ _ _ _ h (jw.ub hq) λe=>absurd e (kQ (by decide));split at h;rename_i d;obtain⟨⟨x1,x2⟩,h1,h2⟩:=Option.bind_eq_some_iff.1 h;exact oU f _ _ _ _ h2 ((BW h1).1.ub (bR d).2) λe=>hp c.1;split at h;rename_i d;exact oU f _ _ _ _ h ((jh.trans bM).ub (bR d).2) λe=>hp c.1;split at h;rename_i d;obtain⟨⟨x1,x2⟩,h1,h2⟩:=Option.bind_eq_some_iff.1 h;have hu:=(Gj h1).1.ub (bR d).2;exact oU f _ _ _ _ h2 hu λe g hg=>by
   rcases List.mem_append.1 hg with hg|hg;exact hp c.1 g hg;rw[List.mem_singleton.1 hg];have:=OJ h1 e
   (try dsimp only at *);omega
  exact oU f _ _ _ _ h (jw.ub hq) λe=>absurd e (kQ (by decide));cases h;exact λe=>hp e
theorem OK{T:List Tk}{f:Nat}{x:Pg×Int×Int}(h:uE T f=some x):∀g∈x.1.funcs,Sm.cQ g.body<=T.length:=by
 unfold uE at h;obtain⟨⟨p,r⟩,h1,h2⟩:=Option.bind_eq_some_iff.1 h;dsimp only at h2;split at h2;rename_i c;cases h2;exact oU f _ _ _ _ h1 (Nat.zero_le _) (λ_ g hg=>by cases hg) c;cases h2;intro g hg;cases hg
end j9
namespace j9
open Ax Go V7 jG
def lA(a b:Option Int):Option Int:=match a with
 |some x=>some x|none=>b
theorem kT{a:Option Int}:lA a none=a:=by cases a<;>rfl
theorem iH{a b c:Option Int}:lA (lA a b) c=lA a (lA b c):=by cases a<;>rfl
mutual
def zY(su:List Bool):E->Option Int
 |.mk k _ _ _ _ aC a _ cG=>lA (lI su aC) (if k=4/\0<=cG/\su[cG.toNat]?=some false then some a else none)
def lI(su:List Bool):List E->Option Int
 |[]=>none|e::l=>lA (zY su e) (lI su l)
end
mutual
def n8:List Bool->Sm->List Bool×Option Int
 |su,.mk k _ _ _ es bd el _ cG=>
  if k=1 then (su.set cG.toNat false,lI su es)
  else if k=2\/k=3 then (if 0<=cG then su.set cG.toNat true else su,lI su es)
  else if k=7 then (su.map λ_=>true,lI su es)
  else if k=6 then (su,lA (lI su es) (gW su bd).2)
  else if k=5 then (List.zipWith (λa b=>a&&b) (gW su bd).1 (gW su el).1,lA (lI su es) (lA (gW su bd).2 (gW su el).2))
  else (su,lI su es)
def gW:List Bool->List Sm->List Bool×Option Int
 |su,[]=>(su,none)
 |su,s::l=>((gW (n8 su s).1 l).1,lA (n8 su s).2 (gW (n8 su s).1 l).2)
end
theorem Nh(su:List Bool)(e:E):zY su e=lA (lI su e.aC) (if e.k=4/\0<=e.cG/\su[e.cG.toNat]?=some false then some e.a else none):=by
 obtain⟨k,n,nm,on,od,aC,a,ty,cG⟩:=e
 (conv=>lhs;unfold zY)<;>rfl
theorem xD(su:List Bool)(e:E)(l:List E):lI su (e::l)=lA (zY su e) (lI su l):=by
 (conv=>lhs;unfold lI)<;>rfl
theorem Ni(su:List Bool)(s:Sm):n8 su s =
  if s.k=1 then (su.set s.cG.toNat false,lI su s.es)
  else if s.k=2\/s.k=3 then (if 0<=s.cG then su.set s.cG.toNat true else su,lI su s.es)
  else if s.k=7 then (su.map λ_=>true,lI su s.es)
  else if s.k=6 then (su,lA (lI su s.es) (gW su s.bd).2)
  else if s.k=5 then (List.zipWith (λa b=>a&&b) (gW su s.bd).1 (gW su s.el).1,lA (lI su s.es) (lA (gW su s.bd).2 (gW su s.el).2))
  else (su,lI su s.es):=by
 obtain⟨k,nm,on,od,es,bd,el,a,cG⟩:=s
 (conv=>lhs;unfold n8)<;>rfl
theorem Gp(su:List Bool)(s:Sm)(l:List Sm):gW su (s::l)=((gW (n8 su s).1 l).1,lA (n8 su s).2 (gW (n8 su s).1 l).2):=by
 (conv=>lhs;unfold gW)<;>rfl
theorem JK(su:List Bool):gW su []=(su,none):=by unfold gW;rfl
mutual
theorem Eh:∀(su:List Bool)(s:Sm),(n8 su s).1.length=su.length
 |su,.mk k nm on od es bd el a cG=>by
  unfold n8;split;simp;split;split<;>simp;split;simp;split
  rfl
  split;simp[rL su bd,rL su el]
  rfl
theorem rL:∀(su:List Bool)(l:List Sm),(gW su l).1.length=su.length
 |su,[]=>by unfold gW;rfl|su,s::l=>by
  unfold gW;simp only;rw[rL (n8 su s).1 l,Eh su s]
end
mutual
def HT(n:Nat):E->Prop
 |.mk k _ _ _ _ aC _ _ cG=>(k=4->cG<n)/\zZ n aC
def zZ(n:Nat):List E->Prop
 |[]=>True|e::l=>HT n e/\zZ n l
end
mutual
def Fq(n:Nat):Sm->Prop
 |.mk k _ _ _ es bd el _ cG=>zZ n es/\(k=1\/k=2->0<=cG/\cG<n)/\(k=3->cG<n)/\tG n bd/\tG n el
def tG(n:Nat):List Sm->Prop
 |[]=>True|s::l=>Fq n s/\tG n l
end
theorem Aa(n:Nat)(e:E):HT n e↔(e.k=4->e.cG<n)/\zZ n e.aC:=by
 obtain⟨k,_,nm,on,od,aC,a,ty,cG⟩:=e;unfold HT;exact Iff.rfl
theorem uJ(n:Nat)(s:Sm):Fq n s↔zZ n s.es/\(s.k=1\/s.k=2->0<=s.cG/\s.cG<n)/\(s.k=3->s.cG<n)/\tG n s.bd/\tG n s.el:=by
 obtain⟨k,nm,on,od,es,bd,el,a,cG⟩:=s;unfold Fq;exact Iff.rfl
theorem lW(n:Nat):∀l:List E,zZ n l↔∀e∈l,HT n e
 |[]=>by simp[zZ]|e::l=>by simp[zZ,lW n l]
theorem rM(n:Nat):∀l:List Sm,tG n l↔∀e∈l,Fq n e
 |[]=>by simp[tG]|e::l=>by simp[tG,rM n l]
theorem OL{n m:Nat}(h:n<=m)(e:E):HT n e->HT m e:=by
 induction e using E.yu with
 |_ e ih=>
  rw[Aa,Aa,lW,lW];exact λ⟨h1,h2⟩=>⟨λhk=>by have:=h1 hk;omega,λx hx=>ih x hx (h2 x hx)⟩
theorem xE{n m:Nat}(h:n<=m)(l:List E):zZ n l->zZ m l:=by
 rw[lW,lW];exact λh2 x hx=>OL h x (h2 x hx)
theorem Gq{n m:Nat}(h:n<=m)(s:Sm):Fq n s->Fq m s:=by
 induction s using Sm.yu with
 |_ s sW k7=>
  rw[uJ,uJ];rintro⟨h1,h2,h3,h4,h5⟩;rw[rM]at h4 h5 ⊢;refine⟨xE h _ h1,λhk=>?_,λhk=>?_,λx hx=>sW x hx (h4 x hx),?_⟩;have:=h2 hk;omega;have:=h3 hk;omega;rw[rM];exact λx hx=>k7 x hx (h5 x hx)
theorem OM{n m:Nat}(h:n<=m)(l:List Sm):tG n l->tG m l:=by
 rw[rM,rM];exact λh2 x hx=>Gq h x (h2 x hx)
theorem Ab{s:List UInt8}:∀{l:List Vd}{i k:Nat}{t:T3},eH s i l=some (k,t)->k<i+l.length
 |[],_,_,_,h=>by cases h|f::l,i,k,t,h=>by
  unfold eH at h;split at h;cases h;simp;have:=Ab h;simp only[List.length_cons];omega
theorem SD{H:Hd}{V:List Vd}{s:List UInt8}{t:T3}{r:Int}(h:rX H V s=some (t,r)):r<V.length:=by
 unfold rX at h;split at h;rename_i e;cases h;have:=Ab e;omega;split at h;cases h;omega;cases h
theorem Nj{H:Hd}{V:List Vd}(e:E):∀y,xC H V e=.ok y->HT V.length y:=by
 induction e using E.yu with
 |_ e ih=>
  intro y h;obtain⟨ks,t,r,_,h2,h3,rfl⟩:=yS h;rw[Aa];refine⟨λhk=>?_,?_⟩;have hk:e.k=4:=hk;show r<_;unfold lV at h3;rw[if_neg (by omega),if_neg (by omega),if_neg (by omega),if_pos hk]at h3;exact SD h3;show zZ _ ks;rw[lW];exact qB h2 ih
theorem Ac{H:Hd}{bO:Bool}{bz:T3}:∀{l ys:List Sm}{V X:List Vd},(∀s∈l,∀V y W,xU H bO bz V s=.ok (y,W)->V.length<=W.length/\Fq W.length y)->ki H bO bz V l=.ok (ys,X)->V.length<=X.length/\tG X.length ys
 |[],ys,V,X,_,h=>by
  unfold ki at h;cases h;exact⟨Nat.le_refl _,by simp[tG]⟩
 |s::l,ys,V,X,hp,h=>by
  obtain⟨y,W,zs,h1,h2,rfl⟩:=wD h;obtain⟨a1,a2⟩:=hp s List.mem_cons_self V y W h1;obtain⟨b1,b2⟩:=Ac (λt ht=>hp t (List.mem_cons_of_mem _ ht)) h2;refine⟨by omega,?_⟩;unfold tG;exact⟨Gq b1 _ a2,b2⟩
theorem aez{H:Hd}{bz:T3}{V W:List Vd}{k:Int}{nm:List UInt8}{es:List E}{t:T3}{r:Int}(h:j6 H bz V k nm es t=some (r,W)):(k=1\/k=2->r=V.length)/\(k=3->r<V.length):=by
 unfold j6 at h;split at h;rename_i c;split at h;cases h;cases h;exact⟨λ_=>rfl,λh=>by omega⟩;rename_i n1;split at h;rename_i c;split at h;split at h;cases h;cases h;exact⟨λ_=>rfl,λh=>by omega⟩;cases h;rename_i n2;split at h;rename_i c;split at h;rename_i u r' e;split at h;cases h;exact⟨λh=>by omega,λ_=>SD e⟩;cases h;cases h;rename_i n3;exact⟨λh=>by omega,λh=>by omega⟩
theorem ZZ{H:Hd}{V:List Vd}{k:Int}{es ys:List E}(h:td H V k es=.ok ys):zZ V.length ys:=by
 unfold td at h;rw[lW];split at h;split at h;rename_i e l;cases hx:xC H V e with
 |error a=>rw[hx]at h;cases h|ok y=>
  rw[hx]at h;cases h;intro z hz;rw[List.mem_singleton.1 hz];exact Nj e y hx
 cases h;simp;exact qB h λe _ y hy=>Nj e y hy
theorem VO{H:Hd}{bO:Bool}{bz:T3}(s:Sm):∀V y X,xU H bO bz V s=.ok (y,X)->V.length<=X.length/\Fq X.length y:=by
 induction s using Sm.yu with
 |_ s sW k7=>
  intro V y X h;obtain⟨t,ys,r,W,hf,ht,rK,cJ,hh⟩:=Ec h;have jR:=ZZ rK;have hVW:V.length<=W.length:=by
   rcases JH cJ with e|⟨_,e⟩;rw[e];exact Nat.le_refl _;rw[e];simp
  have hr:=aez cJ;have DA:s.k=1\/s.k=2->0<=r/\r<(W.length:Int):=λhk=>by
   rcases JH cJ with e|⟨_,e⟩;have h1:=hr.1 hk;have:W.length=V.length+1:=by
    unfold j6 at cJ;rcases hk with hk|hk;rw[if_pos hk]at cJ;split at cJ;cases cJ;cases cJ;simp;rw[if_neg (by omega),if_pos hk]at cJ;split at cJ;split at cJ;cases cJ;cases cJ;simp;cases cJ
   omega;have h1:=hr.1 hk;rw[e,h1];simp;omega
  have hr3:s.k=3->r<(W.length:Int):=λhk=>by have:=hr.2 hk;omega
  rcases hh with⟨h5,b,W1,c,hb,hc,rfl⟩|⟨h6,b,hb,rfl⟩|⟨h5,h6,rfl,rfl⟩;obtain⟨a1,a2⟩:=Ac (λx hx V y W hw=>sW x hx V y W hw) hb;obtain⟨b1,b2⟩:=Ac (λx hx V y W hw=>k7 x hx V y W hw) hc;refine⟨by omega,(uJ _ _).2 ⟨xE (by omega) _ jR,λhk=>?_,λhk=>?_,OM b1 _ a2,b2⟩⟩;have hk:s.k=1\/s.k=2:=hk;omega;have hk:s.k=3:=hk;omega;obtain⟨a1,a2⟩:=Ac (λx hx V y W hw=>sW x hx V y W hw) hb;refine⟨by omega,(uJ _ _).2 ⟨xE (by omega) _ jR,λhk=>?_,λhk=>?_,a2,by simp[Sm.el,tG]⟩⟩;have hk:s.k=1\/s.k=2:=hk;omega;have hk:s.k=3:=hk;omega;exact⟨hVW,(uJ _ _).2 ⟨xE hVW _ jR,DA,hr3,by simp[Sm.bd,tG],by simp[Sm.el,tG]⟩⟩
theorem VP{H:Hd}{bO:Bool}{bz:T3}{l ys:List Sm}{V X:List Vd}(h:ki H bO bz V l=.ok (ys,X)):V.length<=X.length/\tG X.length ys:=
 Ac (λs _ V y W=>VO s V y W) h
def su0(g:Sg)(b:Bd):List Bool:=List.replicate g.ps.length true++List.replicate (b.vars.length-g.ps.length) false
def yT:List Sg->List Bd->Option Int
 |s::ss,b::bs=>lA (gW (su0 s b) b.code).2 (yT ss bs)|_,_=>none
theorem Ei{H:Hd}:∀{ss:List Sg}{fs:List Fc}{bs:List Bd},qh H ss fs=.ok bs->∀(k:Nat)(h1:k<ss.length)(h2:k<bs.length),ss[k].ps.length<=bs[k].vars.length/\tG bs[k].vars.length bs[k].code
 |[],_,bs,h,k,h1,_=>by simp at h1|s::ss,[],bs,h,k,_,h2=>by
  unfold qh at h;cases h;simp at h2
 |s::ss,f::fs,bs,h,k,h1,h2=>by
  unfold qh at h;split at h;cases h;rename_i c W hb;split at h;cases h;rename_i l hl;cases h;match k with
  |0=>exact VP hb|k+1=>
   have:=Ei hl k (by simpa using h1) (by simpa using h2);simpa using this
end j9
