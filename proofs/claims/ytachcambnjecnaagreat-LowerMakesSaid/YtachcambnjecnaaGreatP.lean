/- Part of a proof. -/
import Derived.Test.YtachcambnjecnaaGreatA6

namespace V7
open Ax Go
def sV:AV->Bool
 |.iO _ _=>false|_=>true
theorem wm{v:AV}(h:sV v=true)(hs:aD v=true):v.view=v:=by cases v<;>simp_all [sV,aD,AV.view]
@[simp]theorem JE(v:AV):sV v.view=true:=by cases v<;>simp[sV,AV.view]
def lT(sz:Nat)(p:List AV->Bool)(v:AV):Bool:=sV v&&bX sz v&&(aM v).all p
theorem qO{sz:Nat}{p:List AV->Bool}{v:AV}(h:lT sz p v=true):bX sz v=true:=by simp only[lT,Bool.and_eq_true]at h;exact h.1.2
theorem yS{sz:Nat}{p:List AV->Bool}{v:AV}(h:lT sz p v=true):∀r∈aM v,p r=true:=by simp only[lT,Bool.and_eq_true,List.all_eq_true]at h;exact h.2
theorem xA{sz:Nat}{p:List AV->Bool}{v:AV}(h:lT sz p v=true):v.view=v:=by
 have h2:=pz (qO h);simp only[lT,Bool.and_eq_true]at h;exact wm h.1.1 h2
theorem zS{α:Type}{sz:Nat}{p:List AV->Bool}{d:List AV->α}{e:α->List AV}{v:AV}(h:lT sz p v=true)(he:∀r,p r=true->r=e (d r)):aM v=((aM v).map d).map e:=by
 rw[List.map_map];conv=>lhs;rw[<-List.map_id (aM v)]
 exact List.map_congr_left λr hr=>he r (yS h r hr)
def T4(n:Int):Bool:=decide (-9223372036854775808<=n)&&decide (n<=9223372036854775807)
structure T3 where
 b:Int
 r:Int
 d:Int
 deriving DecidableEq
abbrev T0:T3:=⟨0,0,0⟩
@[simp]def T3.cells(t:T3):List AV:=[.int .i64 t.b,.int .i64 t.r,.int .i64 t.d]
def aeu(r:List AV):Bool:=match r with | [.int .i64 a,.int .i64 b,.int .i64 c]=>T4 a&&T4 b&&T4 c|_=>false
def dT(r:List AV):T3:=match r with | [.int .i64 a,.int .i64 b,.int .i64 c]=>⟨a,b,c⟩|_=>T0
def aev(v:AV):Bool:=lT 3 aeu v
def dTs(v:AV):List T3:=(aM v).map dT
@[simp]theorem aew(v:AV):dTs v.view=dTs v:=by simp[dTs]
@[simp]theorem ZU{v:AV}(h:aev v=true):bX 3 v=true:=qO h
@[simp]theorem aiS{v:AV}(h:aev v=true):aD v=true:=pz (ZU h)
def Ng(r:List AV):Bool:=match r with | [.str _]=>true|_=>false
def dSt(r:List AV):List UInt8:=match r with | [.str s]=>s|_=>[]
def qj(v:AV):Bool:=lT 1 Ng v
def eu(v:AV):List (List UInt8):=(aM v).map dSt
theorem Ss(r:List AV)(h:Ng r=true):r=[.str (dSt r)]:=by
 unfold Ng at h;split at h
 rfl
 cases h
theorem JF{v:AV}(h:qj v=true):aM v=(eu v).map λs=>[.str s]:=zS h Ss
theorem wo{v:AV}(h:qj v=true):v.view=v:=xA h
@[simp]theorem mj(v:AV):eu v.view=eu v:=by simp[eu]
@[simp]theorem Nh{v:AV}(h:qj v=true):bX 1 v=true:=qO h
@[simp]theorem xB{v:AV}(h:qj v=true):aD v=true:=pz (Nh h)
def Co{α:Type}(p:α->Bool)(l:List α)(k:Nat):Prop:=∀j (h:j<l.length),j<k->p l[j]=false
theorem qP{α:Type}{p:α->Bool}{l:List α}:Co p l 0:=λ_ _ h=>absurd h (by omega)
theorem qQ{α:Type}{p:α->Bool}{l:List α}{k:Nat}(h:Co p l k)(h1:k<l.length)(hp:p l[k]=false):Co p l (k+1):=by
 intro j j1 hj;rcases Nat.lt_or_ge j k with tX|tX;exact h j j1 tX;have:j=k:=by omega
 subst this;exact hp
def vq(l:List (List UInt8))(s:List UInt8):Int:=match l.findIdx? λx=>decide (x=s) with
 |some k=>k|none=>-1
theorem HN{l:List (List UInt8)}{s:List UInt8}{k:Nat}(h:Co (λx=>decide (x=s)) l k)(hk:k<l.length)(e:l[k]=s):vq l s=k:=by
 have:l.findIdx? (λx=>decide (x=s))=some k:=by
  rw[List.findIdx?_eq_some_iff_getElem];refine⟨hk,by simpa using e,λj hj=>?_⟩;have:=h j (by omega) hj;simpa using this
 unfold vq;rw[this]
theorem A5{l:List (List UInt8)}{s:List UInt8}(h:Co (λx=>decide (x=s)) l l.length):vq l s = -1:=by
 have:l.findIdx? (λx=>decide (x=s))=none:=by
  rw[List.findIdx?_eq_none_iff];intro x hx;obtain⟨j,hj,rfl⟩:=List.mem_iff_getElem.1 hx;exact h j hj hj
 unfold vq;rw[this]
theorem VI(l:List (List UInt8))(s:List UInt8):vq l s = -1\/∃k:Nat,vq l s=k/\k<l.length:=by
 unfold vq;cases e:l.findIdx? λx=>decide (x=s) with
 |none=>exact .inl rfl|some k=>exact .inr ⟨k,rfl,(List.findIdx?_eq_some_iff_getElem.1 e).1⟩
def bZ(l:List (List UInt8))(s:List UInt8)(d:Int):T3×Bool:=
 if d<0\/3<d then (T0,false) else
 if s=[105,110,116] then (⟨1,0,d⟩,true) else
 if s=[98,111,111,108] then (⟨2,0,d⟩,true) else
 if vq l s<0 then (T0,false) else (⟨3,vq l s,d⟩,true)
def nK(t:T3):Bool:=decide (t.b=3)||decide (0<t.d)
structure PD where
 name:List UInt8
 on:List UInt8
 od:Int
 at_:Int
def PD.cells(p:PD):List AV:=[.str p.name,.str p.on,.int .i64 p.od,.int .i64 p.at_]
def Ni(r:List AV):Bool:=match r with | [.str _,.str _,.int .i64 d,.int .i64 a]=>T4 d&&T4 a|_=>false
def dP(r:List AV):PD:=match r with | [.str n,.str o,.int .i64 d,.int .i64 a]=>⟨n,o,d,a⟩|_=>⟨[],[],0,0⟩
theorem Su(r:List AV)(h:Ni r=true):r=(dP r).cells:=by
 unfold Ni at h;split at h
 rfl
 cases h
def A6(v:AV):Bool:=lT 4 Ni v
def iJ(v:AV):List PD:=(aM v).map dP
theorem Nj{v:AV}(h:A6 v=true):aM v=(iJ v).map PD.cells:=zS h Su
theorem pC{v:AV}(h:A6 v=true):v.view=v:=xA h
@[simp]theorem aex(v:AV):iJ v.view=iJ v:=by simp[iJ]
@[simp]theorem ZV{v:AV}(h:A6 v=true):bX 4 v=true:=qO h
@[simp]theorem sW{v:AV}(h:A6 v=true):aD v=true:=pz (ZV h)
structure CR where
 name:List UInt8
 cQ:AV
 at_:Int
def CR.cells(r:CR):List AV:=[.str r.name,r.cQ,.int .i64 r.at_]
def Gk(r:List AV):Bool:=match r with | [.str _,f,.int .i64 a]=>A6 f&&T4 a|_=>false
def dCR(r:List AV):CR:=match r with | [.str s,f,.int .i64 a]=>⟨s,f,a⟩|_=>⟨[],.U,0⟩
theorem Sv(r:List AV)(h:Gk r=true):r=(dCR r).cells:=by
 unfold Gk at h;split at h
 rfl
 cases h
def BR(v:AV):Bool:=lT 3 Gk v
def cj(v:AV):List CR:=(aM v).map dCR
theorem D8{v:AV}(h:BR v=true):aM v=(cj v).map CR.cells:=zS h Sv
theorem A7{v:AV}(h:BR v=true):∀r∈cj v,A6 r.cQ=true:=by
 intro r hr;obtain⟨x,hx,rfl⟩:=List.mem_map.1 hr;have:=yS h x hx;unfold Gk at this;unfold dCR;split at this;simp only[Bool.and_eq_true]at this;exact this.1;cases this
theorem zT{v:AV}(h:BR v=true):v.view=v:=xA h
@[simp]theorem abW(v:AV):cj v.view=cj v:=by simp[cj]
@[simp]theorem VJ{v:AV}(h:BR v=true):bX 3 v=true:=qO h
@[simp]theorem CL{v:AV}(h:BR v=true):aD v=true:=pz (VJ h)
structure FN where
 name:List UInt8
 params:AV
 bP:Bool
 on:List UInt8
 od:Int
 body:AV
 at_:Int
def FN.cells(f:FN):List AV:=[.str f.name,f.params,.bool f.bP,.str f.on,.int .i64 f.od,f.body,.int .i64 f.at_]
def Gl(r:List AV):Bool:=match r with | [.str _,p,.bool _,.str _,.int .i64 d,b,.int .i64 a]=>A6 p&&sV b&&aD b&&T4 d&&T4 a|_=>false
def dFN(r:List AV):FN:=match r with | [.str n,p,.bool h,.str o,.int .i64 d,b,.int .i64 a]=>⟨n,p,h,o,d,b,a⟩|_=>⟨[],.U,false,[],0,.U,0⟩
theorem Sw(r:List AV)(h:Gl r=true):r=(dFN r).cells:=by
 unfold Gl at h;split at h
 rfl
 cases h
def BS(v:AV):Bool:=lT 7 Gl v
def dN(v:AV):List FN:=(aM v).map dFN
theorem JG{v:AV}(h:BS v=true):aM v=(dN v).map FN.cells:=zS h Sw
theorem Gm{v:AV}(h:BS v=true):∀r∈dN v,A6 r.params=true/\sV r.body=true/\aD r.body=true:=by
 intro r hr;obtain⟨x,hx,rfl⟩:=List.mem_map.1 hr;have:=yS h x hx;unfold Gl at this;unfold dFN;split at this;simp only[Bool.and_eq_true]at this;exact⟨this.1.1.1.1,this.1.1.1.2,this.1.1.2⟩;cases this
theorem zU{v:AV}(h:BS v=true):v.view=v:=xA h
@[simp]theorem abX(v:AV):dN v.view=dN v:=by simp[dN]
@[simp]theorem VK{v:AV}(h:BS v=true):bX 7 v=true:=qO h
@[simp]theorem CM{v:AV}(h:BS v=true):aD v=true:=pz (VK h)
structure GD where
 aS:AV
 globals:AV
 funcs:AV
def GD.cells(p:GD):List AV:=[p.aS,p.globals,p.funcs]
structure GD.ok (p:GD):Prop where
 aS:BR p.aS=true
 globals:A6 p.globals=true
 funcs:BS p.funcs=true
def iK(l:List CR):List (List UInt8):=l.map (·.name)
def A8(rs:List (List UInt8))(p:PD):List AV:=.str p.name::(bZ rs p.on p.od).1.cells
def dF(rs:List (List UInt8))(l:List PD):List (List AV):=l.map (A8 rs)
def wu(a b:Option Int):Option Int:=match a with|some x=>some x|none=>b
def nU(rs:List (List UInt8))(before:List PD)(p:PD):Option Int:=if before.any (λq=>decide (q.name=p.name)) || !(bZ rs p.on p.od).2 then some p.at_ else none
def cI{α:Type}(vC:List α->α->Option Int)(l:List α):Nat->Option Int
 |0=>none|k+1=>wu (cI vC l k) (match l[k]? with|some x=>vC (l.take k) x|none=>none)
def yu(a:Option Int):List AV:=match a with|some x=>[.int .i64 3,.int .i64 x]|none=>[.int .i64 0,.int .i64 0]
end V7
namespace jG
open Ax Go V7
structure Tk where
 k:Int
 t:List UInt8
 n:Int
 a:Int
def Tk.cells(x:Tk):List AV:=[.int .i64 x.k,.str x.t,.int .i64 x.n,.int .i64 x.a]
abbrev Tk0:Tk:=⟨0,[],0,0⟩
structure TL (l:AV)(T:List Tk):Prop where
 sz:bX 4 l=true
 rows:aM l=T.map Tk.cells
 len:T.length<1000000000
theorem TL.sl{l:AV}{T:List Tk}(h:TL l T):aD l=true:=pz h.sz
structure RQ where
 at_:Nat
 op:Int
 fe:Int
 fa:Int
def RQ.aU(l:AV)(q:RQ):dz:=.rows 0 5 [[l,.int .i64 q.at_,.int .i64 q.op,.int .i64 q.fe,.int .i64 q.fa]]
def fP(T:List Tk)(q:RQ):Tk:=T.getD q.at_ Tk0
def jr(T:List Tk)(q:RQ)(e:Int):RQ:=if q.fe=0 then ⟨q.at_,q.op,e,(fP T q).a⟩ else q
def yT(s:List UInt8):Int:=match s with|c::_=>if 97<=c.toNat/\c.toNat<=122 then 3 else 4 | []=>4
def iD(T:List Tk)(q:RQ)(s:List UInt8):Bool:=decide (q.fe=0)&&decide ((fP T q).k=yT s)&&decide ((fP T q).t=s)
def cg(q:RQ):RQ:=⟨q.at_+1,q.op,q.fe,q.fa⟩
def dK(T:List Tk)(q:RQ)(s:List UInt8):RQ:=if iD T q s then cg q else jr T q 2
def wz(q:RQ)(d:Int):RQ:=⟨q.at_,IntKind.i64.wrap (q.op+d),q.fe,q.fa⟩
def jJ(T:List Tk)(q:RQ)(s:List UInt8):RQ:=if iD T q s&&decide (50<=q.op) then jr T q 4 else wz (dK T q s) 1
def mm(T:List Tk)(q:RQ)(s:List UInt8):RQ:=wz (dK T q s) (-1)
def eA(T:List Tk)(q:RQ):List UInt8×RQ:=if q.fe=0/\(fP T q).k=1 then ((fP T q).t,cg q) else ([],jr T q 2)
def uE(T:List Tk)(q:RQ)(s:List UInt8):Nat->RQ
 |0=>q|k+1=>dK T (uE T q s k) s
def JH(T:List Tk):Nat->Nat->RQ->Nat×RQ
 |0,d,q=>(d,q)
 |k+1,d,q=>if iD T q [91] then JH T k (d+1) (cg q) else (d,q)
def ofN(T:List Tk)(q:RQ):List UInt8×RQ:=if iD T q [105,110,116]||iD T q [98,111,111,108] then ((fP T q).t,cg q) else eA T q
def yw(T:List Tk)(q:RQ):(List UInt8×Int)×RQ:=
 if iD T (JH T 3 0 q).2 [91] then (([],0),jr T (JH T 3 0 q).2 4)
 else (((ofN T (JH T 3 0 q).2).1,((JH T 3 0 q).1:Int)),uE T (ofN T (JH T 3 0 q).2).2 [93] (JH T 3 0 q).1)
def aA(sz:Nat)(rows:List (List AV)):AV:=(bD sz rows).view
inductive E where
 |mk (k n:Int) (nm on:List UInt8) (od:Int) (aC:List E) (a:Int) (ty:T3) (cH:Int)
def E.k:E->Int|.mk k _ _ _ _ _ _ _ _=>k
def E.n:E->Int|.mk _ n _ _ _ _ _ _ _=>n
def E.nm:E->List UInt8|.mk _ _ nm _ _ _ _ _ _=>nm
def E.on:E->List UInt8|.mk _ _ _ on _ _ _ _ _=>on
def E.od:E->Int|.mk _ _ _ _ od _ _ _ _=>od
def E.aC:E->List E|.mk _ _ _ _ _ aC _ _ _=>aC
def E.a:E->Int|.mk _ _ _ _ _ _ a _ _=>a
def E.ty:E->T3|.mk _ _ _ _ _ _ _ ty _=>ty
def E.cH:E->Int|.mk _ _ _ _ _ _ _ _ cH=>cH
mutual
def E.row:E->List AV
 |.mk k n nm on od aC a ty cH=>[.int .i64 k,.int .i64 n,.str nm,.str on,.int .i64 od,aA 11 (E.rows aC),.int .i64 a,.int .i64 ty.b,.int .i64 ty.r,.int .i64 ty.d,.int .i64 cH]
def E.rows:List E->List (List AV)
 |[]=>[]
 |e::l=>e.row::E.rows l
end
def Em(k n:Int)(nm on:List UInt8)(od:Int)(aC:List E)(a:Int):E:=.mk k n nm on od aC a T0 0
def aI(l:List E):AV:=aA 11 (E.rows l)
inductive Sm where
 |mk (k:Int) (nm on:List UInt8) (od:Int) (es:List E) (bd el:List Sm) (a cH:Int)
def Sm.k:Sm->Int|.mk k _ _ _ _ _ _ _ _=>k
def Sm.nm:Sm->List UInt8|.mk _ nm _ _ _ _ _ _ _=>nm
def Sm.on:Sm->List UInt8|.mk _ _ on _ _ _ _ _ _=>on
def Sm.od:Sm->Int|.mk _ _ _ od _ _ _ _ _=>od
def Sm.es:Sm->List E|.mk _ _ _ _ es _ _ _ _=>es
def Sm.bd:Sm->List Sm|.mk _ _ _ _ _ bd _ _ _=>bd
def Sm.el:Sm->List Sm|.mk _ _ _ _ _ _ el _ _=>el
def Sm.a:Sm->Int|.mk _ _ _ _ _ _ _ a _=>a
def Sm.cH:Sm->Int|.mk _ _ _ _ _ _ _ _ cH=>cH
mutual
def Sm.row:Sm->List AV
 |.mk k nm on od es bd el a cH=>[.int .i64 k,.str nm,.str on,.int .i64 od,aI es,aA 9 (Sm.rows bd),aA 9 (Sm.rows el),.int .i64 a,.int .i64 cH]
def Sm.rows:List Sm->List (List AV)
 |[]=>[]
 |s::l=>s.row::Sm.rows l
end
def aT(l:List Sm):AV:=aA 9 (Sm.rows l)
structure Rc where
 name:List UInt8
 cQ:List PD
 a:Int
def Rc.row(r:Rc):List AV:=[.str r.name,aA 4 (r.cQ.map PD.cells),.int .i64 r.a]
structure Fc where
 name:List UInt8
 params:List PD
 bP:Bool
 on:List UInt8
 od:Int
 body:List Sm
 a:Int
def Fc.row(f:Fc):List AV:=[.str f.name,aA 4 (f.params.map PD.cells),.bool f.bP,.str f.on,.int .i64 f.od,aT f.body,.int .i64 f.a]
structure Pg where
 aS:List Rc
 globals:List PD
 funcs:List Fc
def Pg.row(p:Pg):List AV:=[aA 3 (p.aS.map Rc.row),aA 4 (p.globals.map PD.cells),aA 7 (p.funcs.map Fc.row)]
@[simp]theorem aL{sz:Nat}{r:List (List AV)}:aD (aA sz r)=true:=by simp[aA]
@[simp]theorem aE{sz:Nat}{r:List (List AV)}:aM (aA sz r)=r:=by simp[aA]
@[simp]theorem aJ{sz:Nat}{r:List (List AV)}:(aA sz r).view=aA sz r:=by
 unfold aA bD;split<;>simp[AV.view]
@[simp]theorem k7{sz:Nat}{r:List (List AV)}:(aA sz r).cy=true:=bU aL
@[simp]theorem oR{sz:Nat}{r:List (List AV)}:(aA sz r).ax=true:=ck aL
@[simp]theorem aR{l:List E}:aD (aI l)=true:=aL
@[simp]theorem aN{l:List E}:(aI l).view=aI l:=aJ
@[simp]theorem aez{l:List E}:(aI l).cy=true:=k7
@[simp]theorem aeA{l:List E}:(aI l).ax=true:=oR
@[simp]theorem bn{l:List Sm}:aD (aT l)=true:=aL
@[simp]theorem aO{l:List Sm}:(aT l).view=aT l:=aJ
@[simp]theorem aeB{l:List Sm}:(aT l).cy=true:=k7
@[simp]theorem aeC{l:List Sm}:(aT l).ax=true:=oR
@[simp]theorem aeD{sz:Nat}:aA sz []=.U:=rfl
@[simp]theorem abY{sz:Nat}{r:List AV}{l:List (List AV)}:aA sz (r::l)=.dM sz (r::l):=rfl
theorem gh:∀l:List E,E.rows l=l.map E.row
 |[]=>by simp[E.rows]|e::l=>by simp[E.rows,gh l]
theorem fY:∀l:List Sm,Sm.rows l=l.map Sm.row
 |[]=>by simp[Sm.rows]|e::l=>by simp[Sm.rows,fY l]
theorem qC:aI []=.U:=by simp[aI,E.rows,aA,jB,AV.view]
theorem pD:aT []=.U:=by simp[aT,Sm.rows,aA,jB,AV.view]
theorem E.az(e:E):e.row=[.int .i64 e.k,.int .i64 e.n,.str e.nm,.str e.on,.int .i64 e.od,aI e.aC,.int .i64 e.a,.int .i64 e.ty.b,.int .i64 e.ty.r,.int .i64 e.ty.d,.int .i64 e.cH]:=by
 cases e;simp[E.row,E.k,E.n,E.nm,E.on,E.od,E.aC,E.a,E.ty,E.cH,aI]
theorem Sm.az(s:Sm):s.row=[.int .i64 s.k,.str s.nm,.str s.on,.int .i64 s.od,aI s.es,aT s.bd,aT s.el,.int .i64 s.a,.int .i64 s.cH]:=by
 cases s;simp[Sm.row,Sm.k,Sm.nm,Sm.on,Sm.od,Sm.es,Sm.bd,Sm.el,Sm.a,Sm.cH,aT]
def eM:Nat->List (List UInt8×Int)
 |0=>[([124,124],24)]
 |1=>[([38,38],23)]
 |2=>[([60],19),([60,61],20),([61,61],21),([33,61],22)]
 |3=>[([43],14),([45],15)]
 |_=>[([42],16),([47],17),([37],18)]
def gz:List (List UInt8×Int)->List UInt8->Int
 |[],_=>0|(s,k)::r,t=>if s=t then k else gz r t
def uF(n:Nat)(c:Tk):Int:=if c.k=4 then gz (eM n) c.t else 0
mutual
def js(T:List Tk):Nat->Nat->RQ->Option (E×RQ)
 |0,_,_=>none|f+1,n,q=>if n=5 then qa T f q else (js T f (n+1) q).bind λx=>oS T f n x.1 x.2
def oS(T:List Tk):Nat->Nat->E->RQ->Option (E×RQ)
 |0,_,_,_=>none|f+1,n,a,q=>if q.fe=0/\uF n (fP T q)≠0 then
   (js T f (n+1) (cg q)).bind λx=>oS T f n (Em (uF n (fP T q)) 0 [] [] 0 [a,x.1] (fP T q).a) x.2
  else some (a,q)
def qa(T:List Tk):Nat->RQ->Option (E×RQ)
 |0,_=>none|f+1,q=>if iD T q [45]||iD T q [33] then
   (js T f 5 (jJ T q (fP T q).t)).bind λx=>some (Em (if iD T q [45] then 12 else 13) 0 [] [] 0 [x.1] (fP T q).a,wz x.2 (-1))
  else (qb T f q).bind λx=>kE T f x.1 x.2
def kE(T:List Tk):Nat->E->RQ->Option (E×RQ)
 |0,_,_=>none|f+1,a,q=>if iD T q [46] then kE T f (Em 5 0 (eA T (cg q)).1 [] 0 [a] (fP T q).a) (eA T (cg q)).2
  else if iD T q [91] then (js T f 0 (jJ T q [91])).bind λx=>kE T f (Em 6 0 [] [] 0 [a,x.1] (fP T q).a) (mm T x.2 [93])
  else some (a,q)
def nV(T:List Tk):Nat->RQ->Option (E×RQ)
 |0,_=>none|f+1,q=>(js T f 0 (jJ T q [40])).bind λx=>some (x.1,mm T x.2 [41])
def qb(T:List Tk):Nat->RQ->Option (E×RQ)
 |0,_=>none|f+1,q=>
  if q.fe=0/\(fP T q).k=2 then some (Em 1 (fP T q).n [] [] 0 [] (fP T q).a,cg q)
  else if iD T q [116,114,117,101]||iD T q [102,97,108,115,101] then some (Em 2 (if (fP T q).t=[116,114,117,101] then 1 else 0) [] [] 0 [] (fP T q).a,cg q)
  else if iD T q [110,117,108,108] then some (Em 3 0 [] (yw T (cg q)).1.1 (yw T (cg q)).1.2 [] (fP T q).a,(yw T (cg q)).2)
  else if iD T q [110,101,119] then qc T f (fP T q).a (cg q)
  else if iD T q [108,101,110] then (nV T f (cg q)).bind λx=>some (Em 10 0 [] [] 0 [x.1] (fP T q).a,x.2)
  else if iD T q [114,101,97,100] then some (Em 11 0 [] [] 0 [] (fP T q).a,mm T (jJ T (cg q) [40]) [41])
  else if iD T q [40] then nV T f q
  else if iD T (eA T q).2 [40] then (uX T f (eA T q).2).bind λx=>some (Em 7 0 (eA T q).1 [] 0 x.1 (fP T q).a,x.2)
  else some (Em 4 0 (eA T q).1 [] 0 [] (fP T q).a,(eA T q).2)
def qc(T:List Tk):Nat->Int->RQ->Option (E×RQ)
 |0,_,_=>none|f+1,a,q=>if iD T q [91] then
   (nV T f (dK T (yw T (cg q)).2 [93])).bind λx=>some (Em 9 0 [] (yw T (cg q)).1.1 (yw T (cg q)).1.2 [x.1] a,x.2)
  else some (Em 8 0 [] (eA T q).1 0 [] a,(eA T q).2)
def uX(T:List Tk):Nat->RQ->Option (List E×RQ)
 |0,_=>none|f+1,q=>if iD T (jJ T q [40]) [41] then some ([],mm T (jJ T q [40]) [41])
  else (js T f 0 (jJ T q [40])).bind λx=>tH T f [x.1] x.2
def tH(T:List Tk):Nat->List E->RQ->Option (List E×RQ)
 |0,_,_=>none|f+1,l,q=>if iD T q [44] then (js T f 0 (cg q)).bind λx=>tH T f (l++[x.1]) x.2
  else some (l,mm T q [41])
end
def sX(T:List Tk)(f:Nat)(a:Int)(q:RQ):Option (Sm×RQ):=
 (js T f 0 q).bind λx=>if iD T x.2 [61] then
   (js T f 0 (dK T (if x.1.k=4\/x.1.k=5\/x.1.k=6 then x.2 else jr T x.2 2) [61])).bind λy=>
    some (if x.1.k=4 then .mk 3 x.1.nm [] 0 [y.1] [] [] a 0 else .mk 4 [] [] 0 [x.1,y.1] [] [] a 0,dK T y.2 [59])
  else some (.mk 9 [] [] 0 [x.1] [] [] a 0,dK T (if iD T x.2 [59]=true/\x.1.k≠7 then jr T x.2 2 else x.2) [59])
def eC(T:List Tk)(q:RQ):PD×RQ:=
 (⟨(eA T q).1,(yw T (dK T (eA T q).2 [58])).1.1,(yw T (dK T (eA T q).2 [58])).1.2,(fP T q).a⟩,(yw T (dK T (eA T q).2 [58])).2)
mutual
def uY(T:List Tk):Nat->RQ->Option (Sm×RQ)
 |0,_=>none|f+1,q=>
  if iD T q [118,97,114] then
   some (.mk 1 (eC T (cg q)).1.name (eC T (cg q)).1.on (eC T (cg q)).1.od [] [] [] (fP T q).a 0,dK T (eC T (cg q)).2 [59])
  else if iD T q [108,101,116] then (js T f 0 (dK T (eC T (cg q)).2 [61])).bind λx=>
   some (.mk 2 (eC T (cg q)).1.name (eC T (cg q)).1.on (eC T (cg q)).1.od [x.1] [] [] (fP T q).a 0,dK T x.2 [59])
  else if iD T q [105,102] then (js T f 0 (cg q)).bind λx=>(jZ T f x.2).bind λy=>
   if iD T y.2 [101,108,115,101] then (jZ T f (cg y.2)).bind λz=>some (.mk 5 [] [] 0 [x.1] y.1 z.1 (fP T q).a 0,z.2)
   else some (.mk 5 [] [] 0 [x.1] y.1 [] (fP T q).a 0,y.2)
  else if iD T q [119,104,105,108,101] then (js T f 0 (cg q)).bind λx=>(jZ T f x.2).bind λy=>
   some (.mk 6 [] [] 0 [x.1] y.1 [] (fP T q).a 0,y.2)
  else if iD T q [114,101,116,117,114,110] then
   if iD T (cg q) [59] then some (.mk 7 [] [] 0 [] [] [] (fP T q).a 0,dK T (cg q) [59])
   else (js T f 0 (cg q)).bind λx=>some (.mk 7 [] [] 0 [x.1] [] [] (fP T q).a 0,dK T x.2 [59])
  else if iD T q [112,114,105,110,116] then (js T f 0 (cg q)).bind λx=>some (.mk 8 [] [] 0 [x.1] [] [] (fP T q).a 0,dK T x.2 [59])
  else sX T f (fP T q).a q
def jZ(T:List Tk):Nat->RQ->Option (List Sm×RQ)
 |0,_=>none|f+1,q=>oT T f [] (jJ T q [123])
def oT(T:List Tk):Nat->List Sm->RQ->Option (List Sm×RQ)
 |0,_,_=>none|f+1,l,q=>if q.fe=0/\iD T q [125]=false then (uY T f q).bind λx=>oT T f (l++[x.1]) x.2
  else some (l,mm T q [125])
end
def mo(T:List Tk):Nat->List PD->RQ->Option (List PD×RQ)
 |0,_,_=>none|f+1,l,q=>if q.fe=0/\iD T q [125]=false then
   if (fP T q).k=1/\l.length=8 then some (l,jr T q 4)
   else mo T f (l++[(eC T q).1]) (dK T (eC T q).2 [59])
  else some (l,q)
def qD(T:List Tk)(f:Nat)(q:RQ):Option (Rc×RQ):=
 (mo T f [] (dK T (eA T q).2 [123])).bind λx=>some (⟨(eA T q).1,x.1,(fP T q).a⟩,dK T x.2 [125])
def D9(T:List Tk)(q:RQ):RQ:=if iD T q [41] then q else if iD T (dK T q [44]) [41] then jr T (dK T q [44]) 2 else dK T q [44]
def mq(T:List Tk):Nat->List PD->RQ->Option (List PD×RQ)
 |0,_,_=>none|f+1,l,q=>if q.fe=0/\iD T q [41]=false then
   if (fP T q).k=1/\l.length=6 then some (l,jr T q 4)
   else mq T f (l++[(eC T q).1]) (D9 T (eC T q).2)
  else some (l,q)
def wA(T:List Tk)(f:Nat)(q:RQ):Option (Fc×RQ):=
 (mq T f [] (dK T (eA T q).2 [40])).bind λx=>
  if iD T (dK T x.2 [41]) [58] then
   (jZ T f (yw T (cg (dK T x.2 [41]))).2).bind λy=>some (⟨(eA T q).1,x.1,true,(yw T (cg (dK T x.2 [41]))).1.1,(yw T (cg (dK T x.2 [41]))).1.2,y.1,(fP T q).a⟩,y.2)
  else (jZ T f (dK T x.2 [41])).bind λy=>some (⟨(eA T q).1,x.1,false,[],0,y.1,(fP T q).a⟩,y.2)
def ZW:List UInt8:=[114,101,99,111,114,100]
def Sx:List UInt8:=[103,108,111,98,97,108]
def Sy:List UInt8:=[102,117,110,99]
def pS(T:List Tk):Nat->Pg->RQ->Option (Pg×RQ)
 |0,_,_=>none|f+1,p,q=>if q.fe=0/\(fP T q).k≠0 then
   if iD T q ZW=true/\p.aS.length=12\/iD T q Sx=true/\p.globals.length=8\/iD T q Sy=true/\p.funcs.length=16 then pS T f p (jr T q 4)
   else if iD T q ZW then (qD T f (cg q)).bind λx=>pS T f ⟨p.aS++[x.1],p.globals,p.funcs⟩ x.2
   else if iD T q Sx then pS T f ⟨p.aS,p.globals++[(eC T (cg q)).1],p.funcs⟩ (dK T (eC T (cg q)).2 [59])
   else if iD T q Sy then (wA T f (cg q)).bind λx=>pS T f ⟨p.aS,p.globals,p.funcs++[x.1]⟩ x.2
   else pS T f p (jr T q 2)
  else some (p,q)
def CN:Pg:=⟨[],[],[]⟩
def uG(T:List Tk)(f:Nat):Option (Pg×Int×Int):=
 (pS T f CN ⟨0,0,0,0⟩).bind λx=>some (if x.2.fe=0 then (x.1,0,0) else (CN,x.2.fe,x.2.fa))
end jG
namespace jG
open Ax Go V7
structure fU (T:List Tk)(q r:RQ):Prop where
 le:q.at_<=r.at_
 ub:q.at_<=T.length->r.at_<=T.length
 vC:q.fe≠0->r.fe=q.fe/\r.at_=q.at_
theorem fU.refl(T:List Tk)(q:RQ):fU T q q:=⟨Nat.le_refl _,id,λ_=>⟨rfl,rfl⟩⟩
theorem fU.trans{T:List Tk}{q r s:RQ}(h:fU T q r)(k:fU T r s):fU T q s:=
 ⟨Nat.le_trans h.le k.le,λu=>k.ub (h.ub u),λb=>by
  obtain⟨a1,a2⟩:=h.vC b;obtain⟨b1,b2⟩:=k.vC (by rw[a1];exact b);exact⟨b1.trans a1,b2.trans a2⟩⟩
theorem fU.BU{T:List Tk}{q r:RQ}(h:fU T q r)(f:r.fe=0):q.fe=0:=by
 apply Classical.byContradiction;intro hn;have:=(h.vC hn).1;rw[f]at this;exact hn this.symm
theorem uH{T:List Tk}{q:RQ}(h:(fP T q).k≠0):q.at_<T.length:=by
 apply Classical.byContradiction;intro hn;rw[fP,List.getD,List.getElem?_eq_none (by omega)]at h;exact h rfl
theorem OK(s:List UInt8):yT s≠0:=by
 unfold yT;split;split<;>decide
 decide
theorem bR{T:List Tk}{q:RQ}{s:List UInt8}(h:iD T q s=true):q.fe=0/\q.at_<T.length:=by
 simp only[iD,Bool.and_eq_true,decide_eq_true_eq]at h;exact⟨h.1.1,uH (by rw[h.1.2];exact OK s)⟩
theorem Gn{T:List Tk}{q:RQ}{s:List UInt8}(h:iD T q s=true):(fP T q).t=s:=by
 simp only[iD,Bool.and_eq_true,decide_eq_true_eq]at h;exact h.2
theorem VL{T:List Tk}{q:RQ}{s:List UInt8}(h:q.fe≠0):iD T q s=false:=by simp[iD,h]
theorem zV{T:List Tk}{q:RQ}{n:Nat}(h:uF n (fP T q)≠0):q.at_<T.length:=uH (by
 unfold uF at h;split at h;rename_i e;rw[e];decide;exact absurd rfl h)
theorem cF{T:List Tk}{q:RQ}(h:q.fe=0)(h2:q.at_<T.length):fU T q (cg q):=⟨Nat.le_succ _,λ_=>h2,λb=>absurd h b⟩
theorem jw{T:List Tk}{q:RQ}{e:Int}:fU T q (jr T q e):=by
 unfold jr;split;rename_i h;exact⟨Nat.le_refl _,id,λb=>absurd h b⟩;exact fU.refl T q
theorem A9{T:List Tk}{q:RQ}{d:Int}:fU T q (wz q d):=⟨Nat.le_refl _,id,λ_=>⟨rfl,rfl⟩⟩
theorem bO{T:List Tk}{q:RQ}{s:List UInt8}:fU T q (dK T q s):=by
 unfold dK;split;rename_i h;exact cF (bR h).1 (bR h).2;exact jw
theorem fM{T:List Tk}{q:RQ}{s:List UInt8}:fU T q (jJ T q s):=by
 unfold jJ;split;exact jw;exact bO.trans A9
theorem fh{T:List Tk}{q:RQ}{s:List UInt8}:fU T q (mm T q s):=bO.trans A9
theorem iG{T:List Tk}{q:RQ}:fU T q (eA T q).2:=by
 unfold eA;split;rename_i h;exact cF h.1 (uH (by rw[h.2];decide));exact jw
theorem Ea{T:List Tk}{q:RQ}{s:List UInt8}:∀k,fU T q (uE T q s k)
 |0=>fU.refl T q|k+1=>(Ea k).trans bO
theorem Eb{T:List Tk}:∀(k d:Nat)(q:RQ),fU T q (JH T k d q).2/\(JH T k d q).1<=d+k/\d<=(JH T k d q).1
 |0,d,q=>⟨fU.refl T q,Nat.le_refl _,Nat.le_refl _⟩
 |k+1,d,q=>by
  unfold JH;split;rename_i h;obtain⟨h1,h2,h3⟩:=Eb (T:=T) k (d+1) (cg q);exact⟨(cF (bR h).1 (bR h).2).trans h1,by omega,by omega⟩;exact⟨fU.refl T q,by simp,Nat.le_refl _⟩
theorem Sz{T:List Tk}{q:RQ}:fU T q (ofN T q).2:=by
 unfold ofN;split;rename_i h;rw[Bool.or_eq_true]at h;rcases h with h|h<;>exact cF (bR h).1 (bR h).2;exact iG
theorem nW{T:List Tk}{q:RQ}:fU T q (yw T q).2:=by
 unfold yw;have h:=(Eb (T:=T) 3 0 q).1;split;exact h.trans jw;exact(h.trans Sz).trans (Ea _)
theorem Lt{T:List Tk}{q:RQ}:0<=(yw T q).1.2/\(yw T q).1.2<=3:=by
 have h:=(Eb (T:=T) 3 0 q).2.1;unfold yw;split;exact⟨Int.le_refl _,by show (0:Int)<=3;decide⟩;refine⟨Int.natCast_nonneg _,?_⟩;simp only;omega
theorem jh{T:List Tk}{q:RQ}:fU T q (eC T q).2:=(iG.trans bO).trans nW
def mu(T:List Tk)(q:RQ):Nat:=if q.fe=0 then T.length-q.at_+1 else 0
theorem lU{T:List Tk}{q r:RQ}(h:fU T q r):mu T r<=mu T q:=by
 unfold mu;by_cases f:q.fe=0;rw[if_pos f];split;have:=h.le;omega;omega;obtain⟨a1,_⟩:=h.vC f;rw[a1,if_neg f,if_neg f];exact Nat.le_refl _
def uI(T:List Tk)(q r:RQ):Prop:=r.fe≠0\/q.at_<T.length/\q.at_<r.at_
theorem Ec{T:List Tk}{q r:RQ}(f:q.fe=0)(w:uI T q r):mu T r<mu T q:=by
 unfold mu;rw[if_pos f];rcases w with w|⟨w,v⟩;rw[if_neg w];omega;split<;>omega
theorem nX{T:List Tk}{q r:RQ}(h:fU T q r)(w:uI T q r):mu T r<=mu T q-1:=by
 by_cases f:q.fe=0;have:=Ec f w;omega;have h0:mu T q=0:=by unfold mu;rw[if_neg f]
 have:=lU h;omega
theorem rG{T:List Tk}{q:RQ}(f:q.fe=0):0<mu T q:=by unfold mu;rw[if_pos f];omega
theorem kR{T:List Tk}{q:RQ}{e:Int}(he:e≠0):(jr T q e).fe≠0:=by
 unfold jr;split;exact he
 assumption
theorem mw{T:List Tk}{q:RQ}(h:q.at_<T.length):uI T q (cg q):=.inr ⟨h,Nat.lt_succ_self _⟩
theorem j4{T:List Tk}{q:RQ}{s:List UInt8}:uI T q (dK T q s):=by
 unfold dK;split;rename_i h;exact mw (bR h).2;exact .inl (kR (by decide))
theorem kF{T:List Tk}{q:RQ}{s:List UInt8}:uI T q (jJ T q s):=by
 unfold jJ;split;exact .inl (kR (by decide));exact j4
theorem oU{T:List Tk}{q:RQ}:uI T q (eA T q).2:=by
 unfold eA;split;rename_i h;exact mw (uH (by rw[h.2];decide));exact .inl (kR (by decide))
theorem uI.trans{T:List Tk}{q r s:RQ}(w:uI T q r)(h:fU T r s):uI T q s:=by
 rcases w with w|⟨w,v⟩;exact .inl (by rw[(h.vC w).1];exact w);exact .inr ⟨w,Nat.lt_of_lt_of_le v h.le⟩
theorem fU.HO{T:List Tk}{q r s:RQ}(h:fU T q r)(w:uI T r s):uI T q s:=by
 rcases w with w|⟨w,v⟩;exact .inl w;exact .inr ⟨Nat.lt_of_le_of_lt h.le w,Nat.lt_of_le_of_lt h.le v⟩
theorem uJ{T:List Tk}{q:RQ}:uI T q (eC T q).2:=(oU.trans bO).trans nW
theorem zW(T:List Tk):∀f:Nat,(∀n q e r,js T f n q=some (e,r)->fU T q r)/\(∀n a q e r,oS T f n a q=some (e,r)->fU T q r)/\
  (∀q e r,qa T f q=some (e,r)->fU T q r)/\(∀a q e r,kE T f a q=some (e,r)->fU T q r)/\(∀q e r,nV T f q=some (e,r)->fU T q r)/\
  (∀q e r,qb T f q=some (e,r)->fU T q r)/\(∀a q e r,qc T f a q=some (e,r)->fU T q r)/\(∀q e r,uX T f q=some (e,r)->fU T q r)/\
  (∀l q e r,tH T f l q=some (e,r)->fU T q r)
 |0=>by simp[js,oS,qa,kE,nV,qb,qc,uX,tH]|f+1=>by
  obtain⟨hE,hS,hU,hB,hI,hF,hN,hA,hM⟩:=zW T f;refine⟨λn q e r h=>?_,λn a q e r h=>?_,λq e r h=>?_,λa q e r h=>?_,λq e r h=>?_,λq e r h=>?_,λa q e r h=>?_,λq e r h=>?_,λl q e r h=>?_⟩;unfold js at h;split at h;exact hU _ _ _ h;obtain⟨⟨x1,x2⟩,h1,h2⟩:=Option.bind_eq_some_iff.1 h;exact(hE _ _ _ _ h1).trans (hS _ _ _ _ _ h2);unfold oS at h;split at h;rename_i c;obtain⟨⟨x1,x2⟩,h1,h2⟩:=Option.bind_eq_some_iff.1 h;exact((cF c.1 (zV c.2)).trans (hE _ _ _ _ h1)).trans (hS _ _ _ _ _ h2);cases h;exact fU.refl _ _;unfold qa at h;split at h;obtain⟨⟨x1,x2⟩,h1,h2⟩:=Option.bind_eq_some_iff.1 h;cases h2;exact(fM.trans (hE _ _ _ _ h1)).trans A9;obtain⟨⟨x1,x2⟩,h1,h2⟩:=Option.bind_eq_some_iff.1 h;exact(hF _ _ _ h1).trans (hB _ _ _ _ h2);unfold kE at h;split at h;rename_i c;exact((cF (bR c).1 (bR c).2).trans iG).trans (hB _ _ _ _ h);split at h;obtain⟨⟨x1,x2⟩,h1,h2⟩:=Option.bind_eq_some_iff.1 h;exact((fM.trans (hE _ _ _ _ h1)).trans fh).trans (hB _ _ _ _ h2);cases h;exact fU.refl _ _;unfold nV at h;obtain⟨⟨x1,x2⟩,h1,h2⟩:=Option.bind_eq_some_iff.1 h;cases h2;exact(fM.trans (hE _ _ _ _ h1)).trans fh;unfold qb at h;split at h;rename_i c;cases h;exact cF c.1 (uH (by rw[c.2];decide));split at h;rename_i c;cases h;rw[Bool.or_eq_true]at c;rcases c with c|c<;>exact cF (bR c).1 (bR c).2;split at h;rename_i c;cases h;exact(cF (bR c).1 (bR c).2).trans nW;split at h;rename_i c;exact(cF (bR c).1 (bR c).2).trans (hN _ _ _ _ h);split at h;rename_i c;obtain⟨⟨x1,x2⟩,h1,h2⟩:=Option.bind_eq_some_iff.1 h;cases h2;exact(cF (bR c).1 (bR c).2).trans (hI _ _ _ h1);split at h;rename_i c;cases h;exact((cF (bR c).1 (bR c).2).trans fM).trans fh;split at h;exact hI _ _ _ h;split at h;obtain⟨⟨x1,x2⟩,h1,h2⟩:=Option.bind_eq_some_iff.1 h;cases h2;exact iG.trans (hA _ _ _ h1);cases h;exact iG;unfold qc at h;split at h;rename_i c;obtain⟨⟨x1,x2⟩,h1,h2⟩:=Option.bind_eq_some_iff.1 h;cases h2;exact(((cF (bR c).1 (bR c).2).trans nW).trans bO).trans (hI _ _ _ h1);cases h;exact iG;unfold uX at h;split at h;cases h;exact fM.trans fh;obtain⟨⟨x1,x2⟩,h1,h2⟩:=Option.bind_eq_some_iff.1 h;exact(fM.trans (hE _ _ _ _ h1)).trans (hM _ _ _ _ h2);unfold tH at h;split at h;rename_i c;obtain⟨⟨x1,x2⟩,h1,h2⟩:=Option.bind_eq_some_iff.1 h;exact((cF (bR c).1 (bR c).2).trans (hE _ _ _ _ h1)).trans (hM _ _ _ _ h2);cases h;exact fh
theorem iX{T:List Tk}{f n:Nat}{q r:RQ}{e:E}(h:js T f n q=some (e,r)):fU T q r:=(zW T f).1 _ _ _ _ h
theorem bind_some{α β:Type}{x:Option α}{g:α->Option β}(h1:∃a,x=some a)(h2:∀a,x=some a->∃b,g a=some b):∃b,x.bind g=some b:=by
 obtain⟨a,ha⟩:=h1;obtain⟨b,hb⟩:=h2 a ha;exact⟨b,by rw[ha];exact hb⟩
theorem JI(T:List Tk):∀f:Nat,(∀n q,n<=5->40*mu T q+12<=f+n->∃x,js T f n q=some x)/\(∀n a q,n<5->40*mu T q+1<=f->∃x,oS T f n a q=some x)/\
  (∀q,40*mu T q+6<=f->∃x,qa T f q=some x)/\(∀a q,40*mu T q+1<=f->∃x,kE T f a q=some x)/\(∀q,40*(mu T q-1)+13<=f->∃x,nV T f q=some x)/\
  (∀q,40*mu T q+5<=f->∃x,qb T f q=some x)/\(∀a q,40*mu T q+15<=f->∃x,qc T f a q=some x)/\(∀q,40*(mu T q-1)+13<=f->∃x,uX T f q=some x)/\
  (∀l q,40*mu T q+1<=f->∃x,tH T f l q=some x)
 |0=>by
  refine⟨λn q h1 h2=>?_,λn a q h1 h2=>?_,λq h=>?_,λa q h=>?_,λq h=>?_,λq h=>?_,λa q h=>?_,λq h=>?_,λl q h=>?_⟩<;>omega
 |f+1=>by
  obtain⟨hE,hS,hU,hB,hI,hF,hN,hA,hM⟩:=JI T f;obtain⟨gE,gS,gU,gB,gI,gF,gN,gA,gM⟩:=zW T f;refine⟨λn q h1 h2=>?_,λn a q h1 h2=>?_,λq h=>?_,λa q h=>?_,λq h=>?_,λq h=>?_,λa q h=>?_,λq h=>?_,λl q h=>?_⟩;unfold js;split;exact hU _ (by omega);refine bind_some (hE _ _ (by omega) (by omega)) λ⟨x1,x2⟩ h3=>?_;try dsimp only
  have:=lU (gE _ _ _ _ h3);exact hS _ _ _ (by omega) (by omega);unfold oS;split;rename_i c;have m1:=nX (cF c.1 (zV c.2)) (mw (zV c.2));have m0:=rG (T:=T) c.1;refine bind_some (hE _ _ (by omega) (by omega)) λ⟨x1,x2⟩ h3=>?_;try dsimp only
  have:=lU (gE _ _ _ _ h3);exact hS _ _ _ (by omega) (by omega);exact⟨_,rfl⟩;unfold qa;split;rename_i c;rw[Bool.or_eq_true]at c;have c0:q.fe=0:=by rcases c with c|c<;>exact(bR c).1
  have m1:=nX (T:=T) (q:=q) (fM (s:=(fP T q).t)) kF;have m0:=rG (T:=T) c0;exact bind_some (hE _ _ (by omega) (by omega)) λx _=>⟨_,rfl⟩;refine bind_some (hF _ (by omega)) λ⟨x1,x2⟩ h3=>?_;try dsimp only
  have:=lU (gF _ _ _ h3);exact hB _ _ (by omega);unfold kE;split;rename_i c;have m1:=nX ((cF (bR c).1 (bR c).2).trans iG) ((mw (bR c).2).trans iG);have m0:=rG (T:=T) (bR c).1;exact hB _ _ (by omega);split;rename_i c;have m0:=rG (T:=T) (bR c).1;have m1:=nX (T:=T) (q:=q) (fM (s:=[91])) kF;refine bind_some (hE _ _ (by omega) (by omega)) λ⟨x1,x2⟩ h3=>?_;try dsimp only
  have m2:=lU ((gE _ _ _ _ h3).trans (fh (s:=[93])));exact hB _ _ (by omega);exact⟨_,rfl⟩;unfold nV;have m1:=nX (T:=T) (q:=q) (fM (s:=[40])) kF;exact bind_some (hE _ _ (by omega) (by omega)) λx _=>⟨_,rfl⟩;unfold qb;split;exact⟨_,rfl⟩;split;exact⟨_,rfl⟩;split;exact⟨_,rfl⟩;split;rename_i c;have m1:=nX (cF (bR c).1 (bR c).2) (mw (bR c).2);have m0:=rG (T:=T) (bR c).1;exact hN _ _ (by omega);split;rename_i c;have m1:=nX (cF (bR c).1 (bR c).2) (mw (bR c).2);have m0:=rG (T:=T) (bR c).1;exact bind_some (hI _ (by omega)) λx _=>⟨_,rfl⟩;split;exact⟨_,rfl⟩;split;rename_i c;have m0:=rG (T:=T) (bR c).1;exact hI _ (by omega);split;rename_i c;have m0:=rG (T:=T) (bR c).1;have m1:=lU (T:=T) (q:=q) iG;exact bind_some (hA _ (by omega)) λx _=>⟨_,rfl⟩;exact⟨_,rfl⟩;unfold qc;split;rename_i c;have m1:=lU (((cF (bR c).1 (bR c).2).trans nW).trans (bO (s:=[93])));exact bind_some (hI _ (by omega)) λx _=>⟨_,rfl⟩;exact⟨_,rfl⟩;unfold uX;split;exact⟨_,rfl⟩;have m1:=nX (T:=T) (q:=q) (fM (s:=[40])) kF;refine bind_some (hE _ _ (by omega) (by omega)) λ⟨x1,x2⟩ h3=>?_;try dsimp only
  have:=lU (gE _ _ _ _ h3);exact hM _ _ (by omega);unfold tH;split;rename_i c;have m1:=nX (cF (bR c).1 (bR c).2) (mw (bR c).2);have m0:=rG (T:=T) (bR c).1;refine bind_some (hE _ _ (by omega) (by omega)) λ⟨x1,x2⟩ h3=>?_;try dsimp only
  have:=lU (gE _ _ _ _ h3);exact hM _ _ (by omega);exact⟨_,rfl⟩
theorem oV{T:List Tk}{f:Nat}{q:RQ}(h:40*mu T q+12<=f):∃x,js T f 0 q=some x:=(JI T f).1 0 q (by omega) (by omega)
theorem Lu{T:List Tk}{f:Nat}{a:Int}{q r:RQ}{s:Sm}(h:sX T f a q=some (s,r)):fU T q r/\uI T q r:=by
 unfold sX at h;obtain⟨⟨x1,x2⟩,h1,h2⟩:=Option.bind_eq_some_iff.1 h;have g1:=iX h1;dsimp only at h2;split at h2;obtain⟨⟨y1,y2⟩,h3,h4⟩:=Option.bind_eq_some_iff.1 h2;cases h4;have g2:fU T x2 (dK T (if x1.k=4\/x1.k=5\/x1.k=6 then x2 else jr T x2 2) [61]):=by
  refine fU.trans ?_ bO;split;exact fU.refl _ _;exact jw
 have g3:=(g1.trans g2).trans (iX h3);exact⟨g3.trans bO,g3.HO j4⟩;cases h2;have g2:fU T x2 (if iD T x2 [59]=true/\x1.k≠7 then jr T x2 2 else x2):=by
  split;exact jw;exact fU.refl _ _
 exact⟨(g1.trans g2).trans bO,(g1.trans g2).HO j4⟩
theorem rH(T:List Tk):∀f:Nat,(∀q s r,uY T f q=some (s,r)->fU T q r/\uI T q r)/\(∀q s r,jZ T f q=some (s,r)->fU T q r/\uI T q r)/\
  (∀l q s r,oT T f l q=some (s,r)->fU T q r)
 |0=>by simp[uY,jZ,oT]|f+1=>by
  obtain⟨hS,hB,hL⟩:=rH T f;refine⟨λq s r h=>?_,λq s r h=>?_,λl q s r h=>?_⟩;unfold uY at h;split at h;rename_i c;cases h;have g:=(cF (bR c).1 (bR c).2).trans jh;exact⟨g.trans bO,g.HO j4⟩;split at h;rename_i c;obtain⟨⟨x1,x2⟩,h1,h2⟩:=Option.bind_eq_some_iff.1 h;cases h2;have g:=(((cF (bR c).1 (bR c).2).trans jh).trans bO).trans (iX h1);exact⟨g.trans bO,g.HO j4⟩;split at h;rename_i c;obtain⟨⟨x1,x2⟩,h1,h2⟩:=Option.bind_eq_some_iff.1 h;obtain⟨⟨y1,y2⟩,h3,h4⟩:=Option.bind_eq_some_iff.1 h2;have g1:=(cF (bR c).1 (bR c).2).trans (iX h1);have g:=g1.trans (hB _ _ _ h3).1;have w:=g1.HO (hB _ _ _ h3).2;dsimp only at h4;split at h4;rename_i d;obtain⟨⟨z1,z2⟩,h5,h6⟩:=Option.bind_eq_some_iff.1 h4;cases h6;have g2:=(cF (bR d).1 (bR d).2).trans (hB _ _ _ h5).1;exact⟨g.trans g2,w.trans g2⟩;cases h4;exact⟨g,w⟩;split at h;rename_i c;obtain⟨⟨x1,x2⟩,h1,h2⟩:=Option.bind_eq_some_iff.1 h;obtain⟨⟨y1,y2⟩,h3,h4⟩:=Option.bind_eq_some_iff.1 h2;cases h4;have g1:=(cF (bR c).1 (bR c).2).trans (iX h1);exact⟨g1.trans (hB _ _ _ h3).1,g1.HO (hB _ _ _ h3).2⟩;split at h;rename_i c;have g1:=cF (bR c).1 (bR c).2;split at h;cases h;exact⟨g1.trans bO,g1.HO j4⟩;obtain⟨⟨x1,x2⟩,h1,h2⟩:=Option.bind_eq_some_iff.1 h;cases h2;have g:=g1.trans (iX h1);exact⟨g.trans bO,g.HO j4⟩;split at h;rename_i c;obtain⟨⟨x1,x2⟩,h1,h2⟩:=Option.bind_eq_some_iff.1 h;cases h2;have g:=(cF (bR c).1 (bR c).2).trans (iX h1);exact⟨g.trans bO,g.HO j4⟩;exact Lu h;unfold jZ at h;have g:=hL _ _ _ _ h;exact⟨fM.trans g,kF.trans g⟩;unfold oT at h;split at h;obtain⟨⟨x1,x2⟩,h1,h2⟩:=Option.bind_eq_some_iff.1 h;exact(hS _ _ _ h1).1.trans (hL _ _ _ _ h2);cases h;exact fh
theorem Lv{T:List Tk}{f:Nat}{a:Int}{q:RQ}(h:40*mu T q+12<=f):∃x,sX T f a q=some x:=by
 unfold sX;refine bind_some (oV h) λ⟨x1,x2⟩ h1=>?_;try dsimp only
 have m1:=lU (iX h1);split;have g2:fU T x2 (dK T (if x1.k=4\/x1.k=5\/x1.k=6 then x2 else jr T x2 2) [61]):=by
  refine fU.trans ?_ bO;split;exact fU.refl _ _;exact jw
 have m2:=lU g2;exact bind_some (oV (by omega)) λx _=>⟨_,rfl⟩;exact⟨_,rfl⟩
theorem Ed(T:List Tk):∀f:Nat,(∀q,40*mu T q+15<=f->∃x,uY T f q=some x)/\(∀q,40*(mu T q-1)+18<=f->∃x,jZ T f q=some x)/\
  (∀l q,40*mu T q+17<=f->∃x,oT T f l q=some x)
 |0=>by refine⟨λq h=>?_,λq h=>?_,λl q h=>?_⟩<;>omega|f+1=>by
  obtain⟨hS,hB,hL⟩:=Ed T f;obtain⟨gS,gB,gL⟩:=rH T f;refine⟨λq h=>?_,λq h=>?_,λl q h=>?_⟩;have one:∀s,iD T q s=true->mu T (cg q)<=mu T q-1/\0<mu T q:=λs c=>⟨nX (cF (bR c).1 (bR c).2) (mw (bR c).2),rG (bR c).1⟩;unfold uY;split;exact⟨_,rfl⟩;split;rename_i c;have m0:=one _ c;have m1:=lU (T:=T) (q:=cg q) (jh.trans (bO (s:=[61])));exact bind_some (oV (by omega)) λx _=>⟨_,rfl⟩;split;rename_i c;have m0:=one _ c;refine bind_some (oV (by omega)) λ⟨x1,x2⟩ h1=>?_;try dsimp only
  have m1:=lU (iX h1);refine bind_some (hB _ (by omega)) λ⟨y1,y2⟩ h2=>?_;try dsimp only
  have m2:=lU (gB _ _ _ h2).1;split;rename_i d;have m3:=lU (cF (bR d).1 (bR d).2);exact bind_some (hB _ (by omega)) λx _=>⟨_,rfl⟩;exact⟨_,rfl⟩;split;rename_i c;have m0:=one _ c;refine bind_some (oV (by omega)) λ⟨x1,x2⟩ h1=>?_;try dsimp only
  have m1:=lU (iX h1);exact bind_some (hB _ (by omega)) λx _=>⟨_,rfl⟩;split;rename_i c;have m0:=one _ c;split;exact⟨_,rfl⟩;exact bind_some (oV (by omega)) λx _=>⟨_,rfl⟩;split;rename_i c;have m0:=one _ c;exact bind_some (oV (by omega)) λx _=>⟨_,rfl⟩;exact Lv (by omega);unfold jZ;have m1:=nX (T:=T) (q:=q) (fM (s:=[123])) kF;exact hL _ _ (by omega);unfold oT;split;rename_i c;refine bind_some (hS _ (by omega)) λ⟨x1,x2⟩ h1=>?_;try dsimp only
  have m1:=Ec c.1 (gS _ _ _ h1).2;exact hL _ _ (by omega);exact⟨_,rfl⟩
theorem uK{T:List Tk}{f:Nat}{q r:RQ}{s:List Sm}(h:jZ T f q=some (s,r)):fU T q r/\uI T q r:=(rH T f).2.1 _ _ _ h
theorem Ee{T:List Tk}{f:Nat}{q:RQ}(h:40*mu T q+18<=f):∃x,jZ T f q=some x:=(Ed T f).2.1 _ (by omega)
theorem BW(T:List Tk):∀(f:Nat)(l:List PD)(q:RQ)(s:List PD)(r:RQ),mo T f l q=some (s,r)->fU T q r
 |0,_,_,_,_,h=>by simp[mo]at h|f+1,l,q,s,r,h=>by
  unfold mo at h;split at h;split at h;cases h;exact jw;exact(jh.trans bO).trans (BW T f _ _ _ _ h);cases h;exact fU.refl _ _
theorem BX(T:List Tk):∀(f:Nat)(l:List PD)(q:RQ),mu T q<f->∃x,mo T f l q=some x
 |0,_,_,h=>absurd h (by omega)|f+1,l,q,h=>by
  unfold mo;split;rename_i c;split;exact⟨_,rfl⟩;have:=Ec c.1 ((uJ (T:=T) (q:=q)).trans (bO (s:=[59])));exact BX T f _ _ (by omega);exact⟨_,rfl⟩
theorem BY{T:List Tk}{f:Nat}{q r:RQ}{s:Rc}(h:qD T f q=some (s,r)):fU T q r/\uI T q r:=by
 unfold qD at h;obtain⟨⟨x1,x2⟩,h1,h2⟩:=Option.bind_eq_some_iff.1 h;cases h2;have g:=(bO (T:=T) (s:=[123])).trans (BW T f _ _ _ _ h1);exact⟨(iG.trans g).trans bO,((oU.trans g)).trans bO⟩
theorem JJ{T:List Tk}{f:Nat}{q:RQ}(h:mu T q<f):∃x,qD T f q=some x:=by
 unfold qD;have m:=lU (T:=T) (q:=q) (iG.trans (bO (s:=[123])));exact bind_some (BX T f _ _ (by omega)) λx _=>⟨_,rfl⟩
theorem rI{T:List Tk}{q:RQ}:fU T q (D9 T q):=by
 unfold D9;split;exact fU.refl _ _;split;exact bO.trans jw;exact bO
theorem wB(T:List Tk):∀(f:Nat)(l:List PD)(q:RQ)(s:List PD)(r:RQ),mq T f l q=some (s,r)->fU T q r
 |0,_,_,_,_,h=>by simp[mq]at h|f+1,l,q,s,r,h=>by
  unfold mq at h;split at h;split at h;cases h;exact jw;exact(jh.trans rI).trans (wB T f _ _ _ _ h);cases h;exact fU.refl _ _
theorem BZ(T:List Tk):∀(f:Nat)(l:List PD)(q:RQ),mu T q<f->∃x,mq T f l q=some x
 |0,_,_,h=>absurd h (by omega)|f+1,l,q,h=>by
  unfold mq;split;rename_i c;split;exact⟨_,rfl⟩;have:=Ec c.1 ((uJ (T:=T) (q:=q)).trans rI);exact BZ T f _ _ (by omega);exact⟨_,rfl⟩
theorem Gp{T:List Tk}{f:Nat}{q r:RQ}{s:Fc}(h:wA T f q=some (s,r)):fU T q r/\uI T q r:=by
 unfold wA at h;obtain⟨⟨x1,x2⟩,h1,h2⟩:=Option.bind_eq_some_iff.1 h;have g:=((bO (T:=T) (s:=[40])).trans (wB T f _ _ _ _ h1)).trans (bO (s:=[41]));have gg:=iG.trans g;dsimp only at h2;split at h2;rename_i d;obtain⟨⟨y1,y2⟩,h3,h4⟩:=Option.bind_eq_some_iff.1 h2;cases h4;have g2:=((cF (bR d).1 (bR d).2).trans nW).trans (uK h3).1;exact⟨gg.trans g2,(oU.trans g).trans g2⟩;obtain⟨⟨y1,y2⟩,h3,h4⟩:=Option.bind_eq_some_iff.1 h2;cases h4;have g2:=(uK h3).1;exact⟨gg.trans g2,(oU.trans g).trans g2⟩
theorem OL{T:List Tk}{f:Nat}{q:RQ}(h:40*mu T q+18<=f):∃x,wA T f q=some x:=by
 unfold wA;have m:=lU (T:=T) (q:=q) (iG.trans (bO (s:=[40])));refine bind_some (BZ T f _ _ (by omega)) λ⟨x1,x2⟩ h1=>?_;try dsimp only
 have m1:=lU ((wB T f _ _ _ _ h1).trans (bO (s:=[41])));split;rename_i d;have m2:=lU ((cF (bR d).1 (bR d).2).trans nW);exact bind_some (Ee (by omega)) λx _=>⟨_,rfl⟩;exact bind_some (Ee (by omega)) λx _=>⟨_,rfl⟩
theorem qR(T:List Tk):∀(f:Nat)(p:Pg)(q:RQ),40*mu T q+19<=f->∃x,pS T f p q=some x
 |0,_,_,h=>absurd h (by omega)|f+1,p,q,h=>by
  unfold pS;split;rename_i c;have m0:=rG (T:=T) c.1;have w1:=Ec c.1 (T:=T) (r:=jr T q 4) (.inl (kR (by decide)));have w2:=Ec c.1 (T:=T) (r:=jr T q 2) (.inl (kR (by decide)));have m1:=Ec c.1 (mw (uH c.2));split;exact qR T f _ _ (by omega);split;refine bind_some (JJ (by omega)) λ⟨x1,x2⟩ h1=>?_;try dsimp only
  have:=lU (BY h1).1;exact qR T f _ _ (by omega);split;have:=lU (T:=T) (q:=cg q) (jh.trans (bO (s:=[59])));exact qR T f _ _ (by omega);split;refine bind_some (OL (by omega)) λ⟨x1,x2⟩ h1=>?_;try dsimp only
  have:=lU (Gp h1).1;exact qR T f _ _ (by omega);exact qR T f _ _ (by omega);exact⟨_,rfl⟩
theorem wC(T:List Tk):∃x,uG T (40*T.length+100)=some x:=by
 unfold uG;exact bind_some (qR T _ _ _ (by simp[mu];omega)) λx _=>⟨_,rfl⟩
end jG
namespace jG
open Ax Go V7
def XN(T:List Tk)(N:Int):Prop:=0<=N/\∀x∈T,0<=x.a/\x.a<=N
theorem HP{T:List Tk}{N:Int}(h:XN T N)(q:RQ):0<=(fP T q).a/\(fP T q).a<=N:=by
 by_cases hl:q.at_<T.length;have:fP T q=T[q.at_]:=by simp[fP,hl]
 rw[this];exact h.2 _ (List.getElem_mem hl);have hc:fP T q=Tk0:=by simp[fP,List.getD,List.getElem?_eq_none (Nat.le_of_not_lt hl)]
 rw[hc];exact⟨Int.le_refl _,h.1⟩
def HQ(N:Int)(p:PD):Prop:=0<=p.od/\p.od<=3/\0<=p.at_/\p.at_<=N
theorem Ef{T:List Tk}{N:Int}(h:XN T N)(q:RQ):HQ N (eC T q).1:=⟨Lt.1,Lt.2,(HP h q).1,(HP h q).2⟩
structure Rc.In (N:Int)(r:Rc):Prop where
 a:0<=r.a/\r.a<=N
 len:r.cQ.length<=9
 f:∀p∈r.cQ,HQ N p
structure Fc.In (N:Int)(r:Fc):Prop where
 a:0<=r.a/\r.a<=N
 len:r.params.length<=7
 f:∀p∈r.params,HQ N p
 od:0<=r.od/\r.od<=3
structure Pg.In (N:Int)(p:Pg):Prop where
 r:p.aS.length<=12/\∀x∈p.aS,Rc.In N x
 g:p.globals.length<=8/\∀x∈p.globals,HQ N x
 f:p.funcs.length<=16/\∀x∈p.funcs,Fc.In N x
theorem rJ{α:Type}{P:α->Prop}{l:List α}{a:α}(h:∀x∈l,P x)(ha:P a):∀x∈l++[a],P x:=by
 intro x hx;rcases List.mem_append.1 hx with h1|h1;exact h x h1;rw[List.mem_singleton.1 h1];exact ha
theorem JK{T:List Tk}{q:RQ}(h:(fP T q).k≠1):(eA T q).2.fe≠0:=by
 unfold eA;rw[if_neg (λe=>h e.2)];exact kR (by decide)
theorem xC{T:List Tk}{q:RQ}(h:(fP T q).k≠1):(eC T q).2.fe≠0:=by
 have g:fU T (eA T q).2 (eC T q).2:=bO.trans nW;rw[(g.vC (JK h)).1];exact JK h
theorem Gq{T:List Tk}{N:Int}(hN:XN T N):∀(f:Nat)(l:List PD)(q:RQ)(s:List PD)(r:RQ),mo T f l q=some (s,r)->(∀p∈l,HQ N p)->(l.length<=8\/q.fe≠0/\l.length<=9)->
  (∀p∈s,HQ N p)/\(s.length<=8\/r.fe≠0/\s.length<=9)
 |0,_,_,_,_,h,_,_=>by simp[mo]at h|f+1,l,q,s,r,h,hl,hn=>by
  unfold mo at h;split at h;rename_i c;have h8:l.length<=8:=by
   rcases hn with hn|hn;exact hn;exact absurd c.1 hn.1
  split at h;rename_i c2;cases h;exact⟨hl,.inl h8⟩;rename_i c2;refine Gq hN f _ _ _ _ h (rJ hl (Ef hN q)) ?_;by_cases hk:(fP T q).k=1;exact .inl (by
   have:l.length≠8:=λe=>c2 ⟨hk,e⟩;simp;omega)
  refine .inr ⟨?_,by simp;omega⟩;have g:=bO (T:=T) (q:=(eC T q).2) (s:=[59]);rw[(g.vC (xC hk)).1];exact xC hk;cases h;exact⟨hl,hn⟩
theorem Gr{T:List Tk}{N:Int}(hN:XN T N):∀(f:Nat)(l:List PD)(q:RQ)(s:List PD)(r:RQ),mq T f l q=some (s,r)->(∀p∈l,HQ N p)->(l.length<=6\/q.fe≠0/\l.length<=7)->
  (∀p∈s,HQ N p)/\(s.length<=6\/r.fe≠0/\s.length<=7)
 |0,_,_,_,_,h,_,_=>by simp[mq]at h|f+1,l,q,s,r,h,hl,hn=>by
  unfold mq at h;split at h;rename_i c;have h8:l.length<=6:=by
   rcases hn with hn|hn;exact hn;exact absurd c.1 hn.1
  split at h;rename_i c2;cases h;exact⟨hl,.inl h8⟩;rename_i c2;refine Gr hN f _ _ _ _ h (rJ hl (Ef hN q)) ?_;by_cases hk:(fP T q).k=1;exact .inl (by
   have:l.length≠6:=λe=>c2 ⟨hk,e⟩;simp;omega)
  refine .inr ⟨?_,by simp;omega⟩;have g:=rI (T:=T) (q:=(eC T q).2);rw[(g.vC (xC hk)).1];exact xC hk;cases h;exact⟨hl,hn⟩
theorem OM{T:List Tk}{N:Int}(hN:XN T N){f:Nat}{q r:RQ}{s:Rc}(h:qD T f q=some (s,r)):Rc.In N s/\(r.fe=0->s.cQ.length<=8):=by
 unfold qD at h;obtain⟨⟨x1,x2⟩,h1,h2⟩:=Option.bind_eq_some_iff.1 h;cases h2;obtain⟨a,b⟩:=Gq hN _ _ _ _ _ h1 (by simp) (by simp);refine⟨⟨HP hN q,by rcases b with b|b<;>simp only<;>omega,a⟩,λe=>?_⟩;rcases b with b|b;exact b;exact absurd (bO.BU e) b.1
theorem VM{T:List Tk}{N:Int}(hN:XN T N){f:Nat}{q r:RQ}{s:Fc}(h:wA T f q=some (s,r)):Fc.In N s/\(r.fe=0->s.params.length<=6):=by
 unfold wA at h;obtain⟨⟨x1,x2⟩,h1,h2⟩:=Option.bind_eq_some_iff.1 h;obtain⟨a,b⟩:=Gr hN _ _ _ _ _ h1 (by simp) (by simp);have hc:=HP hN q;have lG:∀r:RQ,fU T x2 r->r.fe=0->x1.length<=6:=λr g e=>by
  rcases b with b|b;exact b;exact absurd (g.BU e) b.1
 have b7:x1.length<=7:=by rcases b with b|b<;>omega
 dsimp only at h2;split at h2;rename_i d;obtain⟨⟨y1,y2⟩,h3,h4⟩:=Option.bind_eq_some_iff.1 h2;cases h4;exact⟨⟨hc,b7,a,Lt⟩,lG _ (((bO.trans (cF (bR d).1 (bR d).2)).trans nW).trans (uK h3).1)⟩;obtain⟨⟨y1,y2⟩,h3,h4⟩:=Option.bind_eq_some_iff.1 h2;cases h4;exact⟨⟨hc,b7,a,Int.le_refl _,by show (0:Int)<=3;decide⟩,lG _ (bO.trans (uK h3).1)⟩
def Pg.few(p:Pg):Prop:=(∀x∈p.aS,x.cQ.length<=8)/\∀x∈p.funcs,x.params.length<=6
theorem xD{T:List Tk}{N:Int}(hN:XN T N):∀(f:Nat)(p:Pg)(q:RQ)(s:Pg)(r:RQ),pS T f p q=some (s,r)->Pg.In N p->(q.fe=0->p.few)->Pg.In N s/\(r.fe=0->s.few)
 |0,_,_,_,_,h,_,_=>by simp[pS]at h|f+1,p,q,s,r,h,hp,hf=>by
  unfold pS at h;split at h;rename_i c;split at h;exact xD hN f _ _ _ _ h hp λe=>absurd e (kR (by decide));rename_i af;split at h;rename_i d;obtain⟨⟨x1,x2⟩,h1,h2⟩:=Option.bind_eq_some_iff.1 h;obtain⟨i1,i2⟩:=OM hN h1;have:p.aS.length≠12:=λe=>af (.inl ⟨d,e⟩);have:=hp.r.1;exact xD hN f _ _ _ _ h2 ⟨⟨by simp;omega,rJ hp.r.2 i1⟩,hp.g,hp.f⟩ λe=>⟨rJ (hf c.1).1 (i2 e),(hf c.1).2⟩;split at h;rename_i d;have:p.globals.length≠8:=λe=>af (.inr (.inl ⟨d,e⟩));have:=hp.g.1;exact xD hN f _ _ _ _ h ⟨hp.r,⟨by simp;omega,rJ hp.g.2 (Ef hN _)⟩,hp.f⟩ λe=>hf c.1;split at h;rename_i d;obtain⟨⟨x1,x2⟩,h1,h2⟩:=Option.bind_eq_some_iff.1 h;obtain⟨i1,i2⟩:=VM hN h1;have:p.funcs.length≠16:=λe=>af (.inr (.inr ⟨d,e⟩));have:=hp.f.1;exact xD hN f _ _ _ _ h2 ⟨hp.r,hp.g,⟨by simp;omega,rJ hp.f.2 i1⟩⟩ λe=>⟨(hf c.1).1,rJ (hf c.1).2 (i2 e)⟩;exact xD hN f _ _ _ _ h hp λe=>absurd e (kR (by decide));cases h;exact⟨hp,hf⟩
theorem HR{N:Int}:Pg.In N CN:=⟨⟨by simp[CN],by simp[CN]⟩,⟨by simp[CN],by simp[CN]⟩,⟨by simp[CN],by simp[CN]⟩⟩
theorem CO:CN.few:=⟨by simp[CN],by simp[CN]⟩
theorem ON{T:List Tk}{N:Int}(hN:XN T N){f:Nat}{x:Pg×Int×Int}(h:uG T f=some x):Pg.In N x.1/\x.1.few:=by
 unfold uG at h;obtain⟨⟨x1,x2⟩,h1,h2⟩:=Option.bind_eq_some_iff.1 h;obtain⟨a,b⟩:=xD hN _ _ _ _ _ h1 HR λ_=>CO;simp only[Option.some.injEq]at h2;subst h2;split;rename_i e;exact⟨a,b e⟩;exact⟨HR,CO⟩
end jG
namespace ke
open Ax Go V7 jG
abbrev tI:T3:=⟨1,0,0⟩
abbrev tB:T3:=⟨2,0,0⟩
structure Vd where
 nm:List UInt8
 ty:T3
 deriving DecidableEq
structure Sg where
 nm:List UInt8
 ps:List Vd
 bP:Bool
 bz:T3
structure Hd where
 rs:List (List UInt8)
 bK:List (List UInt8×List Vd)
 globals:List Vd
 sigs:List Sg
def kS(rs:List (List UInt8))(l:List PD):List Vd:=l.map λq=>⟨q.name,(bZ rs q.on q.od).1⟩
def cx(p:Pg):List (List UInt8):=p.aS.map (·.name)
def wD(rs:List (List UInt8))(f:Fc):Sg:=⟨f.name,kS rs f.params,f.bP,if f.bP then (bZ rs f.on f.od).1 else T0⟩
def aG(p:Pg):Hd:=⟨cx p,p.aS.map λr=>(r.name,kS (cx p) r.cQ),kS (cx p) p.globals,p.funcs.map (wD (cx p))⟩
def eJ(s:List UInt8):Nat->List Vd->Option (Nat×T3)
 |_,[]=>none|i,f::l=>if f.nm=s then some (i,f.ty) else eJ s (i+1) l
def rZ(H:Hd)(V:List Vd)(s:List UInt8):Option (T3×Int):=match eJ s 0 V with
 |some (k,t)=>some (t,(k:Int))|none=>match eJ s 0 H.globals with
  |some (k,t)=>some (t,-1-(k:Int))|none=>none
def mH(s:List UInt8):Nat->List Sg->Option (Nat×Sg)
 |_,[]=>none|i,g::l=>if g.nm=s then some (i,g) else mH s (i+1) l
def ji:List Vd->List E->Bool
 |[],[]=>true|f::l,e::r=>decide (e.ty=f.ty)&&ji l r|_,_=>false
def gq(k n:Int)(m:Nat):Bool:=
 if k=1\/k=3\/k=4\/k=8\/k=11 then decide (m=0)
 else if k=2 then decide (m=0)&&(decide (n=0)||decide (n=1))
 else if k=7 then true
 else if k=5\/k=9\/k=10\/k=12\/k=13 then decide (m=1)
 else (decide (k=6)||decide (14<=k)&&decide (k<=24))&&decide (m=2)
def qS(ks:List E):T3:=match ks with|e::_=>e.ty | []=>T0
def B0(ks:List E):T3:=match ks with|_::e::_=>e.ty|_=>T0
def pT(k n:Int):Int:=if k=1\/k=2 then n else 0
def kG(k:Int)(nm:List UInt8):List UInt8:=if k=4\/k=5\/k=7 then nm else []
def kH(k:Int)(on:List UInt8):List UInt8:=if k=3\/k=8\/k=9 then on else []
def kI(k:Int)(od:Int):Int:=if k=3\/k=8\/k=9 then od else 0
def Cp(b:Bool)(t:T3):Option (T3×Int):=if b then some (t,0) else none
def wE(H:Hd)(t:T3)(nm:List UInt8):Option (T3×Int):=if t.b=3/\t.d=0 then match H.bK[t.r.toNat]? with
  |some s=>match eJ nm 0 s.2 with
   |some (i,u)=>some (u,(i:Int))|none=>none
  |none=>none
 else none
def oD(H:Hd)(nm:List UInt8)(ks:List E):Option (T3×Int):=match mH nm 0 H.sigs with
 |some (i,s)=>if ji s.ps ks then some (s.bz,(i:Int)) else none
 |none=>none
def Fv(k:Int)(a b:T3):Option (T3×Int):=
 if k=14\/k=15\/k=16\/k=17\/k=18 then Cp (decide (a=tI)&&decide (b=tI)) tI
 else if k=19\/k=20 then Cp (decide (a=tI)&&decide (b=tI)) tB
 else if k=21\/k=22 then Cp (decide (a=b)) tB
 else Cp (decide (a=tB)&&decide (b=tB)) tB
def lV(H:Hd)(V:List Vd)(k:Int)(nm on:List UInt8)(od:Int)(ks:List E):Option (T3×Int):=
 if k=1\/k=11 then some (tI,0)
 else if k=2 then some (tB,0)
 else if k=3 then Cp ((bZ H.rs on od).2&&nK (bZ H.rs on od).1) (bZ H.rs on od).1
 else if k=4 then rZ H V nm
 else if k=5 then wE H (qS ks) nm
 else if k=6 then Cp (decide (0<(qS ks).d)&&decide (B0 ks=tI)) ⟨(qS ks).b,(qS ks).r,(qS ks).d-1⟩
 else if k=7 then oD H nm ks
 else if k=8 then Cp ((bZ H.rs on od).2&&decide ((bZ H.rs on od).1.b=3)&&decide ((bZ H.rs on od).1.d=0)) (bZ H.rs on od).1
 else if k=9 then Cp ((bZ H.rs on od).2&&decide ((bZ H.rs on od).1.d<3)&&decide (qS ks=tI)) ⟨(bZ H.rs on od).1.b,(bZ H.rs on od).1.r,(bZ H.rs on od).1.d+1⟩
 else if k=10 then Cp (decide (0<(qS ks).d)) tI
 else if k=12 then Cp (decide (qS ks=tI)) tI
 else if k=13 then Cp (decide (qS ks=tB)) tB
 else Fv k (qS ks) (B0 ks)
mutual
def xE(H:Hd)(V:List Vd):E->Except Int E
 |.mk k n nm on od aC a _ _=>if gq k n aC.length then
   match kN H V aC with
   |.error x=>.error x|.ok ks=>match lV H V k nm on od ks with
    |none=>.error a|some (t,r)=>.ok (.mk k (pT k n) (kG k nm) (kH k on) (kI k od) ks a t r)
  else .error a
def kN(H:Hd)(V:List Vd):List E->Except Int (List E)
 |[]=>.ok []|e::l=>match xE H V e with
  |.error x=>.error x|.ok y=>if y.ty=T0 then .error y.a else match kN H V l with
   |.error x=>.error x|.ok ys=>.ok (y::ys)
end
def cJ(bP:Bool)(k:Int)(es:List E):Bool:=
 if k=1 then decide (es.length=0)
 else if k=4 then match es with | [e,_]=>decide (e.k=5)||decide (e.k=6)|_=>false
 else if k=7 then decide (es.length=1)&&bP||decide (es.length=0) && !bP
 else if k=9 then match es with | [e]=>decide (e.k=7)|_=>false
 else if k=2\/k=3\/k=5\/k=6\/k=8 then decide (es.length=1)
 else false
def j6(H:Hd)(bz:T3)(V:List Vd)(k:Int)(nm:List UInt8)(es:List E)(t:T3):Option (Int×List Vd):=
 if k=1 then (match eJ nm 0 V with|some _=>none|none=>some ((V.length:Int),V++[⟨nm,t⟩]))
 else if k=2 then (if qS es=t then match eJ nm 0 V with|some _=>none|none=>some ((V.length:Int),V++[⟨nm,t⟩]) else none)
 else if k=3 then (match rZ H V nm with|some (u,r)=>if u=qS es then some (r,V) else none|none=>none)
 else if k=4 then (if qS es=B0 es then some (0,V) else none)
 else if k=5\/k=6 then (if qS es=tB then some (0,V) else none)
 else if k=7 then (if es.length=0\/qS es=bz then some (0,V) else none)
 else if k=8 then (if qS es=tI then some (0,V) else none)
 else some (0,V)
def kT(H:Hd)(k:Int)(on:List UInt8)(od:Int):Option T3:=if k=1\/k=2 then (if (bZ H.rs on od).2 then some (bZ H.rs on od).1 else none) else some T0
def tg(H:Hd)(V:List Vd)(k:Int)(es:List E):Except Int (List E):=if k=9 then match es with
  |e::_=>match xE H V e with
   |.error x=>.error x|.ok y=>.ok [y]
  |[]=>.ok []
 else kN H V es
def cw(k:Int)(nm:List UInt8):List UInt8:=if k=1\/k=2\/k=3 then nm else []
def bH(k:Int)(on:List UInt8):List UInt8:=if k=1\/k=2 then on else []
def bJ(k:Int)(od:Int):Int:=if k=1\/k=2 then od else 0
mutual
def xW(H:Hd)(bP:Bool)(bz:T3):List Vd->Sm->Except Int (Sm×List Vd)
 |V,.mk k nm on od es bd el a _=>if cJ bP k es then
   match kT H k on od with
   |none=>.error a|some t=>match tg H V k es with
    |.error x=>.error x|.ok ys=>match j6 H bz V k nm ys t with
     |none=>.error a|some (r,W)=>if k=5 then
       match kj H bP bz W bd with
       |.error x=>.error x|.ok (b,W1)=>match kj H bP bz W1 el with
        |.error x=>.error x|.ok (c,W2)=>.ok (.mk k (cw k nm) (bH k on) (bJ k od) ys b c a r,W2)
      else if k=6 then
       match kj H bP bz W bd with
       |.error x=>.error x|.ok (b,W1)=>.ok (.mk k (cw k nm) (bH k on) (bJ k od) ys b [] a r,W1)
      else .ok (.mk k (cw k nm) (bH k on) (bJ k od) ys [] [] a r,W)
  else .error a
def kj(H:Hd)(bP:Bool)(bz:T3):List Vd->List Sm->Except Int (List Sm×List Vd)
 |V,[]=>.ok ([],V)|V,s::l=>match xW H bP bz V s with
  |.error x=>.error x|.ok (y,W)=>match kj H bP bz W l with
   |.error x=>.error x|.ok (ys,X)=>.ok (y::ys,X)
end
structure Bd where
 vars:List Vd
 code:List Sm
 a:Int
def qk(H:Hd):List Sg->List Fc->Except Int (List Bd)
 |s::ss,f::fs=>match kj H s.bP s.bz s.ps f.body with
  |.error x=>.error x|.ok (c,W)=>match qk H ss fs with
   |.error x=>.error x|.ok l=>.ok (⟨W,c,f.a⟩::l)
 |_,_=>.ok []
def Vd.row(f:Vd):List AV:=.str f.nm::f.ty.cells
def br(l:List Vd):AV:=aA 4 (l.map Vd.row)
def Sg.row(s:Sg):List AV:=[.str s.nm,br s.ps,.bool s.bP,.int .i64 s.bz.b,.int .i64 s.bz.r,.int .i64 s.bz.d]
def dx(s:List UInt8×List Vd):List AV:=[.str s.1,br s.2]
def Bd.row(b:Bd):List AV:=[br b.vars,aT b.code,.int .i64 b.a]
end ke
namespace ke
open Ax Go V7 jG
theorem E.yx{P:E->Prop}(h:∀e,(∀x∈e.aC,P x)->P e)(e:E):P e:=h e λx _=>E.yx h x
termination_by sizeOf e
decreasing_by
 have hx:x∈e.aC:=by assumption
 cases e;simp only[E.aC]at hx;have:=List.sizeOf_lt_of_mem hx;simp only[E.mk.sizeOf_spec];omega
theorem Sm.yx{P:Sm->Prop}(h:∀s,(∀x∈s.bd,P x)->(∀x∈s.el,P x)->P s)(s:Sm):P s:=h s (λx _=>Sm.yx h x) λx _=>Sm.yx h x
termination_by sizeOf s
decreasing_by
 all_goals
  rename_i hx;cases s;simp only[Sm.bd,Sm.el]at hx;have:=List.sizeOf_lt_of_mem hx;simp only[Sm.mk.sizeOf_spec];omega
mutual
def E.sz:E->Nat
 |.mk _ _ _ _ _ aC _ _ _=>1+E.cR aC
def E.cR:List E->Nat
 |[]=>0|e::l=>E.sz e+E.cR l
end
theorem E.Lw(e:E):0<E.sz e:=by cases e;simp only[E.sz];omega
theorem E.dG:∀l:List E,l.length<=E.cR l
 |[]=>Nat.le_refl _|e::l=>by
  have:=E.dG l;have:=E.Lw e;simp only[E.cR,List.length_cons];omega
theorem E.iA:∀{l:List E}{e:E},e∈l->E.sz e<=E.cR l
 |[],_,h=>by cases h|x::l,e,h=>by
  rcases List.mem_cons.1 h with h|h;subst h;simp only[E.cR];omega;have:=E.iA h;simp only[E.cR];omega
theorem E.mz(e:E):E.sz e=1+E.cR e.aC:=by cases e;rfl
def WT(n:Nat)(t:T3):Prop:=0<=t.d/\t.d<=3/\(t.b=3->0<=t.r/\t.r<n)
structure Hd.ok (H:Hd):Prop where
 rs:H.rs.length=H.bK.length
 bK:∀s∈H.bK,∀f∈s.2,WT H.rs.length f.ty
 globals:∀f∈H.globals,WT H.rs.length f.ty
 sigs:∀s∈H.sigs,WT H.rs.length s.bz/\∀f∈s.ps,WT H.rs.length f.ty
theorem SA{n:Nat}:WT n T0:=⟨Int.le_refl _,by decide,λh=>by cases h⟩
theorem VN{n:Nat}:WT n tI:=⟨Int.le_refl _,by decide,λh=>by cases h⟩
theorem SB{n:Nat}:WT n tB:=⟨Int.le_refl _,by decide,λh=>by cases h⟩
theorem mY(l:List (List UInt8))(s:List UInt8)(d:Int):WT l.length (bZ l s d).1:=by
 unfold bZ;split;exact SA;rename_i h;have hd:0<=d/\d<=3:=by omega
 split;exact⟨hd.1,hd.2,λh=>by cases h⟩;split;exact⟨hd.1,hd.2,λh=>by cases h⟩;split;exact SA;rename_i h;refine⟨hd.1,hd.2,λ_=>?_⟩;rcases VI l s with e|⟨k,e,hk⟩;rw[e]at h;exact absurd (by decide) h;simp only;rw[e];omega
theorem zX{s:List UInt8}:∀{l:List Vd}{i k:Nat}{t:T3},eJ s i l=some (k,t)->∃f∈l,f.ty=t
 |[],_,_,_,h=>by cases h|f::l,i,k,t,h=>by
  unfold eJ at h;split at h;cases h;exact⟨f,List.mem_cons_self,rfl⟩;obtain⟨g,h1,h2⟩:=zX h;exact⟨g,List.mem_cons_of_mem _ h1,h2⟩
theorem Gs{s:List UInt8}:∀{l:List Sg}{i k:Nat}{t:Sg},mH s i l=some (k,t)->t∈l
 |[],_,_,_,h=>by cases h|f::l,i,k,t,h=>by
  unfold mH at h;split at h;cases h;exact List.mem_cons_self;exact List.mem_cons_of_mem _ (Gs h)
theorem rK{n:Nat}{b:Bool}{t u:T3}{r:Int}(h:Cp b t=some (u,r))(ht:b=true->WT n t):WT n u:=by
 cases b with
 |false=>cases h|true=>cases h;exact ht rfl
theorem ZY{H:Hd}{V:List Vd}{s:List UInt8}{t:T3}{r:Int}(hH:H.ok)(hV:∀f∈V,WT H.rs.length f.ty)(h:rZ H V s=some (t,r)):WT H.rs.length t:=by
 unfold rZ at h;split at h;rename_i k u e;cases h;obtain⟨f,h1,h2⟩:=zX e;rw[<-h2];exact hV f h1;split at h;rename_i k u e;cases h;obtain⟨f,h1,h2⟩:=zX e;rw[<-h2];exact hH.globals f h1;cases h
theorem ZZ{H:Hd}{V:List Vd}{k:Int}{nm on:List UInt8}{od:Int}{ks:List E}{t:T3}{r:Int}(hH:H.ok)(hV:∀f∈V,WT H.rs.length f.ty)(hk:∀e∈ks,WT H.rs.length e.ty)(h:lV H V k nm on od ks=some (t,r)):WT H.rs.length t:=by
 have h1:WT H.rs.length (qS ks):=by
  unfold qS;split;exact hk _ List.mem_cons_self;exact SA
 have hty:=mY H.rs on od;unfold lV at h;by_cases c1:k=1\/k=11;rw[if_pos c1]at h;cases h;exact VN;rw[if_neg c1]at h;by_cases c2:k=2;rw[if_pos c2]at h;cases h;exact SB;rw[if_neg c2]at h;by_cases c3:k=3;rw[if_pos c3]at h;exact rK h λ_=>hty;rw[if_neg c3]at h;by_cases c4:k=4;rw[if_pos c4]at h;exact ZY hH hV h;rw[if_neg c4]at h;by_cases c5:k=5;rw[if_pos c5]at h;unfold wE at h;split at h;split at h;rename_i s hs;split at h;rename_i i u e;cases h;obtain⟨f,h2,h3⟩:=zX e;rw[<-h3];exact hH.bK _ (List.mem_of_getElem? hs) f h2;cases h;cases h;cases h;rw[if_neg c5]at h;by_cases c6:k=6;rw[if_pos c6]at h;refine rK h λhb=>?_;simp only[Bool.and_eq_true,decide_eq_true_eq]at hb;exact⟨by simp only;omega,by have:=h1.2.1;simp only;omega,h1.2.2⟩;rw[if_neg c6]at h;by_cases c7:k=7;rw[if_pos c7]at h;unfold oD at h;split at h;rename_i i s e;split at h;cases h;exact(hH.sigs s (Gs e)).1;cases h;cases h;rw[if_neg c7]at h;by_cases c8:k=8;rw[if_pos c8]at h;exact rK h λ_=>hty;rw[if_neg c8]at h;by_cases c9:k=9;rw[if_pos c9]at h;refine rK h λhb=>?_;simp only[Bool.and_eq_true,decide_eq_true_eq]at hb;exact⟨by have:=hty.1;simp only;omega,by simp only;omega,hty.2.2⟩;rw[if_neg c9]at h;by_cases HT:k=10;rw[if_pos HT]at h;exact rK h λ_=>VN;rw[if_neg HT]at h;by_cases HU:k=12;rw[if_pos HU]at h;exact rK h λ_=>VN;rw[if_neg HU]at h;by_cases Kv:k=13;rw[if_pos Kv]at h;exact rK h λ_=>SB;rw[if_neg Kv]at h;unfold Fv at h;split at h;exact rK h λ_=>VN;split at h;exact rK h λ_=>SB;split at h;exact rK h λ_=>SB;exact rK h λ_=>SB
theorem mP{H:Hd}{V:List Vd}{e:E}{l:List E}{ys:List E}(h:kN H V (e::l)=.ok ys):∃y zs,xE H V e=.ok y/\y.ty≠T0/\kN H V l=.ok zs/\ys=y::zs:=by
 unfold kN at h;split at h;cases h;rename_i y hy;split at h;cases h;rename_i ht;split at h;cases h;rename_i zs hz;cases h;exact⟨y,zs,hy,ht,hz,rfl⟩
theorem qE{H:Hd}{V:List Vd}{P:E->Prop}:∀{l ys:List E},kN H V l=.ok ys->(∀e∈l,∀y,xE H V e=.ok y->P y)->∀y∈ys,P y
 |[],ys,h,_=>by
  unfold kN at h;cases h;simp
 |e::l,ys,h,hp=>by
  obtain⟨y,zs,h1,_,h2,rfl⟩:=mP h;intro z hz;rcases List.mem_cons.1 hz with e1|e1;subst e1;exact hp e List.mem_cons_self _ h1;exact qE h2 (λe he=>hp e (List.mem_cons_of_mem _ he)) z e1
theorem yU{H:Hd}{V:List Vd}{e y:E}(h:xE H V e=.ok y):∃ks t r,gq e.k e.n e.aC.length=true/\kN H V e.aC=.ok ks/\lV H V e.k e.nm e.on e.od ks=some (t,r)/\y=.mk e.k (pT e.k e.n) (kG e.k e.nm) (kH e.k e.on) (kI e.k e.od) ks e.a t r:=by
 obtain⟨k,n,nm,on,od,aC,a,ty,cH⟩:=e;unfold xE at h;split at h;rename_i hk;split at h;cases h;rename_i ks nk;split at h;cases h;rename_i t r ht;cases h;exact⟨ks,t,r,hk,nk,ht,rfl⟩;cases h
theorem SD{H:Hd}{V:List Vd}(hH:H.ok)(hV:∀f∈V,WT H.rs.length f.ty)(e:E):∀y,xE H V e=.ok y->WT H.rs.length y.ty:=by
 induction e using E.yx with
 |_ e ih=>
  intro y h;obtain⟨ks,t,r,_,h2,h3,rfl⟩:=yU h;exact ZZ hH hV (qE h2 ih) h3
theorem nY{H:Hd}{V:List Vd}:∀{l ys:List E},kN H V l=.ok ys->ys.length=l.length
 |[],ys,h=>by unfold kN at h;cases h;rfl|e::l,ys,h=>by
  obtain⟨y,zs,_,_,h2,rfl⟩:=mP h;simp[nY h2]
theorem Lx{k n:Int}{m:Nat}(h:gq k n m=true):gq k (pT k n) m=true:=by
 unfold gq pT at *;split;rename_i c;rw[if_pos c]at h;exact h;rename_i c;rw[if_neg c]at h;split;rename_i c2;rw[if_pos c2]at h;rw[if_pos (.inr c2)];exact h;rename_i c2;rw[if_neg c2]at h;exact h
theorem SE{H:Hd}{V:List Vd}{k:Int}{nm on:List UInt8}{od:Int}{ks:List E}:lV H V k (kG k nm) (kH k on) (kI k od) ks=lV H V k nm on od ks:=by
 unfold lV;by_cases c3:k=3;simp[kH,kI,c3];by_cases c4:k=4;simp[kG,c4];by_cases c5:k=5;simp[kG,c5];by_cases c7:k=7;simp[kG,c7];by_cases c8:k=8;simp[kH,kI,c8];by_cases c9:k=9;simp[kH,kI,c9];simp only[if_neg c3,if_neg c4,if_neg c5,if_neg c7,if_neg c8,if_neg c9]
end ke
namespace ke
open Ax Go V7 jG
mutual
def Sm.sz:Sm->Nat
 |.mk _ _ _ _ es bd el _ _=>1+E.cR es+Sm.cR bd+Sm.cR el
def Sm.cR:List Sm->Nat
 |[]=>0|s::l=>Sm.sz s+Sm.cR l
end
theorem Sm.Lw(s:Sm):0<Sm.sz s:=by cases s;simp only[Sm.sz];omega
theorem Sm.dG:∀l:List Sm,l.length<=Sm.cR l
 |[]=>Nat.le_refl _|e::l=>by
  have:=Sm.dG l;have:=Sm.Lw e;simp only[Sm.cR,List.length_cons];omega
theorem Sm.iA:∀{l:List Sm}{e:Sm},e∈l->Sm.sz e<=Sm.cR l
 |[],_,h=>by cases h|x::l,e,h=>by
  rcases List.mem_cons.1 h with h|h;subst h;simp only[Sm.cR];omega;have:=Sm.iA h;simp only[Sm.cR];omega
theorem Sm.jM(s:Sm):Sm.sz s=1+E.cR s.es+Sm.cR s.bd+Sm.cR s.el:=by cases s;rfl
theorem Z0(H:Hd)(bP:Bool)(bz:T3)(V:List Vd)(k:Int)(nm on:List UInt8)(od:Int)(es:List E)(bd el:List Sm)(a cH:Int):xW H bP bz V (.mk k nm on od es bd el a cH)=if cJ bP k es then
   match kT H k on od with
   |none=>.error a|some t=>match tg H V k es with
    |.error x=>.error x|.ok ys=>match j6 H bz V k nm ys t with
     |none=>.error a|some (r,W)=>if k=5 then
       match kj H bP bz W bd with
       |.error x=>.error x|.ok (b,W1)=>match kj H bP bz W1 el with
        |.error x=>.error x|.ok (c,W2)=>.ok (.mk k (cw k nm) (bH k on) (bJ k od) ys b c a r,W2)
      else if k=6 then
       match kj H bP bz W bd with
       |.error x=>.error x|.ok (b,W1)=>.ok (.mk k (cw k nm) (bH k on) (bJ k od) ys b [] a r,W1)
      else .ok (.mk k (cw k nm) (bH k on) (bJ k od) ys [] [] a r,W)
  else .error a:=by
 (conv=>lhs;unfold xW)<;>rfl
theorem nq(H:Hd)(bP:Bool)(bz:T3)(V:List Vd)(s:Sm):xW H bP bz V s=if cJ bP s.k s.es then
   match kT H s.k s.on s.od with
   |none=>.error s.a|some t=>match tg H V s.k s.es with
    |.error x=>.error x|.ok ys=>match j6 H bz V s.k s.nm ys t with
     |none=>.error s.a|some (r,W)=>if s.k=5 then
       match kj H bP bz W s.bd with
       |.error x=>.error x|.ok (b,W1)=>match kj H bP bz W1 s.el with
        |.error x=>.error x|.ok (c,W2)=>.ok (.mk s.k (cw s.k s.nm) (bH s.k s.on) (bJ s.k s.od) ys b c s.a r,W2)
      else if s.k=6 then
       match kj H bP bz W s.bd with
       |.error x=>.error x|.ok (b,W1)=>.ok (.mk s.k (cw s.k s.nm) (bH s.k s.on) (bJ s.k s.od) ys b [] s.a r,W1)
      else .ok (.mk s.k (cw s.k s.nm) (bH s.k s.on) (bJ s.k s.od) ys [] [] s.a r,W)
  else .error s.a:=by
 obtain⟨k,nm,on,od,es,bd,el,a,cH⟩:=s;exact Z0 H bP bz V k nm on od es bd el a cH
theorem Eg{H:Hd}{bP:Bool}{bz:T3}{V X:List Vd}{s y:Sm}(h:xW H bP bz V s=.ok (y,X)):∃t ys r W,cJ bP s.k s.es=true/\kT H s.k s.on s.od=some t/\tg H V s.k s.es=.ok ys/\j6 H bz V s.k s.nm ys t=some (r,W)/\
  (s.k=5/\(∃b W1 c,kj H bP bz W s.bd=.ok (b,W1)/\kj H bP bz W1 s.el=.ok (c,X)/\y=.mk s.k (cw s.k s.nm) (bH s.k s.on) (bJ s.k s.od) ys b c s.a r)\/
   s.k=6/\(∃b,kj H bP bz W s.bd=.ok (b,X)/\y=.mk s.k (cw s.k s.nm) (bH s.k s.on) (bJ s.k s.od) ys b [] s.a r)\/
   s.k≠5/\s.k≠6/\X=W/\y=.mk s.k (cw s.k s.nm) (bH s.k s.on) (bJ s.k s.od) ys [] [] s.a r):=by
 rw[nq]at h;split at h;rename_i hf;split at h;cases h;rename_i t ht;split at h;cases h;rename_i ys rL;split at h;cases h;rename_i r W cL;refine⟨t,ys,r,W,hf,ht,rL,cL,?_⟩;split at h;rename_i h5;split at h;cases h;rename_i b W1 hb;split at h;cases h;rename_i c W2 hc;cases h;exact .inl ⟨h5,b,W1,c,hb,hc,rfl⟩;rename_i h5;split at h;rename_i h6;split at h;cases h;rename_i b W1 hb;cases h;exact .inr (.inl ⟨h6,b,hb,rfl⟩);rename_i h6;cases h;exact .inr (.inr ⟨h5,h6,rfl,rfl⟩);cases h
theorem wF{H:Hd}{bP:Bool}{bz:T3}{V X:List Vd}{s:Sm}{l:List Sm}{zs:List Sm}(h:kj H bP bz V (s::l)=.ok (zs,X)):∃y W ys,xW H bP bz V s=.ok (y,W)/\kj H bP bz W l=.ok (ys,X)/\zs=y::ys:=by
 unfold kj at h;split at h;cases h;rename_i y W hy;split at h;cases h;rename_i ys X' hz;cases h;exact⟨y,W,ys,hy,hz,rfl⟩
theorem JL{H:Hd}{bz:T3}{V W:List Vd}{k:Int}{nm:List UInt8}{es:List E}{t:T3}{r:Int}(h:j6 H bz V k nm es t=some (r,W)):W=V\/(k=1\/k=2)/\W=V++[⟨nm,t⟩]:=by
 unfold j6 at h;split at h;rename_i c;split at h;cases h;cases h;exact .inr ⟨.inl c,rfl⟩;split at h;rename_i c;split at h;split at h;cases h;cases h;exact .inr ⟨.inr c,rfl⟩;cases h;all_goals left
 split at h;split at h;split at h<;>cases h;rfl;cases h;split at h;split at h<;>cases h;rfl;split at h;split at h<;>cases h;rfl;split at h;split at h<;>cases h;rfl;split at h;split at h<;>cases h;rfl;cases h;rfl
theorem VO{H:Hd}{k:Int}{on:List UInt8}{od:Int}{t:T3}(h:kT H k on od=some t):WT H.rs.length t:=by
 unfold kT at h;split at h;split at h<;>cases h;exact mY _ _ _;cases h;exact SA
theorem zY{H:Hd}{bP:Bool}{bz:T3}:∀{l ys:List Sm}{V X:List Vd},(∀s∈l,∀V y W,(∀f∈V,WT H.rs.length f.ty)->xW H bP bz V s=.ok (y,W)->(∀f∈W,WT H.rs.length f.ty)/\W.length<=V.length+Sm.sz s)->
  (∀f∈V,WT H.rs.length f.ty)->kj H bP bz V l=.ok (ys,X)->(∀f∈X,WT H.rs.length f.ty)/\X.length<=V.length+Sm.cR l
 |[],ys,V,X,_,hV,h=>by unfold kj at h;cases h;exact⟨hV,by simp[Sm.cR]⟩|s::l,ys,V,X,hp,hV,h=>by
  obtain⟨y,W,zs,h1,h2,rfl⟩:=wF h;obtain⟨a1,a2⟩:=hp s List.mem_cons_self V y W hV h1;obtain⟨b1,b2⟩:=zY (λs hs=>hp s (List.mem_cons_of_mem _ hs)) a1 h2;exact⟨b1,by simp only[Sm.cR];omega⟩
theorem Eh{H:Hd}{bP:Bool}{bz:T3}(s:Sm):∀V y W,(∀f∈V,WT H.rs.length f.ty)->xW H bP bz V s=.ok (y,W)->(∀f∈W,WT H.rs.length f.ty)/\W.length<=V.length+Sm.sz s:=by
 induction s using Sm.yx with
 |_ s sY k8=>
  intro V y X hV h;obtain⟨t,ys,r,W,hf,ht,rL,cL,hh⟩:=Eg h;have hW:(∀f∈W,WT H.rs.length f.ty)/\W.length<=V.length+1:=by
   rcases JL cL with e|⟨_,e⟩;subst e;exact⟨hV,by omega⟩;subst e;refine⟨λf hf=>?_,by simp⟩;rcases List.mem_append.1 hf with h|h;exact hV f h;rw[List.mem_singleton.1 h];exact VO ht
  have hz:=Sm.jM s;rcases hh with⟨_,b,W1,c,hb,hc,_⟩|⟨_,b,hb,_⟩|⟨_,_,rfl,_⟩;obtain⟨a1,a2⟩:=zY sY hW.1 hb;obtain⟨b1,b2⟩:=zY k8 a1 hc;exact⟨b1,by omega⟩;obtain⟨a1,a2⟩:=zY sY hW.1 hb;exact⟨a1,by omega⟩;exact⟨hW.1,by omega⟩
theorem Ly{H:Hd}{bP:Bool}{bz:T3}{l ys:List Sm}{V X:List Vd}(hV:∀f∈V,WT H.rs.length f.ty)(h:kj H bP bz V l=.ok (ys,X)):(∀f∈X,WT H.rs.length f.ty)/\X.length<=V.length+Sm.cR l:=
 zY (λs _=>Eh s) hV h
theorem Nk{H:Hd}{V:List Vd}{e y:E}(h:xE H V e=.ok y):y.k=e.k:=by
 obtain⟨ks,t,r,_,_,_,rfl⟩:=yU h;rfl
theorem nZ{H:Hd}{V:List Vd}{bP:Bool}{k:Int}{l ys:List E}(h:kN H V l=.ok ys)(hf:cJ bP k l=true):cJ bP k ys=true:=by
 have hl:=nY h;unfold cJ at hf ⊢;rw[hl];match l,hl,hf,h with
 |[],hl,hf,_=>rw[List.length_nil]at hl;rw[List.eq_nil_of_length_eq_zero hl];exact hf|[e],hl,hf,h=>
  obtain⟨y,zs,h1,_,h2,rfl⟩:=mP h;unfold kN at h2;cases h2;simpa [Nk h1] using hf
 |[e,e2],hl,hf,h=>
  obtain⟨y,zs,h1,_,h2,rfl⟩:=mP h;obtain⟨y2,zs2,h3,_,h4,rfl⟩:=mP h2;unfold kN at h4;cases h4;simpa [Nk h1] using hf
 |e::e2::e3::l,hl,hf,h=>
  obtain⟨y,zs,h1,_,h2,rfl⟩:=mP h;obtain⟨y2,zs2,h3,_,h4,rfl⟩:=mP h2;obtain⟨y3,zs3,h5,_,h6,rfl⟩:=mP h4;simp at hf
theorem sZ{H:Hd}{V:List Vd}{k:Int}{es:List E}(h:k≠9):tg H V k es=kN H V es:=by unfold tg;rw[if_neg h]
theorem SF{H:Hd}{V:List Vd}{e:E}:tg H V 9 [e]=match xE H V e with|.error x=>.error x|.ok y=>.ok [y]:=by unfold tg;rfl
theorem Lz{bP:Bool}{es:List E}(h:cJ bP 9 es=true):∃e,es=[e]/\e.k=7:=by
 unfold cJ at h;match es,h with
 |[],h=>cases h|[e],h=>exact⟨e,rfl,by simpa using h⟩|_::_::_,h=>cases h
theorem SG{H:Hd}{V:List Vd}{bP:Bool}{k:Int}{l ys:List E}(h:tg H V k l=.ok ys)(hf:cJ bP k l=true):cJ bP k ys=true:=by
 by_cases h9:k=9;subst h9;obtain⟨e,rfl,he⟩:=Lz hf;rw[SF]at h;split at h;cases h;rename_i y hy;cases h;unfold cJ;simpa [Nk hy] using he;rw[sZ h9]at h;exact nZ h hf
theorem n6{H:Hd}{bz:T3}{V:List Vd}{k:Int}{nm:List UInt8}{es:List E}{t:T3}:j6 H bz V k (cw k nm) es t=j6 H bz V k nm es t:=by
 unfold j6;by_cases h1:k=1;simp[cw,h1];by_cases h2:k=2;simp[cw,h2];by_cases h3:k=3;simp[cw,h3];simp only[if_neg h1,if_neg h2,if_neg h3]
theorem HV{H:Hd}{V:List Vd}:∀{l ys:List E},(∀e∈l,∀y,xE H V e=.ok y->E.sz y=E.sz e)->kN H V l=.ok ys->E.cR ys=E.cR l
 |[],ys,_,h=>by unfold kN at h;cases h;rfl|e::l,ys,hp,h=>by
  obtain⟨y,zs,h1,_,h2,rfl⟩:=mP h;simp only[E.cR,hp e List.mem_cons_self y h1,HV (λe he=>hp e (List.mem_cons_of_mem _ he)) h2]
theorem SH{H:Hd}{V:List Vd}(e:E):∀y,xE H V e=.ok y->E.sz y=E.sz e:=by
 induction e using E.yx with
 |_ e ih=>
  intro y h;obtain⟨ks,t,r,_,h2,_,rfl⟩:=yU h;rw[E.mz e];simp only[E.sz,HV ih h2]
theorem Z1{H:Hd}{V:List Vd}{l ys:List E}(h:kN H V l=.ok ys):E.cR ys=E.cR l:=HV (λe _=>SH e) h
theorem Z2{H:Hd}{V:List Vd}{bP:Bool}{k:Int}{l ys:List E}(h:tg H V k l=.ok ys)(hf:cJ bP k l=true):E.cR ys=E.cR l:=by
 by_cases h9:k=9;subst h9;obtain⟨e,rfl,he⟩:=Lz hf;rw[SF]at h;split at h;cases h;rename_i y hy;cases h;simp only[E.cR,SH e y hy];rw[sZ h9]at h;exact Z1 h
theorem zZ{H:Hd}{bP:Bool}{bz:T3}:∀{l ys:List Sm}{V X:List Vd},(∀s∈l,∀V y W,xW H bP bz V s=.ok (y,W)->Sm.sz y<=Sm.sz s)->kj H bP bz V l=.ok (ys,X)->Sm.cR ys<=Sm.cR l
 |[],ys,V,X,_,h=>by unfold kj at h;cases h;exact Nat.le_refl _|s::l,ys,V,X,hp,h=>by
  obtain⟨y,W,zs,h1,h2,rfl⟩:=wF h;have a:=hp s List.mem_cons_self V y W h1;have b:=zZ (λs hs=>hp s (List.mem_cons_of_mem _ hs)) h2;simp only[Sm.cR];omega
theorem Z3{H:Hd}{bP:Bool}{bz:T3}(s:Sm):∀V y W,xW H bP bz V s=.ok (y,W)->Sm.sz y<=Sm.sz s:=by
 induction s using Sm.yx with
 |_ s sY k8=>
  intro V y X h;obtain⟨t,ys,r,W,hf,ht,rL,cL,hh⟩:=Eg h;have e:=Z2 rL hf;have hz:=Sm.jM s;rcases hh with⟨h5,b,W1,c,hb,hc,rfl⟩|⟨h6,b,hb,rfl⟩|⟨h5,h6,rfl,rfl⟩;have b2:=zZ sY hb;have c2:=zZ k8 hc;simp only[Sm.sz];omega;have b2:=zZ sY hb;simp only[Sm.sz,Sm.cR];omega;simp only[Sm.sz,Sm.cR];omega
theorem Z4{H:Hd}{bP:Bool}{bz:T3}{l ys:List Sm}{V X:List Vd}(h:kj H bP bz V l=.ok (ys,X)):Sm.cR ys<=Sm.cR l:=zZ (λs _=>Z3 s) h
theorem sE{H:Hd}:∀{ss:List Sg}{fs:List Fc}{bs:List Bd},ss.length=fs.length->qk H ss fs=.ok bs->bs.length=fs.length
 |[],[],bs,_,h=>by unfold qk at h;cases h;rfl|s::ss,f::fs,bs,hl,h=>by
  unfold qk at h;split at h;cases h;split at h;cases h;rename_i l IV;cases h;simp[sE (by simpa using hl) IV]
 |[],_::_,_,hl,_=>by cases hl|_::_,[],_,hl,_=>by cases hl
theorem Gt{H:Hd}{n:Nat}:∀{ss:List Sg}{fs:List Fc}{bs:List Bd},qk H ss fs=.ok bs->(∀f∈fs,Sm.cR f.body<=n)->∀b∈bs,Sm.cR b.code<=n
 |[],fs,bs,h,_=>by unfold qk at h;cases h;simp|_::_,[],bs,h,_=>by unfold qk at h;cases h;simp|s::ss,f::fs,bs,h,hp=>by
  unfold qk at h;split at h;cases h;rename_i c W hc;split at h;cases h;rename_i l IV;cases h;intro b hb;rcases List.mem_cons.1 hb with e|e;subst e;have:=Z4 hc;have:=hp f List.mem_cons_self;simp only;omega;exact Gt IV (λf hf=>hp f (List.mem_cons_of_mem _ hf)) b e
theorem JM{H:Hd}(hH:H.ok){n:Nat}:∀{ss:List Sg}{fs:List Fc}{bs:List Bd},qk H ss fs=.ok bs->(∀s∈ss,∀f∈s.ps,WT H.rs.length f.ty)->(∀s∈ss,s.ps.length<=n)->(∀f∈fs,Sm.cR f.body<=n)->∀b∈bs,b.vars.length<=n+n
 |[],fs,bs,h,_,_,_=>by unfold qk at h;cases h;simp|_::_,[],bs,h,_,_,_=>by unfold qk at h;cases h;simp|s::ss,f::fs,bs,h,hs,hp,hq=>by
  unfold qk at h;split at h;cases h;rename_i c W hc;split at h;cases h;rename_i l IV;cases h;intro b hb;rcases List.mem_cons.1 hb with e|e;subst e;have:=(Ly (hs s List.mem_cons_self) hc).2;have:=hp s List.mem_cons_self;have:=hq f List.mem_cons_self;simp only;omega;exact JM hH IV (λs h=>hs s (List.mem_cons_of_mem _ h)) (λs h=>hp s (List.mem_cons_of_mem _ h)) (λf h=>hq f (List.mem_cons_of_mem _ h)) b e
end ke
namespace ke
open Ax Go V7 jG
theorem Ba{k n:Int}{nm on:List UInt8}{od:Int}{ks:List E}{a:Int}:E.sz (Em k n nm on od ks a)=1+E.cR ks:=rfl
theorem qF:E.cR []=0:=rfl
theorem lz{e:E}:E.cR [e]=E.sz e:=by simp[E.cR]
theorem HW{e f:E}:E.cR [e,f]=E.sz e+E.sz f:=by simp[E.cR]
theorem Nl:∀l r:List E,E.cR (l++r)=E.cR l+E.cR r
 |[],r=>by simp[E.cR]|e::l,r=>by
  have:=Nl l r;simp only[List.cons_append,E.cR];omega
theorem Nm:∀l r:List Sm,Sm.cR (l++r)=Sm.cR l+Sm.cR r
 |[],r=>by simp[Sm.cR]|e::l,r=>by
  have:=Nm l r;simp only[List.cons_append,Sm.cR];omega
theorem n7:Sm.cR []=0:=rfl
theorem VP{e:Sm}:Sm.cR [e]=Sm.sz e:=by simp[Sm.cR]
theorem Ei{k:Int}{nm on:List UInt8}{od:Int}{es:List E}{bd el:List Sm}{a cH:Int}:Sm.sz (.mk k nm on od es bd el a cH)=1+E.cR es+Sm.cR bd+Sm.cR el:=rfl
theorem jo{q:RQ}:(cg q).at_=q.at_+1:=rfl
theorem VQ{q:RQ}{d:Int}:(wz q d).at_=q.at_:=rfl
theorem VR{q:RQ}{d:Int}:(wz q d).fe=q.fe:=rfl
theorem qG{T:List Tk}{q r:RQ}(w:uI T q r)(f:r.fe=0):q.at_+1<=r.at_:=by
 rcases w with w|⟨_,w⟩;exact absurd f w;exact w
theorem JN(T:List Tk):∀f:Nat,(∀n q e r,js T f n q=some (e,r)->r.fe=0->E.sz e+q.at_<=r.at_)/\(∀n a q e r,oS T f n a q=some (e,r)->r.fe=0->E.sz e+q.at_<=r.at_+E.sz a)/\
  (∀q e r,qa T f q=some (e,r)->r.fe=0->E.sz e+q.at_<=r.at_)/\(∀a q e r,kE T f a q=some (e,r)->r.fe=0->E.sz e+q.at_<=r.at_+E.sz a)/\(∀q e r,nV T f q=some (e,r)->r.fe=0->E.sz e+q.at_<=r.at_)/\
  (∀q e r,qb T f q=some (e,r)->r.fe=0->E.sz e+q.at_<=r.at_)/\(∀a q e r,qc T f a q=some (e,r)->r.fe=0->E.sz e+q.at_<=r.at_)/\(∀q e r,uX T f q=some (e,r)->r.fe=0->E.cR e+q.at_<=r.at_)/\
  (∀l q e r,tH T f l q=some (e,r)->r.fe=0->E.cR e+q.at_<=r.at_+E.cR l)
 |0=>by simp[js,oS,qa,kE,nV,qb,qc,uX,tH]|f+1=>by
  obtain⟨hE,hS,hU,hB,hI,hF,hN,hA,hM⟩:=JN T f;obtain⟨gE,gS,gU,gB,gI,gF,gN,gA,gM⟩:=zW T f;refine⟨λn q e r h fr=>?_,λn a q e r h fr=>?_,λq e r h fr=>?_,λa q e r h fr=>?_,λq e r h fr=>?_,λq e r h fr=>?_,λa q e r h fr=>?_,λq e r h fr=>?_,λl q e r h fr=>?_⟩;unfold js at h;split at h;exact hU _ _ _ h fr;obtain⟨⟨x1,x2⟩,h1,h2⟩:=Option.bind_eq_some_iff.1 h;have f2:=(gS _ _ _ _ _ h2).BU fr;have:=hE _ _ _ _ h1 f2;have:=hS _ _ _ _ _ h2 fr
  (try dsimp only at *);omega
  unfold oS at h;split at h;rename_i c;obtain⟨⟨x1,x2⟩,h1,h2⟩:=Option.bind_eq_some_iff.1 h;have f2:=(gS _ _ _ _ _ h2).BU fr;have a1:=hE _ _ _ _ h1 f2;have a2:=hS _ _ _ _ _ h2 fr;rw[Ba,HW]at a2;rw[jo]at a1
  (try dsimp only at *);omega
  cases h;omega;unfold qa at h;split at h;obtain⟨⟨x1,x2⟩,h1,h2⟩:=Option.bind_eq_some_iff.1 h;cases h2;rw[VR]at fr;have a1:=hE _ _ _ _ h1 fr;have a2:=qG kF ((gE _ _ _ _ h1).BU fr);rw[Ba,lz,VQ]
  (try dsimp only at *);omega
  obtain⟨⟨x1,x2⟩,h1,h2⟩:=Option.bind_eq_some_iff.1 h;have f2:=(gB _ _ _ _ h2).BU fr;have:=hF _ _ _ h1 f2;have:=hB _ _ _ _ h2 fr
  (try dsimp only at *);omega
  unfold kE at h;split at h;rename_i c;have a1:=hB _ _ _ _ h fr;rw[Ba,lz]at a1;have a2:=(iG (T:=T) (q:=cg q)).le;rw[jo]at a2;omega;split at h;obtain⟨⟨x1,x2⟩,h1,h2⟩:=Option.bind_eq_some_iff.1 h;have f2:=(gB _ _ _ _ h2).BU fr;have f3:=(fh (T:=T) (q:=x2) (s:=[93])).BU f2;have a1:=hE _ _ _ _ h1 f3;have a2:=qG kF ((gE _ _ _ _ h1).BU f3);have a3:=hB _ _ _ _ h2 fr;have a4:=(fh (T:=T) (q:=x2) (s:=[93])).le;rw[Ba,HW]at a3
  (try dsimp only at *);omega
  cases h;omega;unfold nV at h;obtain⟨⟨x1,x2⟩,h1,h2⟩:=Option.bind_eq_some_iff.1 h;cases h2;have f3:=(fh (T:=T) (q:=x2) (s:=[41])).BU fr;have a1:=hE _ _ _ _ h1 f3;have a2:=qG kF ((gE _ _ _ _ h1).BU f3);have a4:=(fh (T:=T) (q:=x2) (s:=[41])).le
  (try dsimp only at *);omega
  unfold qb at h;split at h;cases h;rw[Ba,qF,jo];omega;split at h;cases h;rw[Ba,qF,jo];omega;split at h;cases h;have:=(nW (T:=T) (q:=cg q)).le;rw[jo]at this;rw[Ba,qF];omega;split at h;have:=hN _ _ _ _ h fr;rw[jo]at this;omega;split at h;obtain⟨⟨x1,x2⟩,h1,h2⟩:=Option.bind_eq_some_iff.1 h;cases h2;have a1:=hI _ _ _ h1 fr;rw[jo]at a1;rw[Ba,lz]
  (try dsimp only at *);omega
  split at h;cases h;have a1:=((fM (T:=T) (q:=cg q) (s:=[40])).trans (fh (s:=[41]))).le;rw[jo]at a1;rw[Ba,qF];omega;split at h;exact hI _ _ _ h fr;split at h;obtain⟨⟨x1,x2⟩,h1,h2⟩:=Option.bind_eq_some_iff.1 h;cases h2;have a1:=hA _ _ _ h1 fr;have a2:=qG oU ((gA _ _ _ h1).BU fr);rw[Ba]
  (try dsimp only at *);omega
  cases h;have a2:=qG oU fr;rw[Ba,qF];omega;unfold qc at h;split at h;obtain⟨⟨x1,x2⟩,h1,h2⟩:=Option.bind_eq_some_iff.1 h;cases h2;have a1:=hI _ _ _ h1 fr;have a2:=((nW (T:=T) (q:=cg q)).trans (bO (s:=[93]))).le;rw[jo]at a2;rw[Ba,lz]
  (try dsimp only at *);omega
  cases h;have a2:=qG oU fr;rw[Ba,qF];omega;unfold uX at h;split at h;cases h;have a1:=((fM (T:=T) (q:=q) (s:=[40])).trans (fh (s:=[41]))).le;rw[qF];omega;obtain⟨⟨x1,x2⟩,h1,h2⟩:=Option.bind_eq_some_iff.1 h;have f2:=(gM _ _ _ _ h2).BU fr;have a1:=hE _ _ _ _ h1 f2;have a2:=(fM (T:=T) (q:=q) (s:=[40])).le;have a3:=hM _ _ _ _ h2 fr;rw[lz]at a3
  (try dsimp only at *);omega
  unfold tH at h;split at h;obtain⟨⟨x1,x2⟩,h1,h2⟩:=Option.bind_eq_some_iff.1 h;have f2:=(gM _ _ _ _ h2).BU fr;have a1:=hE _ _ _ _ h1 f2;rw[jo]at a1;have a3:=hM _ _ _ _ h2 fr;rw[Nl,lz]at a3
  (try dsimp only at *);omega
  cases h;have a1:=(fh (T:=T) (q:=q) (s:=[41])).le;omega
theorem mA{T:List Tk}{f n:Nat}{q r:RQ}{e:E}(h:js T f n q=some (e,r))(fr:r.fe=0):E.sz e+q.at_<=r.at_:=(JN T f).1 _ _ _ _ h fr
theorem LA{T:List Tk}{f:Nat}{a:Int}{q r:RQ}{s:Sm}(h:sX T f a q=some (s,r))(fr:r.fe=0):Sm.sz s+q.at_<=r.at_:=by
 unfold sX at h;obtain⟨⟨x1,x2⟩,h1,h2⟩:=Option.bind_eq_some_iff.1 h;dsimp only at h2;split at h2;obtain⟨⟨y1,y2⟩,h3,h4⟩:=Option.bind_eq_some_iff.1 h2;cases h4;have f1:=(bO (T:=T) (q:=y2) (s:=[59])).BU fr;have w:=qG j4 fr;have a3:=mA h3 f1;have f3:=(iX h3).BU f1;have w2:=qG j4 f3;have f4:=bO.BU f3;by_cases c:x1.k=4\/x1.k=5\/x1.k=6;rw[if_pos c]at w2 f4;have a1:=mA h1 f4;rw[if_pos c]at a3;by_cases c4:x1.k=4;rw[if_pos c4,Ei,lz,n7];(try dsimp only at *);omega;rw[if_neg c4,Ei,HW,n7];(try dsimp only at *);omega;rw[if_neg c]at f4;exact absurd f4 (kR (by decide));cases h2;have f1:=(bO).BU fr;have w:=qG j4 fr;by_cases c:iD T x2 [59]=true/\x1.k≠7;rw[if_pos c]at f1;exact absurd f1 (kR (by decide));rw[if_neg c]at f1 w;have a1:=mA h1 f1;rw[Ei,lz,n7,if_neg c];(try dsimp only at *);omega
theorem Ej(T:List Tk):∀f:Nat,(∀q s r,uY T f q=some (s,r)->r.fe=0->Sm.sz s+q.at_<=r.at_)/\(∀q s r,jZ T f q=some (s,r)->r.fe=0->Sm.cR s+q.at_<=r.at_)/\
  (∀l q s r,oT T f l q=some (s,r)->r.fe=0->Sm.cR s+q.at_<=r.at_+Sm.cR l)
 |0=>by simp[uY,jZ,oT]|f+1=>by
  obtain⟨hS,hB,hL⟩:=Ej T f;obtain⟨gS,gB,gL⟩:=rH T f;refine⟨λq s r h fr=>?_,λq s r h fr=>?_,λl q s r h fr=>?_⟩;unfold uY at h;split at h;cases h;have:=((jh (T:=T) (q:=cg q)).trans (bO (s:=[59]))).le;rw[jo]at this;rw[Ei,qF,n7];omega;split at h;obtain⟨⟨x1,x2⟩,h1,h2⟩:=Option.bind_eq_some_iff.1 h;cases h2;have f1:=bO.BU fr;have a1:=mA h1 f1;have a2:=((jh (T:=T) (q:=cg q)).trans (bO (s:=[61]))).le;have a3:=(bO (T:=T) (q:=x2) (s:=[59])).le;rw[jo]at a2;rw[Ei,lz,n7];(try dsimp only at *);omega;split at h;obtain⟨⟨x1,x2⟩,h1,h2⟩:=Option.bind_eq_some_iff.1 h;obtain⟨⟨y1,y2⟩,h3,h4⟩:=Option.bind_eq_some_iff.1 h2;dsimp only at h4;split at h4;rename_i d;obtain⟨⟨z1,z2⟩,h5,h6⟩:=Option.bind_eq_some_iff.1 h4;cases h6;have f1:=(gB _ _ _ h5).1.BU fr;have f2:y2.fe=0:=f1;have f3:=(gB _ _ _ h3).1.BU f2;have a1:=mA h1 f3;have a2:=hB _ _ _ h3 f2;have a3:=hB _ _ _ h5 fr;rw[jo]at a1 a3;rw[Ei,lz];(try dsimp only at *);omega;cases h4;have f3:=(gB _ _ _ h3).1.BU fr;have a1:=mA h1 f3;have a2:=hB _ _ _ h3 fr;rw[jo]at a1;rw[Ei,lz,n7];(try dsimp only at *);omega;split at h;obtain⟨⟨x1,x2⟩,h1,h2⟩:=Option.bind_eq_some_iff.1 h;obtain⟨⟨y1,y2⟩,h3,h4⟩:=Option.bind_eq_some_iff.1 h2;cases h4;have f3:=(gB _ _ _ h3).1.BU fr;have a1:=mA h1 f3;have a2:=hB _ _ _ h3 fr;rw[jo]at a1;rw[Ei,lz,n7];(try dsimp only at *);omega;split at h;split at h;cases h;have a2:=(bO (T:=T) (q:=cg q) (s:=[59])).le;rw[jo]at a2;rw[Ei,qF,n7];omega;obtain⟨⟨x1,x2⟩,h1,h2⟩:=Option.bind_eq_some_iff.1 h;cases h2;have f1:=bO.BU fr;have a1:=mA h1 f1;have a3:=(bO (T:=T) (q:=x2) (s:=[59])).le;rw[jo]at a1;rw[Ei,lz,n7];(try dsimp only at *);omega;split at h;obtain⟨⟨x1,x2⟩,h1,h2⟩:=Option.bind_eq_some_iff.1 h;cases h2;have f1:=bO.BU fr;have a1:=mA h1 f1;have a3:=(bO (T:=T) (q:=x2) (s:=[59])).le;rw[jo]at a1;rw[Ei,lz,n7];(try dsimp only at *);omega;exact LA h fr;unfold jZ at h;have a1:=hL _ _ _ _ h fr;have a2:=(fM (T:=T) (q:=q) (s:=[123])).le;rw[n7]at a1;omega;unfold oT at h;split at h;obtain⟨⟨x1,x2⟩,h1,h2⟩:=Option.bind_eq_some_iff.1 h;have f1:=(gL _ _ _ _ h2).BU fr;have a1:=hS _ _ _ h1 f1;have a2:=hL _ _ _ _ h2 fr;rw[Nm,VP]at a2
  (try dsimp only at *);omega
  cases h;have a2:=(fh (T:=T) (q:=q) (s:=[125])).le;omega
theorem Ek{T:List Tk}{f:Nat}{q r:RQ}{s:List Sm}(h:jZ T f q=some (s,r))(fr:r.fe=0):Sm.cR s+q.at_<=r.at_:=(Ej T f).2.1 _ _ _ h fr
theorem OO{T:List Tk}{f:Nat}{q r:RQ}{s:Fc}(h:wA T f q=some (s,r))(fr:r.fe=0):Sm.cR s.body<=r.at_:=by
 unfold wA at h;obtain⟨⟨x1,x2⟩,h1,h2⟩:=Option.bind_eq_some_iff.1 h;dsimp only at h2;split at h2;obtain⟨⟨y1,y2⟩,h3,h4⟩:=Option.bind_eq_some_iff.1 h2;cases h4;have:=Ek h3 fr
 (try dsimp only at *);omega
 obtain⟨⟨y1,y2⟩,h3,h4⟩:=Option.bind_eq_some_iff.1 h2;cases h4;have:=Ek h3 fr
 (try dsimp only at *);omega
theorem oW{T:List Tk}:∀(f:Nat)(p:Pg)(q:RQ)(s:Pg)(r:RQ),pS T f p q=some (s,r)->q.at_<=T.length->(q.fe=0->∀g∈p.funcs,Sm.cR g.body<=T.length)->r.fe=0->∀g∈s.funcs,Sm.cR g.body<=T.length
 |0,_,_,_,_,h,_,_=>by simp[pS]at h|f+1,p,q,s,r,h,hq,hp=>by
  unfold pS at h;split at h;rename_i c;split at h;exact oW f _ _ _ _ h (jw.ub hq) λe=>absurd e (kR (by decide));split at h;rename_i d;obtain⟨⟨x1,x2⟩,h1,h2⟩:=Option.bind_eq_some_iff.1 h;exact oW f _ _ _ _ h2 ((BY h1).1.ub (bR d).2) λe=>hp c.1;split at h;rename_i d;exact oW f _ _ _ _ h ((jh.trans bO).ub (bR d).2) λe=>hp c.1;split at h;rename_i d;obtain⟨⟨x1,x2⟩,h1,h2⟩:=Option.bind_eq_some_iff.1 h;have hu:=(Gp h1).1.ub (bR d).2;exact oW f _ _ _ _ h2 hu λe g hg=>by
   rcases List.mem_append.1 hg with hg|hg;exact hp c.1 g hg;rw[List.mem_singleton.1 hg];have:=OO h1 e
   (try dsimp only at *);omega
  exact oW f _ _ _ _ h (jw.ub hq) λe=>absurd e (kR (by decide));cases h;exact λe=>hp e
theorem OP{T:List Tk}{f:Nat}{x:Pg×Int×Int}(h:uG T f=some x):∀g∈x.1.funcs,Sm.cR g.body<=T.length:=by
 unfold uG at h;obtain⟨⟨p,r⟩,h1,h2⟩:=Option.bind_eq_some_iff.1 h;dsimp only at h2;split at h2;rename_i c;cases h2;exact oW f _ _ _ _ h1 (Nat.zero_le _) (λ_ g hg=>by cases hg) c;cases h2;intro g hg;cases hg
end ke
namespace ke
open Ax Go V7 jG
def lA(a b:Option Int):Option Int:=match a with
 |some x=>some x|none=>b
theorem kU{a:Option Int}:lA a none=a:=by cases a<;>rfl
theorem iH{a b c:Option Int}:lA (lA a b) c=lA a (lA b c):=by cases a<;>rfl
mutual
def Aa(su:List Bool):E->Option Int
 |.mk k _ _ _ _ aC a _ cH=>lA (lI su aC) (if k=4/\0<=cH/\su[cH.toNat]?=some false then some a else none)
def lI(su:List Bool):List E->Option Int
 |[]=>none|e::l=>lA (Aa su e) (lI su l)
end
mutual
def n8:List Bool->Sm->List Bool×Option Int
 |su,.mk k _ _ _ es bd el _ cH=>
  if k=1 then (su.set cH.toNat false,lI su es)
  else if k=2\/k=3 then (if 0<=cH then su.set cH.toNat true else su,lI su es)
  else if k=7 then (su.map λ_=>true,lI su es)
  else if k=6 then (su,lA (lI su es) (gX su bd).2)
  else if k=5 then (List.zipWith (λa b=>a&&b) (gX su bd).1 (gX su el).1,lA (lI su es) (lA (gX su bd).2 (gX su el).2))
  else (su,lI su es)
def gX:List Bool->List Sm->List Bool×Option Int
 |su,[]=>(su,none)
 |su,s::l=>((gX (n8 su s).1 l).1,lA (n8 su s).2 (gX (n8 su s).1 l).2)
end
theorem Nn(su:List Bool)(e:E):Aa su e=lA (lI su e.aC) (if e.k=4/\0<=e.cH/\su[e.cH.toNat]?=some false then some e.a else none):=by
 obtain⟨k,n,nm,on,od,aC,a,ty,cH⟩:=e
 (conv=>lhs;unfold Aa)<;>rfl
theorem xF(su:List Bool)(e:E)(l:List E):lI su (e::l)=lA (Aa su e) (lI su l):=by
 (conv=>lhs;unfold lI)<;>rfl
theorem No(su:List Bool)(s:Sm):n8 su s =
  if s.k=1 then (su.set s.cH.toNat false,lI su s.es)
  else if s.k=2\/s.k=3 then (if 0<=s.cH then su.set s.cH.toNat true else su,lI su s.es)
  else if s.k=7 then (su.map λ_=>true,lI su s.es)
  else if s.k=6 then (su,lA (lI su s.es) (gX su s.bd).2)
  else if s.k=5 then (List.zipWith (λa b=>a&&b) (gX su s.bd).1 (gX su s.el).1,lA (lI su s.es) (lA (gX su s.bd).2 (gX su s.el).2))
  else (su,lI su s.es):=by
 obtain⟨k,nm,on,od,es,bd,el,a,cH⟩:=s
 (conv=>lhs;unfold n8)<;>rfl
theorem Gu(su:List Bool)(s:Sm)(l:List Sm):gX su (s::l)=((gX (n8 su s).1 l).1,lA (n8 su s).2 (gX (n8 su s).1 l).2):=by
 (conv=>lhs;unfold gX)<;>rfl
theorem JO(su:List Bool):gX su []=(su,none):=by unfold gX;rfl
mutual
theorem El:∀(su:List Bool)(s:Sm),(n8 su s).1.length=su.length
 |su,.mk k nm on od es bd el a cH=>by
  unfold n8;split;simp;split;split<;>simp;split;simp;split
  rfl
  split;simp[rM su bd,rM su el]
  rfl
theorem rM:∀(su:List Bool)(l:List Sm),(gX su l).1.length=su.length
 |su,[]=>by unfold gX;rfl|su,s::l=>by
  unfold gX;simp only;rw[rM (n8 su s).1 l,El su s]
end
mutual
def HX(n:Nat):E->Prop
 |.mk k _ _ _ _ aC _ _ cH=>(k=4->cH<n)/\Ab n aC
def Ab(n:Nat):List E->Prop
 |[]=>True|e::l=>HX n e/\Ab n l
end
mutual
def Fw(n:Nat):Sm->Prop
 |.mk k _ _ _ es bd el _ cH=>Ab n es/\(k=1\/k=2->0<=cH/\cH<n)/\(k=3->cH<n)/\tJ n bd/\tJ n el
def tJ(n:Nat):List Sm->Prop
 |[]=>True|s::l=>Fw n s/\tJ n l
end
theorem Ac(n:Nat)(e:E):HX n e↔(e.k=4->e.cH<n)/\Ab n e.aC:=by
 obtain⟨k,_,nm,on,od,aC,a,ty,cH⟩:=e;unfold HX;exact Iff.rfl
theorem uL(n:Nat)(s:Sm):Fw n s↔Ab n s.es/\(s.k=1\/s.k=2->0<=s.cH/\s.cH<n)/\(s.k=3->s.cH<n)/\tJ n s.bd/\tJ n s.el:=by
 obtain⟨k,nm,on,od,es,bd,el,a,cH⟩:=s;unfold Fw;exact Iff.rfl
theorem lW(n:Nat):∀l:List E,Ab n l↔∀e∈l,HX n e
 |[]=>by simp[Ab]|e::l=>by simp[Ab,lW n l]
theorem rN(n:Nat):∀l:List Sm,tJ n l↔∀e∈l,Fw n e
 |[]=>by simp[tJ]|e::l=>by simp[tJ,rN n l]
theorem OQ{n m:Nat}(h:n<=m)(e:E):HX n e->HX m e:=by
 induction e using E.yx with
 |_ e ih=>
  rw[Ac,Ac,lW,lW];exact λ⟨h1,h2⟩=>⟨λhk=>by have:=h1 hk;omega,λx hx=>ih x hx (h2 x hx)⟩
theorem xG{n m:Nat}(h:n<=m)(l:List E):Ab n l->Ab m l:=by
 rw[lW,lW];exact λh2 x hx=>OQ h x (h2 x hx)
theorem Gw{n m:Nat}(h:n<=m)(s:Sm):Fw n s->Fw m s:=by
 induction s using Sm.yx with
 |_ s sY k8=>
  rw[uL,uL];rintro⟨h1,h2,h3,h4,h5⟩;rw[rN]at h4 h5 ⊢;refine⟨xG h _ h1,λhk=>?_,λhk=>?_,λx hx=>sY x hx (h4 x hx),?_⟩;have:=h2 hk;omega;have:=h3 hk;omega;rw[rN];exact λx hx=>k8 x hx (h5 x hx)
theorem OR{n m:Nat}(h:n<=m)(l:List Sm):tJ n l->tJ m l:=by
 rw[rN,rN];exact λh2 x hx=>Gw h x (h2 x hx)
theorem Ad{s:List UInt8}:∀{l:List Vd}{i k:Nat}{t:T3},eJ s i l=some (k,t)->k<i+l.length
 |[],_,_,_,h=>by cases h|f::l,i,k,t,h=>by
  unfold eJ at h;split at h;cases h;simp;have:=Ad h;simp only[List.length_cons];omega
theorem SI{H:Hd}{V:List Vd}{s:List UInt8}{t:T3}{r:Int}(h:rZ H V s=some (t,r)):r<V.length:=by
 unfold rZ at h;split at h;rename_i e;cases h;have:=Ad e;omega;split at h;cases h;omega;cases h
theorem Np{H:Hd}{V:List Vd}(e:E):∀y,xE H V e=.ok y->HX V.length y:=by
 induction e using E.yx with
 |_ e ih=>
  intro y h;obtain⟨ks,t,r,_,h2,h3,rfl⟩:=yU h;rw[Ac];refine⟨λhk=>?_,?_⟩;have hk:e.k=4:=hk;show r<_;unfold lV at h3;rw[if_neg (by omega),if_neg (by omega),if_neg (by omega),if_pos hk]at h3;exact SI h3;show Ab _ ks;rw[lW];exact qE h2 ih
theorem Ae{H:Hd}{bP:Bool}{bz:T3}:∀{l ys:List Sm}{V X:List Vd},(∀s∈l,∀V y W,xW H bP bz V s=.ok (y,W)->V.length<=W.length/\Fw W.length y)->kj H bP bz V l=.ok (ys,X)->V.length<=X.length/\tJ X.length ys
 |[],ys,V,X,_,h=>by
  unfold kj at h;cases h;exact⟨Nat.le_refl _,by simp[tJ]⟩
 |s::l,ys,V,X,hp,h=>by
  obtain⟨y,W,zs,h1,h2,rfl⟩:=wF h;obtain⟨a1,a2⟩:=hp s List.mem_cons_self V y W h1;obtain⟨b1,b2⟩:=Ae (λt ht=>hp t (List.mem_cons_of_mem _ ht)) h2;refine⟨by omega,?_⟩;unfold tJ;exact⟨Gw b1 _ a2,b2⟩
theorem aeE{H:Hd}{bz:T3}{V W:List Vd}{k:Int}{nm:List UInt8}{es:List E}{t:T3}{r:Int}(h:j6 H bz V k nm es t=some (r,W)):(k=1\/k=2->r=V.length)/\(k=3->r<V.length):=by
 unfold j6 at h;split at h;rename_i c;split at h;cases h;cases h;exact⟨λ_=>rfl,λh=>by omega⟩;rename_i n1;split at h;rename_i c;split at h;split at h;cases h;cases h;exact⟨λ_=>rfl,λh=>by omega⟩;cases h;rename_i n2;split at h;rename_i c;split at h;rename_i u r' e;split at h;cases h;exact⟨λh=>by omega,λ_=>SI e⟩;cases h;cases h;rename_i n3;exact⟨λh=>by omega,λh=>by omega⟩
theorem Z6{H:Hd}{V:List Vd}{k:Int}{es ys:List E}(h:tg H V k es=.ok ys):Ab V.length ys:=by
 unfold tg at h;rw[lW];split at h;split at h;rename_i e l;cases hx:xE H V e with
 |error a=>rw[hx]at h;cases h|ok y=>
  rw[hx]at h;cases h;intro z hz;rw[List.mem_singleton.1 hz];exact Np e y hx
 cases h;simp;exact qE h λe _ y hy=>Np e y hy
theorem VS{H:Hd}{bP:Bool}{bz:T3}(s:Sm):∀V y X,xW H bP bz V s=.ok (y,X)->V.length<=X.length/\Fw X.length y:=by
 induction s using Sm.yx with
 |_ s sY k8=>
  intro V y X h;obtain⟨t,ys,r,W,hf,ht,rL,cL,hh⟩:=Eg h;have jR:=Z6 rL;have hVW:V.length<=W.length:=by
   rcases JL cL with e|⟨_,e⟩;rw[e];exact Nat.le_refl _;rw[e];simp
  have hr:=aeE cL;have DE:s.k=1\/s.k=2->0<=r/\r<(W.length:Int):=λhk=>by
   rcases JL cL with e|⟨_,e⟩;have h1:=hr.1 hk;have:W.length=V.length+1:=by
    unfold j6 at cL;rcases hk with hk|hk;rw[if_pos hk]at cL;split at cL;cases cL;cases cL;simp;rw[if_neg (by omega),if_pos hk]at cL;split at cL;split at cL;cases cL;cases cL;simp;cases cL
   omega;have h1:=hr.1 hk;rw[e,h1];simp;omega
  have hr3:s.k=3->r<(W.length:Int):=λhk=>by have:=hr.2 hk;omega
  rcases hh with⟨h5,b,W1,c,hb,hc,rfl⟩|⟨h6,b,hb,rfl⟩|⟨h5,h6,rfl,rfl⟩;obtain⟨a1,a2⟩:=Ae (λx hx V y W hw=>sY x hx V y W hw) hb;obtain⟨b1,b2⟩:=Ae (λx hx V y W hw=>k8 x hx V y W hw) hc;refine⟨by omega,(uL _ _).2 ⟨xG (by omega) _ jR,λhk=>?_,λhk=>?_,OR b1 _ a2,b2⟩⟩;have hk:s.k=1\/s.k=2:=hk;omega;have hk:s.k=3:=hk;omega;obtain⟨a1,a2⟩:=Ae (λx hx V y W hw=>sY x hx V y W hw) hb;refine⟨by omega,(uL _ _).2 ⟨xG (by omega) _ jR,λhk=>?_,λhk=>?_,a2,by simp[Sm.el,tJ]⟩⟩;have hk:s.k=1\/s.k=2:=hk;omega;have hk:s.k=3:=hk;omega;exact⟨hVW,(uL _ _).2 ⟨xG hVW _ jR,DE,hr3,by simp[Sm.bd,tJ],by simp[Sm.el,tJ]⟩⟩
theorem VT{H:Hd}{bP:Bool}{bz:T3}{l ys:List Sm}{V X:List Vd}(h:kj H bP bz V l=.ok (ys,X)):V.length<=X.length/\tJ X.length ys:=
 Ae (λs _ V y W=>VS s V y W) h
def su0(g:Sg)(b:Bd):List Bool:=List.replicate g.ps.length true++List.replicate (b.vars.length-g.ps.length) false
def yV:List Sg->List Bd->Option Int
 |s::ss,b::bs=>lA (gX (su0 s b) b.code).2 (yV ss bs)|_,_=>none
theorem En{H:Hd}:∀{ss:List Sg}{fs:List Fc}{bs:List Bd},qk H ss fs=.ok bs->∀(k:Nat)(h1:k<ss.length)(h2:k<bs.length),ss[k].ps.length<=bs[k].vars.length/\tJ bs[k].vars.length bs[k].code
 |[],_,bs,h,k,h1,_=>by simp at h1|s::ss,[],bs,h,k,_,h2=>by
  unfold qk at h;cases h;simp at h2
 |s::ss,f::fs,bs,h,k,h1,h2=>by
  unfold qk at h;split at h;cases h;rename_i c W hb;split at h;cases h;rename_i l hl;cases h;match k with
  |0=>exact VT hb|k+1=>
   have:=En hl k (by simpa using h1) (by simpa using h2);simpa using this
end ke
