/- Part of a proof. -/
import Derived.Test.YtgblgbgjmgjfkaaGreatA6

open List renaming length->Q
open Option renaming some->Z,none->K
open Bool renaming true->Y
open Decidable renaming decide->V
open List renaming findIdx?_eq_some_iff_getElem->afI,sizeOf_lt_of_mem->anZ,length_cons->aaK,mem_cons->ac2,mem_cons_of_mem->aax,mem_cons_self->aat,mem_append->aaw,mem_singleton->afq,cons_append->abb,replicate->aag
open Option renaming bind_eq_some_iff->aaf
open Nat renaming le_refl->aal,lt_of_le_of_lt->aoA
open Int renaming le_refl->am9
open Bool renaming and_eq_true->E6,or_eq_true->abh
namespace V7
open Ax Go
def cL:AV->Bool
 |.iY _ _=>false|_=>Y
theorem bQ{v}(h:cL v=Y)(j:bn v=Y):v.aj=v:=by cases v<;>simp_all [cL,bn,AV.aj]
@[simp]theorem H9(v:AV):cL v.aj=Y:=by cases v<;>simp[cL,AV.aj]
def ij(s:Nat)(p:List AV->Bool)(v:AV):Bool:=cL v&&cU s v&&(bf v).all p
theorem ke{s p v}(h:ij s p v=Y):cU s v=Y:=by simp_all [ij,E6]
theorem mK{s p v}(h:ij s p v=Y):∀r∈bf v,p r=Y:=by simp_all [ij,E6,List.all_eq_true]
theorem l7{s p v}(h:ij s p v=Y):v.aj=v:=by
 have H:=lH (ke h);simp_all [ij,E6,bQ]
theorem n6{g:Type}{s p d}{e:g->List AV}{v}(h:ij s p v=Y)(B:∀r,p r=Y->r=e (d r)):bf v=((bf v).map d).map e:=by
 rw[List.map_map];conv=>lhs;rw[<-List.map_id (bf v)]
 grind [List.map_congr_left,mK]
def sQ(n:Int):Bool:=V (-9223372036854775808<=n)&&V (n<=9223372036854775807)
structure T3 where
 b:Int
 r:Int
 d:Int
 deriving DecidableEq
abbrev T0:T3:=⟨0,0,0⟩
@[simp]def T3.cells(t:T3):List AV:=[.int .i64 t.b,.int .i64 t.r,.int .i64 t.d]
def Ia(r:List AV):Bool:=match r with | [.int .i64 a,.int .i64 b,.int .i64 c]=>sQ a&&sQ b&&sQ c|_=>false
def dT(r:List AV):T3:=match r with | [.int .i64 a,.int .i64 b,.int .i64 c]=>⟨a,b,c⟩|_=>T0
theorem KH(r)(h:Ia r=Y):r=(dT r).cells:=by
 unfold Ia at h;split at h
 rfl
 cases h
def yJ(v:AV):Bool:=ij 3 Ia v
def cx(v:AV):List T3:=(bf v).map dT
theorem fA{v}(h:yJ v=Y):bf v=(cx v).map T3.cells:=n6 h KH
theorem kQ{v}(h:yJ v=Y):v.aj=v:=l7 h
@[simp]theorem ac5(v):cx v.aj=cx v:=by simp[cx]
@[simp]theorem Uu{v}(h:yJ v=Y):cU 3 v=Y:=ke h
@[simp]theorem lR{v}(h:yJ v=Y):bn v=Y:=lH (Uu h)
def WK(r:List AV):Bool:=match r with | [.str _]=>Y|_=>false
def dSt(r:List AV):List UInt8:=match r with | [.str s]=>s|_=>[]
def D1(v:AV):Bool:=ij 1 WK v
def pT(v:AV):List (List UInt8):=(bf v).map dSt
theorem ac6(r)(h:WK r=Y):r=[.str (dSt r)]:=by
 unfold WK at h;split at h
 rfl
 cases h
theorem ac7{v}(h:D1 v=Y):bf v=(pT v).map λs=>[.str s]:=n6 h ac6
theorem Rx{v}(h:D1 v=Y):v.aj=v:=l7 h
@[simp]theorem zn(v):pT v.aj=pT v:=by simp[pT]
@[simp]theorem WM{v}(h:D1 v=Y):cU 1 v=Y:=ke h
@[simp]theorem WN{v}(h:D1 v=Y):bn v=Y:=lH (WM h)
def GQ{g:Type}(p:g->Bool)(l:List g)(k:Nat):Prop:=∀j (h:j<Q l),j<k->p l[j]=false
theorem C2{g p}{l:List g}:GQ p l 0:=λ_ _ h=>au h
theorem C3{g p}{l:List g}{k}(h:GQ p l k)(H)(n:p l[k]=false):GQ p l (k+1):=by
 intro j J m;rcases Nat.lt_or_ge j k with I|I;exact h j J I
 grind
def OI(l:List (List UInt8))(s:List UInt8):Int:=match l.findIdx? λx=>decide (x=s) with
 |some k=>k|none=>-1
theorem aht{l s k}(h:GQ (λx=>decide (x=s)) l k)(m)(e:l[k]=s):OI l s=k:=by
 have:l.findIdx? (λx=>decide (x=s))=Z k:=by
  rw[afI];refine⟨m,by grind,λj H=>?_⟩;have:=h j (by omega) H
  grind
 unfold OI;rw[this]
theorem YU{l s}(h:GQ (λx=>decide (x=s)) l (Q l)):OI l s = -1:=by
 have:l.findIdx? (λx=>decide (x=s))=K:=by
  rw[List.findIdx?_eq_none_iff];intro x H;obtain⟨j,k,rfl⟩:=List.mem_iff_getElem.1 H;exact h j k k
 unfold OI;rw[this]
theorem WQ(l s):OI l s = -1\/∃k:Nat,OI l s=k/\k<Q l:=by
 unfold OI;cases e:l.findIdx? λx=>decide (x=s) with
 |none=>grind|some k=>exact .inr ⟨k,rfl,(afI.1 e).1⟩
def dz(l:List (List UInt8))(s:List UInt8)(d:Int):T3×Bool:=
 if d<0\/3<d then (T0,false) else
 if s=[105,110,116] then (⟨1,0,d⟩,Y) else
 if s=[98,111,111,108] then (⟨2,0,d⟩,Y) else
 if OI l s<0 then (T0,false) else (⟨3,OI l s,d⟩,Y)
def lS(t:T3):Bool:=V (t.b=3)||decide (0<t.d)
structure PD where
 name:List UInt8
 on:List UInt8
 od:Int
 at_:Int
def PD.cells(p:PD):List AV:=[.str p.name,.str p.on,.int .i64 p.od,.int .i64 p.at_]
def WR(r:List AV):Bool:=match r with | [.str _,.str _,.int .i64 d,.int .i64 a]=>sQ d&&sQ a|_=>false
def dP(r:List AV):PD:=match r with | [.str n,.str o,.int .i64 d,.int .i64 a]=>⟨n,o,d,a⟩|_=>⟨[],[],0,0⟩
theorem ac8(r)(h:WR r=Y):r=(dP r).cells:=by
 unfold WR at h;split at h
 rfl
 cases h
def IC(v:AV):Bool:=ij 4 WR v
def o8(v:AV):List PD:=(bf v).map dP
theorem ahu{v}(h:IC v=Y):bf v=(o8 v).map PD.cells:=n6 h ac8
theorem Fo{v}(h:IC v=Y):v.aj=v:=l7 h
@[simp]theorem asc(v):o8 v.aj=o8 v:=by simp[o8]
@[simp]theorem amA{v}(h:IC v=Y):cU 4 v=Y:=ke h
@[simp]theorem KI{v}(h:IC v=Y):bn v=Y:=lH (amA h)
structure CR where
 name:List UInt8
 cr:AV
 at_:Int
def CR.cells(r:CR):List AV:=[.str r.name,r.cr,.int .i64 r.at_]
def M3(r:List AV):Bool:=match r with | [.str _,f,.int .i64 a]=>IC f&&sQ a|_=>false
def dCR(r:List AV):CR:=match r with | [.str s,f,.int .i64 a]=>⟨s,f,a⟩|_=>⟨[],.aF,0⟩
theorem ac9(r)(h:M3 r=Y):r=(dCR r).cells:=by
 unfold M3 at h;split at h
 rfl
 cases h
def KJ(v:AV):Bool:=ij 3 M3 v
def eW(v:AV):List CR:=(bf v).map dCR
theorem Ry{v}(h:KJ v=Y):bf v=(eW v).map CR.cells:=n6 h ac9
theorem YW{v}(h:KJ v=Y):∀r∈eW v,IC r.cr=Y:=by
 intro r H;obtain⟨x,l,rfl⟩:=List.mem_map.1 H;have:=mK h x l;unfold M3 at this;unfold dCR
 grind
theorem Rz{v}(h:KJ v=Y):v.aj=v:=l7 h
@[simp]theorem apD(v):eW v.aj=eW v:=by simp[eW]
@[simp]theorem ahv{v}(h:KJ v=Y):cU 3 v=Y:=ke h
@[simp]theorem WU{v}(h:KJ v=Y):bn v=Y:=lH (ahv h)
structure FN where
 name:List UInt8
 params:AV
 bY:Bool
 on:List UInt8
 od:Int
 body:AV
 at_:Int
def FN.cells(f:FN):List AV:=[.str f.name,f.params,.bool f.bY,.str f.on,.int .i64 f.od,f.body,.int .i64 f.at_]
def M5(r:List AV):Bool:=match r with | [.str _,p,.bool _,.str _,.int .i64 d,b,.int .i64 a]=>IC p&&cL b&&bn b&&sQ d&&sQ a|_=>false
def dFN(r:List AV):FN:=match r with | [.str n,p,.bool h,.str o,.int .i64 d,b,.int .i64 a]=>⟨n,p,h,o,d,b,a⟩|_=>⟨[],.aF,false,[],0,.aF,0⟩
theorem ada(r)(h:M5 r=Y):r=(dFN r).cells:=by
 unfold M5 at h;split at h
 rfl
 cases h
def KK(v:AV):Bool:=ij 7 M5 v
def iN(v:AV):List FN:=(bf v).map dFN
theorem adb{v}(h:KK v=Y):bf v=(iN v).map FN.cells:=n6 h ada
theorem YX{v}(h:KK v=Y):∀r∈iN v,IC r.params=Y/\cL r.body=Y/\bn r.body=Y:=by
 intro r H;obtain⟨x,l,rfl⟩:=List.mem_map.1 H;have:=mK h x l;unfold M5 at this;unfold dFN
 grind
theorem RA{v}(h:KK v=Y):v.aj=v:=l7 h
@[simp]theorem apE(v):iN v.aj=iN v:=by simp[iN]
@[simp]theorem ahw{v}(h:KK v=Y):cU 7 v=Y:=ke h
@[simp]theorem WW{v}(h:KK v=Y):bn v=Y:=lH (ahw h)
structure GD where
 aR:AV
 ax:AV
 funcs:AV
def GD.cells(p:GD):List AV:=[p.aR,p.ax,p.funcs]
structure GD.ok (p:GD):Prop where
 aR:KJ p.aR=true
 ax:IC p.ax=true
 funcs:KK p.funcs=true
def tj(l:List CR):List (List UInt8):=l.map (·.name)
def OJ(rs:List (List UInt8))(p:PD):List AV:=.str p.name::(dz rs p.on p.od).1.cells
def iy(rs:List (List UInt8))(l:List PD):List (List AV):=l.map (OJ rs)
def Uv(a b:Option Int):Option Int:=match a with|some x=>Z x|none=>b
def zo(rs:List (List UInt8))(j:List PD)(p:PD):Option Int:=if j.any (λq=>decide (q.name=p.name)) || !(dz rs p.on p.od).2 then Z p.at_ else K
def fF{g:Type}(iO:List g->g->Option Int)(l:List g):Nat->Option Int
 |0=>K|k+1=>Uv (fF iO l k) (match l[k]? with|some x=>iO (l.take k) x|none=>K)
def D2(a:Option Int):List AV:=match a with|some x=>[.int .i64 3,.int .i64 x]|none=>[.int .i64 0,.int .i64 0]
end V7
namespace jb
open Ax Go V7
structure Tk where
 k:Int
 t:List UInt8
 n:Int
 a:Int
def Tk.cells(x:Tk):List AV:=[.int .i64 x.k,.str x.t,.int .i64 x.n,.int .i64 x.a]
abbrev Tk0:Tk:=⟨0,[],0,0⟩
structure TL (l:AV)(T:List Tk):Prop where
 sz:cU 4 l=true
 rows:bf l=T.map Tk.cells
 len:T.length<1000000000
theorem TL.sl{l T}(h:TL l T):bn l=Y:=lH h.sz
structure RQ where
 at_:Nat
 op:Int
 fe:Int
 fa:Int
def RQ.bX(l:AV)(q:RQ):iW:=.rows 0 5 [[l,.int .i64 q.at_,.int .i64 q.op,.int .i64 q.fe,.int .i64 q.fa]]
def g9(T:List Tk)(q:RQ):Tk:=T.getD q.at_ Tk0
def lM(T:List Tk)(q:RQ)(e:Int):RQ:=if q.fe=0 then ⟨q.at_,q.op,e,(g9 T q).a⟩ else q
def Ev(s:List UInt8):Int:=match s with|c::_=>if 97<=c.toNat/\c.toNat<=122 then 3 else 4 | []=>4
def jZ(T:List Tk)(q:RQ)(s:List UInt8):Bool:=V (q.fe=0)&&V ((g9 T q).k=Ev s)&&V ((g9 T q).t=s)
def cD(q:RQ):RQ:=⟨q.at_+1,q.op,q.fe,q.fa⟩
def eU(T:List Tk)(q:RQ)(s:List UInt8):RQ:=if jZ T q s then cD q else lM T q 2
def B6(q:RQ)(d:Int):RQ:=⟨q.at_,IntKind.i64.wrap (q.op+d),q.fe,q.fa⟩
def mL(T:List Tk)(q:RQ)(s:List UInt8):RQ:=if jZ T q s&&V (50<=q.op) then lM T q 4 else B6 (eU T q s) 1
def rY(T:List Tk)(q:RQ)(s:List UInt8):RQ:=B6 (eU T q s) (-1)
def fG(T:List Tk)(q:RQ):List UInt8×RQ:=if q.fe=0/\(g9 T q).k=1 then ((g9 T q).t,cD q) else ([],lM T q 2)
def As(T:List Tk)(q:RQ)(s:List UInt8):Nat->RQ
 |0=>q|k+1=>eU T (As T q s k) s
def RB(T:List Tk):Nat->Nat->RQ->Nat×RQ
 |0,d,q=>(d,q)
 |k+1,d,q=>if jZ T q [91] then RB T k (d+1) (cD q) else (d,q)
def ofN(T:List Tk)(q:RQ):List UInt8×RQ:=if jZ T q [105,110,116]||jZ T q [98,111,111,108] then ((g9 T q).t,cD q) else fG T q
def D3(T:List Tk)(q:RQ):(List UInt8×Int)×RQ:=
 if jZ T (RB T 3 0 q).2 [91] then (([],0),lM T (RB T 3 0 q).2 4)
 else (((ofN T (RB T 3 0 q).2).1,((RB T 3 0 q).1:Int)),As T (ofN T (RB T 3 0 q).2).2 [93] (RB T 3 0 q).1)
def aN(sz:Nat)(rows:List (List AV)):AV:=(cw sz rows).aj
inductive E where
 |mk (k n:Int) (nm on:List UInt8) (od:Int) (aP:List E) (a:Int) (ty:T3) (ref:Int)
def E.k:E->Int|.mk k _ _ _ _ _ _ _ _=>k
def E.n:E->Int|.mk _ n _ _ _ _ _ _ _=>n
def E.nm:E->List UInt8|.mk _ _ nm _ _ _ _ _ _=>nm
def E.on:E->List UInt8|.mk _ _ _ on _ _ _ _ _=>on
def E.od:E->Int|.mk _ _ _ _ od _ _ _ _=>od
def E.aP:E->List E|.mk _ _ _ _ _ aP _ _ _=>aP
def E.a:E->Int|.mk _ _ _ _ _ _ a _ _=>a
def E.ty:E->T3|.mk _ _ _ _ _ _ _ ty _=>ty
def E.ref:E->Int|.mk _ _ _ _ _ _ _ _ ref=>ref
mutual
def E.aK:E->List AV
 |.mk k n nm on od aP a ty ref=>[.int .i64 k,.int .i64 n,.str nm,.str on,.int .i64 od,aN 11 (E.rows aP),.int .i64 a,.int .i64 ty.b,.int .i64 ty.r,.int .i64 ty.d,.int .i64 ref]
def E.rows:List E->List (List AV)
 |[]=>[]
 |e::l=>e.aK::E.rows l
end
def Em(k n:Int)(N O:List UInt8)(o:Int)(g:List E)(a:Int):E:=.mk k n N O o g a T0 0
def bL(l:List E):AV:=aN 11 (E.rows l)
inductive Sm where
 |mk (k:Int) (nm on:List UInt8) (od:Int) (es:List E) (bd el:List Sm) (a ref:Int)
def Sm.k:Sm->Int|.mk k _ _ _ _ _ _ _ _=>k
def Sm.nm:Sm->List UInt8|.mk _ nm _ _ _ _ _ _ _=>nm
def Sm.on:Sm->List UInt8|.mk _ _ on _ _ _ _ _ _=>on
def Sm.od:Sm->Int|.mk _ _ _ od _ _ _ _ _=>od
def Sm.es:Sm->List E|.mk _ _ _ _ es _ _ _ _=>es
def Sm.bd:Sm->List Sm|.mk _ _ _ _ _ bd _ _ _=>bd
def Sm.el:Sm->List Sm|.mk _ _ _ _ _ _ el _ _=>el
def Sm.a:Sm->Int|.mk _ _ _ _ _ _ _ a _=>a
def Sm.ref:Sm->Int|.mk _ _ _ _ _ _ _ _ ref=>ref
mutual
def Sm.aK:Sm->List AV
 |.mk k nm on od es bd el a ref=>[.int .i64 k,.str nm,.str on,.int .i64 od,bL es,aN 9 (Sm.rows bd),aN 9 (Sm.rows el),.int .i64 a,.int .i64 ref]
def Sm.rows:List Sm->List (List AV)
 |[]=>[]
 |s::l=>s.aK::Sm.rows l
end
def cn(l:List Sm):AV:=aN 9 (Sm.rows l)
structure Rc where
 name:List UInt8
 cr:List PD
 a:Int
def Rc.aK(r:Rc):List AV:=[.str r.name,aN 4 (r.cr.map PD.cells),.int .i64 r.a]
structure Fc where
 name:List UInt8
 params:List PD
 bY:Bool
 on:List UInt8
 od:Int
 body:List Sm
 a:Int
def Fc.aK(f:Fc):List AV:=[.str f.name,aN 4 (f.params.map PD.cells),.bool f.bY,.str f.on,.int .i64 f.od,cn f.body,.int .i64 f.a]
structure Pg where
 aR:List Rc
 ax:List PD
 funcs:List Fc
def Pg.aK(p:Pg):List AV:=[aN 3 (p.aR.map Rc.aK),aN 4 (p.ax.map PD.cells),aN 7 (p.funcs.map Fc.aK)]
@[simp]theorem bU{sz r}:bn (aN sz r)=Y:=by simp[aN]
@[simp]theorem br{sz r}:bf (aN sz r)=r:=by simp[aN]
@[simp]theorem cg{sz r}:(aN sz r).aj=aN sz r:=by
 unfold aN cw;split<;>simp[AV.aj]
@[simp]theorem wu{s r}:(aN s r).cT=Y:=j9 bU
@[simp]theorem GR{s r}:(aN s r).aH=Y:=dV bU
@[simp]theorem cu{l}:bn (bL l)=Y:=bU
@[simp]theorem ck{l}:(bL l).aj=bL l:=cg
@[simp]theorem ase{l}:(bL l).cT=Y:=wu
@[simp]theorem asf{l}:(bL l).aH=Y:=GR
@[simp]theorem cW{l}:bn (cn l)=Y:=bU
@[simp]theorem bZ{l}:(cn l).aj=cn l:=cg
@[simp]theorem asg{l}:(cn l).cT=Y:=wu
@[simp]theorem ash{l}:(cn l).aH=Y:=GR
@[simp]theorem asi{s}:aN s []=.aF:=rfl
@[simp]theorem YY{s r l}:aN s (r::l)=.eE s (r::l):=rfl
theorem jI:∀l:List E,E.rows l=l.map E.aK
 |[]=>by simp[E.rows]|e::l=>by simp[E.rows,jI l]
theorem kB:∀l:List Sm,Sm.rows l=l.map Sm.aK
 |[]=>by simp[Sm.rows]|e::l=>by simp[Sm.rows,kB l]
theorem vL:bL []=.aF:=by simp[bL,E.rows,aN,xX,AV.aj]
theorem E.aU(e:E):e.aK=[.int .i64 e.k,.int .i64 e.n,.str e.nm,.str e.on,.int .i64 e.od,bL e.aP,.int .i64 e.a,.int .i64 e.ty.b,.int .i64 e.ty.r,.int .i64 e.ty.d,.int .i64 e.ref]:=by
 cases e;simp[E.aK,E.k,E.n,E.nm,E.on,E.od,E.aP,E.a,E.ty,E.ref,bL]
theorem Sm.aU(s:Sm):s.aK=[.int .i64 s.k,.str s.nm,.str s.on,.int .i64 s.od,bL s.es,cn s.bd,cn s.el,.int .i64 s.a,.int .i64 s.ref]:=by
 cases s;simp[Sm.aK,Sm.k,Sm.nm,Sm.on,Sm.od,Sm.es,Sm.bd,Sm.el,Sm.a,Sm.ref,cn]
def fV:Nat->List (List UInt8×Int)
 |0=>[([124,124],24)]
 |1=>[([38,38],23)]
 |2=>[([60],19),([60,61],20),([61,61],21),([33,61],22)]
 |3=>[([43],14),([45],15)]
 |_=>[([42],16),([47],17),([37],18)]
def ji:List (List UInt8×Int)->List UInt8->Int
 |[],_=>0|(s,k)::r,t=>if s=t then k else ji r t
def Au(n:Nat)(c:Tk):Int:=if c.k=4 then ji (fV n) c.t else 0
mutual
def lN(T:List Tk):Nat->Nat->RQ->Option (E×RQ)
 |0,_,_=>K|f+1,n,q=>if n=5 then uY T f q else (lN T f (n+1) q).bind λx=>tn T f n x.1 x.2
def tn(T:List Tk):Nat->Nat->E->RQ->Option (E×RQ)
 |0,_,_,_=>K|f+1,n,a,q=>if q.fe=0/\Au n (g9 T q)≠0 then
   (lN T f (n+1) (cD q)).bind λx=>tn T f n (Em (Au n (g9 T q)) 0 [] [] 0 [a,x.1] (g9 T q).a) x.2
  else Z (a,q)
def uY(T:List Tk):Nat->RQ->Option (E×RQ)
 |0,_=>K|f+1,q=>if jZ T q [45]||jZ T q [33] then
   (lN T f 5 (mL T q (g9 T q).t)).bind λx=>Z (Em (if jZ T q [45] then 12 else 13) 0 [] [] 0 [x.1] (g9 T q).a,B6 x.2 (-1))
  else (uZ T f q).bind λx=>nK T f x.1 x.2
def nK(T:List Tk):Nat->E->RQ->Option (E×RQ)
 |0,_,_=>K|f+1,a,q=>if jZ T q [46] then nK T f (Em 5 0 (fG T (cD q)).1 [] 0 [a] (g9 T q).a) (fG T (cD q)).2
  else if jZ T q [91] then (lN T f 0 (mL T q [91])).bind λx=>nK T f (Em 6 0 [] [] 0 [a,x.1] (g9 T q).a) (rY T x.2 [93])
  else Z (a,q)
def rZ(T:List Tk):Nat->RQ->Option (E×RQ)
 |0,_=>K|f+1,q=>(lN T f 0 (mL T q [40])).bind λx=>Z (x.1,rY T x.2 [41])
def uZ(T:List Tk):Nat->RQ->Option (E×RQ)
 |0,_=>K|f+1,q=>
  if q.fe=0/\(g9 T q).k=2 then Z (Em 1 (g9 T q).n [] [] 0 [] (g9 T q).a,cD q)
  else if jZ T q [116,114,117,101]||jZ T q [102,97,108,115,101] then Z (Em 2 (if (g9 T q).t=[116,114,117,101] then 1 else 0) [] [] 0 [] (g9 T q).a,cD q)
  else if jZ T q [110,117,108,108] then Z (Em 3 0 [] (D3 T (cD q)).1.1 (D3 T (cD q)).1.2 [] (g9 T q).a,(D3 T (cD q)).2)
  else if jZ T q [110,101,119] then u0 T f (g9 T q).a (cD q)
  else if jZ T q [108,101,110] then (rZ T f (cD q)).bind λx=>Z (Em 10 0 [] [] 0 [x.1] (g9 T q).a,x.2)
  else if jZ T q [114,101,97,100] then Z (Em 11 0 [] [] 0 [] (g9 T q).a,rY T (mL T (cD q) [40]) [41])
  else if jZ T q [40] then rZ T f q
  else if jZ T (fG T q).2 [40] then (Bb T f (fG T q).2).bind λx=>Z (Em 7 0 (fG T q).1 [] 0 x.1 (g9 T q).a,x.2)
  else Z (Em 4 0 (fG T q).1 [] 0 [] (g9 T q).a,(fG T q).2)
def u0(T:List Tk):Nat->Int->RQ->Option (E×RQ)
 |0,_,_=>K|f+1,a,q=>if jZ T q [91] then
   (rZ T f (eU T (D3 T (cD q)).2 [93])).bind λx=>Z (Em 9 0 [] (D3 T (cD q)).1.1 (D3 T (cD q)).1.2 [x.1] a,x.2)
  else Z (Em 8 0 [] (fG T q).1 0 [] a,(fG T q).2)
def Bb(T:List Tk):Nat->RQ->Option (List E×RQ)
 |0,_=>K|f+1,q=>if jZ T (mL T q [40]) [41] then Z ([],rY T (mL T q [40]) [41])
  else (lN T f 0 (mL T q [40])).bind λx=>zp T f [x.1] x.2
def zp(T:List Tk):Nat->List E->RQ->Option (List E×RQ)
 |0,_,_=>K|f+1,l,q=>if jZ T q [44] then (lN T f 0 (cD q)).bind λx=>zp T f (l++[x.1]) x.2
  else Z (l,rY T q [41])
end
def B7(T:List Tk)(f:Nat)(a:Int)(q:RQ):Option (Sm×RQ):=
 (lN T f 0 q).bind λx=>if jZ T x.2 [61] then
   (lN T f 0 (eU T (if x.1.k=4\/x.1.k=5\/x.1.k=6 then x.2 else lM T x.2 2) [61])).bind λy=>
    Z (if x.1.k=4 then .mk 3 x.1.nm [] 0 [y.1] [] [] a 0 else .mk 4 [] [] 0 [x.1,y.1] [] [] a 0,eU T y.2 [59])
  else Z (.mk 9 [] [] 0 [x.1] [] [] a 0,eU T (if jZ T x.2 [59]=Y/\x.1.k≠7 then lM T x.2 2 else x.2) [59])
def fJ(T:List Tk)(q:RQ):PD×RQ:=
 (⟨(fG T q).1,(D3 T (eU T (fG T q).2 [58])).1.1,(D3 T (eU T (fG T q).2 [58])).1.2,(g9 T q).a⟩,(D3 T (eU T (fG T q).2 [58])).2)
mutual
def Bc(T:List Tk):Nat->RQ->Option (Sm×RQ)
 |0,_=>K|f+1,q=>
  if jZ T q [118,97,114] then
   Z (.mk 1 (fJ T (cD q)).1.name (fJ T (cD q)).1.on (fJ T (cD q)).1.od [] [] [] (g9 T q).a 0,eU T (fJ T (cD q)).2 [59])
  else if jZ T q [108,101,116] then (lN T f 0 (eU T (fJ T (cD q)).2 [61])).bind λx=>
   Z (.mk 2 (fJ T (cD q)).1.name (fJ T (cD q)).1.on (fJ T (cD q)).1.od [x.1] [] [] (g9 T q).a 0,eU T x.2 [59])
  else if jZ T q [105,102] then (lN T f 0 (cD q)).bind λx=>(mZ T f x.2).bind λy=>
   if jZ T y.2 [101,108,115,101] then (mZ T f (cD y.2)).bind λz=>Z (.mk 5 [] [] 0 [x.1] y.1 z.1 (g9 T q).a 0,z.2)
   else Z (.mk 5 [] [] 0 [x.1] y.1 [] (g9 T q).a 0,y.2)
  else if jZ T q [119,104,105,108,101] then (lN T f 0 (cD q)).bind λx=>(mZ T f x.2).bind λy=>
   Z (.mk 6 [] [] 0 [x.1] y.1 [] (g9 T q).a 0,y.2)
  else if jZ T q [114,101,116,117,114,110] then
   if jZ T (cD q) [59] then Z (.mk 7 [] [] 0 [] [] [] (g9 T q).a 0,eU T (cD q) [59])
   else (lN T f 0 (cD q)).bind λx=>Z (.mk 7 [] [] 0 [x.1] [] [] (g9 T q).a 0,eU T x.2 [59])
  else if jZ T q [112,114,105,110,116] then (lN T f 0 (cD q)).bind λx=>Z (.mk 8 [] [] 0 [x.1] [] [] (g9 T q).a 0,eU T x.2 [59])
  else B7 T f (g9 T q).a q
def mZ(T:List Tk):Nat->RQ->Option (List Sm×RQ)
 |0,_=>K|f+1,q=>tq T f [] (mL T q [123])
def tq(T:List Tk):Nat->List Sm->RQ->Option (List Sm×RQ)
 |0,_,_=>K|f+1,l,q=>if q.fe=0/\jZ T q [125]=false then (Bc T f q).bind λx=>tq T f (l++[x.1]) x.2
  else Z (l,rY T q [125])
end
def qM(T:List Tk):Nat->List PD->RQ->Option (List PD×RQ)
 |0,_,_=>K|f+1,l,q=>if q.fe=0/\jZ T q [125]=false then
   if (g9 T q).k=1/\Q l=8 then Z (l,lM T q 4)
   else qM T f (l++[(fJ T q).1]) (eU T (fJ T q).2 [59])
  else Z (l,q)
def Av(T:List Tk)(f:Nat)(q:RQ):Option (Rc×RQ):=
 (qM T f [] (eU T (fG T q).2 [123])).bind λx=>Z (⟨(fG T q).1,x.1,(g9 T q).a⟩,eU T x.2 [125])
def KL(T:List Tk)(q:RQ):RQ:=if jZ T q [41] then q else if jZ T (eU T q [44]) [41] then lM T (eU T q [44]) 2 else eU T q [44]
def qN(T:List Tk):Nat->List PD->RQ->Option (List PD×RQ)
 |0,_,_=>K|f+1,l,q=>if q.fe=0/\jZ T q [41]=false then
   if (g9 T q).k=1/\Q l=6 then Z (l,lM T q 4)
   else qN T f (l++[(fJ T q).1]) (KL T (fJ T q).2)
  else Z (l,q)
def B8(T:List Tk)(f:Nat)(q:RQ):Option (Fc×RQ):=
 (qN T f [] (eU T (fG T q).2 [40])).bind λx=>
  if jZ T (eU T x.2 [41]) [58] then
   (mZ T f (D3 T (cD (eU T x.2 [41]))).2).bind λy=>Z (⟨(fG T q).1,x.1,Y,(D3 T (cD (eU T x.2 [41]))).1.1,(D3 T (cD (eU T x.2 [41]))).1.2,y.1,(g9 T q).a⟩,y.2)
  else (mZ T f (eU T x.2 [41])).bind λy=>Z (⟨(fG T q).1,x.1,false,[],0,y.1,(g9 T q).a⟩,y.2)
def amB:List UInt8:=[114,101,99,111,114,100]
def ade:List UInt8:=[103,108,111,98,97,108]
def adf:List UInt8:=[102,117,110,99]
def rq(T:List Tk):Nat->Pg->RQ->Option (Pg×RQ)
 |0,_,_=>K|f+1,p,q=>if q.fe=0/\(g9 T q).k≠0 then
   if jZ T q amB=Y/\Q p.aR=12\/jZ T q ade=Y/\Q p.ax=8\/jZ T q adf=Y/\Q p.funcs=16 then rq T f p (lM T q 4)
   else if jZ T q amB then (Av T f (cD q)).bind λx=>rq T f ⟨p.aR++[x.1],p.ax,p.funcs⟩ x.2
   else if jZ T q ade then rq T f ⟨p.aR,p.ax++[(fJ T (cD q)).1],p.funcs⟩ (eU T (fJ T (cD q)).2 [59])
   else if jZ T q adf then (B8 T f (cD q)).bind λx=>rq T f ⟨p.aR,p.ax,p.funcs++[x.1]⟩ x.2
   else rq T f p (lM T q 2)
  else Z (p,q)
def Jd:Pg:=⟨[],[],[]⟩
def yK(T:List Tk)(f:Nat):Option (Pg×Int×Int):=
 (rq T f Jd ⟨0,0,0,0⟩).bind λx=>Z (if x.2.fe=0 then (x.1,0,0) else (Jd,x.2.fe,x.2.fa))
structure iP (T:List Tk)(q r:RQ):Prop where
 le:q.at_<=r.at_
 ub:q.at_<=T.length->r.at_<=T.length
 iO:q.fe≠0->r.fe=q.fe/\r.at_=q.at_
theorem iP.refl(T q):iP T q q:=⟨aal _,id,λ_=>⟨rfl,rfl⟩⟩
theorem iP.trans{T q r s}(h:iP T q r)(k:iP T r s):iP T q s:=
 ⟨Nat.le_trans h.le k.le,λu=>k.ub (h.ub u),λb=>by
  have ⟨j,W⟩:=h.iO b;have ⟨b1,B⟩:=k.iO (by grind)
  grind⟩
theorem iP.Ib{T q r}(h:iP T q r)(f:r.fe=0):q.fe=0:=by
 apply Classical.byContradiction;intro g;have:=(h.iO g).1
 grind
theorem Aw{T q}(h:(g9 T q).k≠0):q.at_<Q T:=by
 apply Classical.byContradiction;intro g;simp_all [g9]
theorem YZ(s):Ev s≠0:=by
 unfold Ev
 grind
theorem cm{T q s}(h:jZ T q s=Y):q.fe=0/\q.at_<Q T:=by
 simp_all [jZ,Aw,YZ]
theorem RC{T q s}(h:jZ T q s=Y):(g9 T q).t=s:=by
 simp_all [jZ]
theorem ahx{T q s}(h:q.fe≠0):jZ T q s=false:=by simp[jZ,h]
theorem Fp{T q n}(h:Au n (g9 T q)≠0):q.at_<Q T:=Aw (by
 simp_all [Au])
theorem dn{T q}(h:q.fe=0)(H:q.at_<Q T):iP T q (cD q):=⟨Nat.le_succ _,λ_=>H,λb=>bH h b⟩
theorem kh{T q e}:iP T q (lM T q e):=by
 unfold lM;split;rename_i h;exact⟨aal _,id,λb=>bH h b⟩;exact iP.refl T q
theorem GU{T q d}:iP T q (B6 q d):=⟨aal _,id,λ_=>⟨rfl,rfl⟩⟩
theorem bV{T q s}:iP T q (eU T q s):=by
 grind [eU,dn,cm,kh]
theorem iq{T q s}:iP T q (mL T q s):=by
 unfold mL;split;exact kh;exact bV.trans GU
theorem gH{T q s}:iP T q (rY T q s):=bV.trans GU
theorem jJ{T q}:iP T q (fG T q).2:=by
 grind [fG,dn,Aw,kh]
theorem KM{T q s}:∀k,iP T q (As T q s k)
 |0=>iP.refl T q|k+1=>(KM k).trans bV
theorem KN{T}:∀k d q,iP T q (RB T k d q).2/\(RB T k d q).1<=d+k/\d<=(RB T k d q).1
 |0,d,q=>⟨iP.refl T q,aal _,aal _⟩
 |k+1,d,q=>by
  unfold RB;split;rename_i h;have ⟨H,g,l⟩:=KN (T:=T) k (d+1) (cD q);exact⟨(dn (cm h).1 (cm h).2).trans H,by omega,by omega⟩;simp_all [iP.refl]
theorem adg{T q}:iP T q (ofN T q).2:=by
 unfold ofN;split;rename_i h;rw[abh]at h
 grind [dn,cm]
 exact jJ
theorem qO{T q}:iP T q (D3 T q).2:=by
 unfold D3;have h:=(KN (T:=T) 3 0 q).1;split;exact h.trans kh;exact(h.trans adg).trans (KM _)
theorem Uw{T q}:0<=(D3 T q).1.2/\(D3 T q).1.2<=3:=by
 have h:=(KN (T:=T) 3 0 q).2.1;unfold D3
 grind
theorem kC{T q}:iP T q (fJ T q).2:=(jJ.trans bV).trans qO
def mu(T:List Tk)(q:RQ):Nat:=if q.fe=0 then Q T-q.at_+1 else 0
theorem o9{T q r}(h:iP T q r):mu T r<=mu T q:=by
 unfold mu;by_cases f:q.fe=0;rw[af f];split;have:=h.le;omega;omega;have ⟨j,_⟩:=h.iO f
 grind
def Ay(T:List Tk)(q r:RQ):Prop:=r.fe≠0\/q.at_<Q T/\q.at_<r.at_
theorem KO{T q r}(f:q.fe=0)(w:Ay T q r):mu T r<mu T q:=by
 unfold mu;rw[af f];rcases w with w|⟨w,v⟩;all_goals grind
theorem sj{T q r}(h:iP T q r)(w:Ay T q r):mu T r<=mu T q-1:=by
 by_cases f:q.fe=0;have:=KO f w;omega;have B:mu T q=0:=by unfold mu;grind
 have:=o9 h;omega
theorem yL{T q}(f:q.fe=0):0<mu T q:=by simp_all [mu]
theorem mo{T q e}(B:e≠0):(lM T q e).fe≠0:=by
 grind [lM]
theorem pU{T q}(h:q.at_<Q T):Ay T q (cD q):=.inr ⟨h,Nat.lt_succ_self _⟩
theorem m9{T q s}:Ay T q (eU T q s):=by
 unfold eU;split;rename_i h;exact pU (cm h).2;exact .inl (mo (by decide))
theorem nM{T q s}:Ay T q (mL T q s):=by
 unfold mL;split;exact .inl (mo (by decide));exact m9
theorem tr{T q}:Ay T q (fG T q).2:=by
 unfold fG;split
 grind [pU,Aw]
 exact .inl (mo (by decide))
theorem Ay.trans{T q r s}(w:Ay T q r)(h:iP T r s):Ay T q s:=by
 rcases w with w|⟨w,v⟩;exact .inl (by rw[(h.iO w).1];exact w);exact .inr ⟨w,Nat.lt_of_lt_of_le v h.le⟩
theorem iP.OK{T q r s}(h:iP T q r)(w:Ay T r s):Ay T q s:=by
 rcases w with w|⟨w,v⟩;exact .inl w;exact .inr ⟨aoA h.le w,aoA h.le v⟩
theorem Az{T q}:Ay T q (fJ T q).2:=(tr.trans bV).trans qO
theorem Fq(T):∀f:Nat,(∀n q e r,lN T f n q=Z (e,r)->iP T q r)/\(∀n a q e r,tn T f n a q=Z (e,r)->iP T q r)/\
  (∀q e r,uY T f q=Z (e,r)->iP T q r)/\(∀a q e r,nK T f a q=Z (e,r)->iP T q r)/\(∀q e r,rZ T f q=Z (e,r)->iP T q r)/\
  (∀q e r,uZ T f q=Z (e,r)->iP T q r)/\(∀a q e r,u0 T f a q=Z (e,r)->iP T q r)/\(∀q e r,Bb T f q=Z (e,r)->iP T q r)/\
  (∀l q e r,zp T f l q=Z (e,r)->iP T q r)
 |0=>by simp[lN,tn,uY,nK,rZ,uZ,u0,Bb,zp]|f+1=>by
  have ⟨j,s,w,k,o,t,v,M,p⟩:=Fq T f;refine⟨λn q e r h=>?_,λn a q e r h=>?_,λq e r h=>?_,λa q e r h=>?_,λq e r h=>?_,λq e r h=>?_,λa q e r h=>?_,λq e r h=>?_,λl q e r h=>?_⟩;unfold lN at h;split at h
  grind
  have ⟨⟨m,x⟩,H,g⟩:=aaf.1 h;exact(j _ _ _ _ H).trans (s _ _ _ _ _ g);unfold tn at h;split at h;rename_i c;have ⟨⟨m,x⟩,H,g⟩:=aaf.1 h;exact((dn c.1 (Fp c.2)).trans (j _ _ _ _ H)).trans (s _ _ _ _ _ g)
  grind [iP.refl]
  unfold uY at h;split at h;have ⟨⟨m,x⟩,H,g⟩:=aaf.1 h;cases g;exact(iq.trans (j _ _ _ _ H)).trans GU;have ⟨⟨m,x⟩,H,g⟩:=aaf.1 h;exact(t _ _ _ H).trans (k _ _ _ _ g);unfold nK at h;split at h;rename_i c;exact((dn (cm c).1 (cm c).2).trans jJ).trans (k _ _ _ _ h);split at h;have ⟨⟨m,x⟩,H,g⟩:=aaf.1 h;exact((iq.trans (j _ _ _ _ H)).trans gH).trans (k _ _ _ _ g)
  grind [iP.refl]
  unfold rZ at h;have ⟨⟨m,x⟩,H,g⟩:=aaf.1 h;cases g;exact(iq.trans (j _ _ _ _ H)).trans gH;unfold uZ at h;split at h
  grind [dn,Aw]
  split at h;rename_i c;cases h;rw[abh]at c
  grind [dn,cm]
  split at h;rename_i c;cases h;exact(dn (cm c).1 (cm c).2).trans qO;split at h;rename_i c;exact(dn (cm c).1 (cm c).2).trans (v _ _ _ _ h);split at h;rename_i c;have ⟨⟨m,x⟩,H,g⟩:=aaf.1 h;cases g;exact(dn (cm c).1 (cm c).2).trans (o _ _ _ H);split at h;rename_i c;cases h;exact((dn (cm c).1 (cm c).2).trans iq).trans gH;split at h
  grind
  split at h;have ⟨⟨m,x⟩,H,g⟩:=aaf.1 h;cases g;exact jJ.trans (M _ _ _ H);cases h;exact jJ;unfold u0 at h;split at h;rename_i c;have ⟨⟨m,x⟩,H,g⟩:=aaf.1 h;cases g;exact(((dn (cm c).1 (cm c).2).trans qO).trans bV).trans (o _ _ _ H);cases h;exact jJ;unfold Bb at h;split at h;cases h;exact iq.trans gH;have ⟨⟨m,x⟩,H,g⟩:=aaf.1 h;exact(iq.trans (j _ _ _ _ H)).trans (p _ _ _ _ g);unfold zp at h;split at h;rename_i c;have ⟨⟨m,x⟩,H,g⟩:=aaf.1 h;exact((dn (cm c).1 (cm c).2).trans (j _ _ _ _ H)).trans (p _ _ _ _ g);cases h;exact gH
theorem kW{T f n q r e}(h:lN T f n q=Z (e,r)):iP T q r:=(Fq T f).1 _ _ _ _ h
theorem bind_some{h j:Type}{x}{g:h->Option j}(H:∃a,x=Z a)(k:∀a,x=Z a->∃b,g a=Z b):∃b,x.bind g=Z b:=by
 grind
theorem RG(T):∀f:Nat,(∀n q,n<=5->40*mu T q+12<=f+n->∃x,lN T f n q=Z x)/\(∀n a q,n<5->40*mu T q+1<=f->∃x,tn T f n a q=Z x)/\
  (∀q,40*mu T q+6<=f->∃x,uY T f q=Z x)/\(∀a q,40*mu T q+1<=f->∃x,nK T f a q=Z x)/\(∀q,40*(mu T q-1)+13<=f->∃x,rZ T f q=Z x)/\
  (∀q,40*mu T q+5<=f->∃x,uZ T f q=Z x)/\(∀a q,40*mu T q+15<=f->∃x,u0 T f a q=Z x)/\(∀q,40*(mu T q-1)+13<=f->∃x,Bb T f q=Z x)/\
  (∀l q,40*mu T q+1<=f->∃x,zp T f l q=Z x)
 |0=>by
  grind
 |f+1=>by
  have ⟨j,v,O,p,N,z,B,M,r⟩:=RG T f;have ⟨g,J,L,gB,E,G,I,D,F⟩:=Fq T f;refine⟨λn q w y=>?_,λn a q w y=>?_,λq h=>?_,λa q h=>?_,λq h=>?_,λq h=>?_,λa q h=>?_,λq h=>?_,λl q h=>?_⟩;unfold lN;split
  grind
  refine bind_some (j _ _ (by omega) (by omega)) λ⟨k,o⟩ H=>?_;try dsimp only
  have:=o9 (g _ _ _ _ H);exact v _ _ _ (by omega) (by omega);unfold tn;split;rename_i c;have m:=sj (dn c.1 (Fp c.2)) (pU (Fp c.2));have m0:=yL (T:=T) c.1;refine bind_some (j _ _ (by omega) (by omega)) λ⟨k,o⟩ H=>?_;try dsimp only
  have:=o9 (g _ _ _ _ H);exact v _ _ _ (by omega) (by omega)
  grind
  unfold uY;split;rename_i c;rw[abh]at c;have C:q.fe=0:=by rcases c with c|c<;>exact(cm c).1
  have m:=sj (T:=T) (q:=q) (iq (s:=(g9 T q).t)) nM;have m0:=yL (T:=T) C;exact bind_some (j _ _ (by omega) (by omega)) λx _=>⟨_,rfl⟩;refine bind_some (z _ (by omega)) λ⟨k,o⟩ H=>?_;try dsimp only
  have:=o9 (G _ _ _ H);exact p _ _ (by omega);unfold nK;split;rename_i c;have m:=sj ((dn (cm c).1 (cm c).2).trans jJ) ((pU (cm c).2).trans jJ);have m0:=yL (T:=T) (cm c).1;exact p _ _ (by omega);split;rename_i c;have m0:=yL (T:=T) (cm c).1;have m:=sj (T:=T) (q:=q) (iq (s:=[91])) nM;refine bind_some (j _ _ (by omega) (by omega)) λ⟨k,o⟩ H=>?_;try dsimp only
  have P:=o9 ((g _ _ _ _ H).trans (gH (s:=[93])));exact p _ _ (by omega)
  grind
  unfold rZ;have m:=sj (T:=T) (q:=q) (iq (s:=[40])) nM;exact bind_some (j _ _ (by omega) (by omega)) λx _=>⟨_,rfl⟩;unfold uZ;split
  grind
  split
  grind
  split
  grind
  split;rename_i c;have m:=sj (dn (cm c).1 (cm c).2) (pU (cm c).2);have m0:=yL (T:=T) (cm c).1;exact B _ _ (by omega);split;rename_i c;have m:=sj (dn (cm c).1 (cm c).2) (pU (cm c).2);have m0:=yL (T:=T) (cm c).1
  grind
  split
  grind
  split;rename_i c;have m0:=yL (T:=T) (cm c).1
  grind
  split;rename_i c;have m0:=yL (T:=T) (cm c).1;have m:=o9 (T:=T) (q:=q) jJ
  grind
  grind
  unfold u0;split;rename_i c;have m:=o9 (((dn (cm c).1 (cm c).2).trans qO).trans (bV (s:=[93])))
  grind
  grind
  unfold Bb;split
  grind
  have m:=sj (T:=T) (q:=q) (iq (s:=[40])) nM;refine bind_some (j _ _ (by omega) (by omega)) λ⟨k,o⟩ H=>?_;try dsimp only
  have:=o9 (g _ _ _ _ H);exact r _ _ (by omega);unfold zp;split;rename_i c;have m:=sj (dn (cm c).1 (cm c).2) (pU (cm c).2);have m0:=yL (T:=T) (cm c).1;refine bind_some (j _ _ (by omega) (by omega)) λ⟨k,o⟩ H=>?_;try dsimp only
  have:=o9 (g _ _ _ _ H);exact r _ _ (by omega)
  grind
theorem tu{T f q}(h:40*mu T q+12<=f):∃x,lN T f 0 q=Z x:=(RG T f).1 0 q (by omega) (by omega)
theorem Ux{T f a q r s}(h:B7 T f a q=Z (s,r)):iP T q r/\Ay T q r:=by
 have ⟨⟨m,x⟩,g,H⟩:=aaf.1 h;have y:=kW g;split at H;have ⟨⟨n,o⟩,l,j⟩:=aaf.1 H;cases j;have z:iP T x (eU T (if m.k=4\/m.k=5\/m.k=6 then x else lM T x 2) [61]):=by
  grind [iP.trans,bV,kh]
 have C:=(y.trans z).trans (kW l);exact⟨C.trans bV,C.OK m9⟩;cases H;have z:iP T x (if jZ T x [59]=Y/\m.k≠7 then lM T x 2 else x):=by
  grind [kh,iP.refl]
 exact⟨(y.trans z).trans bV,(y.trans z).OK m9⟩
theorem wW(T):∀f:Nat,(∀q s r,Bc T f q=Z (s,r)->iP T q r/\Ay T q r)/\(∀q s r,mZ T f q=Z (s,r)->iP T q r/\Ay T q r)/\
  (∀l q s r,tq T f l q=Z (s,r)->iP T q r)
 |0=>by simp[Bc,mZ,tq]|f+1=>by
  have ⟨p,n,W⟩:=wW T f;refine⟨λq s r h=>?_,λq s r h=>?_,λl q s r h=>?_⟩;unfold Bc at h;split at h;rename_i c;cases h;have g:=(dn (cm c).1 (cm c).2).trans kC;exact⟨g.trans bV,g.OK m9⟩;split at h;rename_i c;have ⟨⟨x,o⟩,H,j⟩:=aaf.1 h;cases j;have g:=(((dn (cm c).1 (cm c).2).trans kC).trans bV).trans (kW H);exact⟨g.trans bV,g.OK m9⟩;split at h;rename_i c;have ⟨⟨x,o⟩,H,j⟩:=aaf.1 h;have ⟨⟨t,v⟩,k,m⟩:=aaf.1 j;have y:=(dn (cm c).1 (cm c).2).trans (kW H);have g:=y.trans (n _ _ _ k).1;have w:=y.OK (n _ _ _ k).2;dsimp only at m;split at m;rename_i d;have ⟨⟨B,D⟩,O,C⟩:=aaf.1 m;cases C;have z:=(dn (cm d).1 (cm d).2).trans (n _ _ _ O).1;exact⟨g.trans z,w.trans z⟩
  grind
  split at h;rename_i c;have ⟨⟨x,o⟩,H,j⟩:=aaf.1 h;have ⟨⟨t,v⟩,k,m⟩:=aaf.1 j;cases m;have y:=(dn (cm c).1 (cm c).2).trans (kW H);exact⟨y.trans (n _ _ _ k).1,y.OK (n _ _ _ k).2⟩;split at h;rename_i c;have y:=dn (cm c).1 (cm c).2;split at h;cases h;exact⟨y.trans bV,y.OK m9⟩;have ⟨⟨x,o⟩,H,j⟩:=aaf.1 h;cases j;have g:=y.trans (kW H);exact⟨g.trans bV,g.OK m9⟩;split at h;rename_i c;have ⟨⟨x,o⟩,H,j⟩:=aaf.1 h;cases j;have g:=(dn (cm c).1 (cm c).2).trans (kW H);exact⟨g.trans bV,g.OK m9⟩;exact Ux h;unfold mZ at h;have g:=W _ _ _ _ h;exact⟨iq.trans g,nM.trans g⟩;unfold tq at h;split at h;have ⟨⟨x,o⟩,H,j⟩:=aaf.1 h;exact(p _ _ _ H).1.trans (W _ _ _ _ j);cases h;exact gH
theorem Uy{T f a q}(h:40*mu T q+12<=f):∃x,B7 T f a q=Z x:=by
 refine bind_some (tu h) λ⟨m,g⟩ H=>?_;try dsimp only
 have M:=o9 (kW H);split;have z:iP T g (eU T (if m.k=4\/m.k=5\/m.k=6 then g else lM T g 2) [61]):=by
  grind [iP.trans,bV,kh]
 have P:=o9 z;exact bind_some (tu (by omega)) λx _=>⟨_,rfl⟩
 grind
theorem KQ(T):∀f:Nat,(∀q,40*mu T q+15<=f->∃x,Bc T f q=Z x)/\(∀q,40*(mu T q-1)+18<=f->∃x,mZ T f q=Z x)/\
  (∀l q,40*mu T q+17<=f->∃x,tq T f l q=Z x)
 |0=>by grind|f+1=>by
  have ⟨o,n,W⟩:=KQ T f;have ⟨J,gB,G⟩:=wW T f;refine⟨λq h=>?_,λq h=>?_,λl q h=>?_⟩;have one:∀s,jZ T q s=Y->mu T _<=mu T q-1/\0<mu T q:=λs c=>⟨sj (dn (cm c).1 (cm c).2) (pU (cm c).2),yL (cm c).1⟩;unfold Bc;split
  grind
  split;rename_i c;have m0:=one _ c;have m:=o9 (T:=T) (q:=cD q) (kC.trans (bV (s:=[61])));exact bind_some (tu (by omega)) λx _=>⟨_,rfl⟩;split;rename_i c;have m0:=one _ c;refine bind_some (tu (by omega)) λ⟨g,j⟩ H=>?_;try dsimp only
  have m:=o9 (kW H);refine bind_some (n _ (by omega)) λ⟨y,p⟩ k=>?_;try dsimp only
  have P:=o9 (gB _ _ _ k).1;split;rename_i d;have M:=o9 (dn (cm d).1 (cm d).2)
  grind
  grind
  split;rename_i c;have m0:=one _ c;refine bind_some (tu (by omega)) λ⟨g,j⟩ H=>?_;try dsimp only
  have m:=o9 (kW H)
  grind
  split;rename_i c;have m0:=one _ c;split
  grind
  exact bind_some (tu (by omega)) λx _=>⟨_,rfl⟩;split;rename_i c;have m0:=one _ c;exact bind_some (tu (by omega)) λx _=>⟨_,rfl⟩;exact Uy (by omega);unfold mZ;have m:=sj (T:=T) (q:=q) (iq (s:=[123])) nM;exact W _ _ (by omega);unfold tq;split;rename_i c;refine bind_some (o _ (by omega)) λ⟨g,j⟩ H=>?_;try dsimp only
  have m:=KO c.1 (J _ _ _ H).2;exact W _ _ (by omega)
  grind
theorem AA{T f q r s}(h:mZ T f q=Z (s,r)):iP T q r/\Ay T q r:=(wW T f).2.1 _ _ _ h
theorem KR{T f q}(h:40*mu T q+18<=f):∃x,mZ T f q=Z x:=(KQ T f).2.1 _ (by omega)
theorem Ic(T):∀f l q s r,qM T f l q=Z (s,r)->iP T q r
 |0,_,_,_,_,h=>by trivial|f+1,l,q,s,r,h=>by
  unfold qM at h;split at h;split at h;cases h;exact kh;exact(kC.trans bV).trans (Ic T f _ _ _ _ h)
  grind [iP.refl]
theorem Ie(T):∀f l q,mu T q<f->∃x,qM T f l q=Z x
 |0,_,_,h=>au h|f+1,l,q,h=>by
  unfold qM;split;rename_i c;split
  grind
  have:=KO c.1 ((Az (T:=T)).trans (bV (s:=[59])));exact Ie T f _ _ (by omega)
  grind
theorem B9{T f q r s}(h:Av T f q=Z (s,r)):iP T q r/\Ay T q r:=by
 have ⟨⟨m,x⟩,H,j⟩:=aaf.1 h;cases j;have g:=(bV).trans (Ic T f _ _ _ _ H);exact⟨(jJ.trans g).trans bV,((tr.trans g)).trans bV⟩
theorem RH{T f q}(h:mu T q<f):∃x,Av T f q=Z x:=by
 have m:=o9 (T:=T) (q:=q) (jJ.trans (bV (s:=[123])));exact bind_some (Ie T f _ _ (by omega)) λx _=>⟨_,rfl⟩
theorem wX{T q}:iP T q (KL T q):=by
 unfold KL;split;exact iP.refl _ _;split;exact bV.trans kh;exact bV
theorem ya(T):∀f l q s r,qN T f l q=Z (s,r)->iP T q r
 |0,_,_,_,_,h=>by trivial|f+1,l,q,s,r,h=>by
  unfold qN at h;split at h;split at h;cases h;exact kh;exact(kC.trans wX).trans (ya T f _ _ _ _ h)
  grind [iP.refl]
theorem Ig(T):∀f l q,mu T q<f->∃x,qN T f l q=Z x
 |0,_,_,h=>au h|f+1,l,q,h=>by
  unfold qN;split;rename_i c;split
  grind
  have:=KO c.1 ((Az (T:=T)).trans wX);exact Ig T f _ _ (by omega)
  grind
theorem GW{T f q r s}(h:B8 T f q=Z (s,r)):iP T q r/\Ay T q r:=by
 have ⟨⟨x,k⟩,j,H⟩:=aaf.1 h;have g:=((bV).trans (ya T f _ _ _ _ j)).trans (bV (s:=[41]));have G:=jJ.trans g;split at H;rename_i d;have ⟨⟨n,o⟩,l,m⟩:=aaf.1 H;cases m;have z:=((dn (cm d).1 (cm d).2).trans qO).trans (AA l).1;exact⟨G.trans z,(tr.trans g).trans z⟩;have ⟨⟨n,o⟩,l,m⟩:=aaf.1 H;cases m;have z:=(AA l).1;exact⟨G.trans z,(tr.trans g).trans z⟩
theorem Y0{T f q}(h:40*mu T q+18<=f):∃x,B8 T f q=Z x:=by
 have m:=o9 (T:=T) (q:=q) (jJ.trans (bV (s:=[40])));refine bind_some (Ig T f _ _ (by omega)) λ⟨g,j⟩ H=>?_;try dsimp only
 have M:=o9 ((ya T f _ _ _ _ H).trans (bV (s:=[41])));split;rename_i d;have P:=o9 ((dn (cm d).1 (cm d).2).trans qO);exact bind_some (KR (by omega)) λx _=>⟨_,rfl⟩;exact bind_some (KR (by omega)) λx _=>⟨_,rfl⟩
theorem wz(T):∀f p q,40*mu T q+19<=f->∃x,rq T f p q=Z x
 |0,_,_,h=>au h|f+1,p,q,h=>by
  unfold rq;split;rename_i c;have W:=KO c.1 (T:=T) (r:=lM T q 4) (.inl (mo (by decide)));have w:=KO c.1 (T:=T) (r:=lM T q 2) (.inl (mo (by decide)));have M:=KO c.1 (pU (Aw c.2));split;exact wz T f _ _ (by omega);split;refine bind_some (RH (by omega)) λ⟨m,g⟩ H=>?_;try dsimp only
  have:=o9 (B9 H).1;exact wz T f _ _ (by omega);split;have:=o9 (T:=T) (q:=cD q) (kC.trans (bV (s:=[59])));exact wz T f _ _ (by omega);split;refine bind_some (Y0 (by omega)) λ⟨m,g⟩ H=>?_;try dsimp only
  have:=o9 (GW H).1;exact wz T f _ _ (by omega);exact wz T f _ _ (by omega)
  grind
theorem yb(T):∃x,yK T (40*Q T+100)=Z x:=by
 exact bind_some (wz T _ _ _ (by simp[mu];omega)) λx _=>⟨_,rfl⟩
def InN(T:List Tk)(N:Int):Prop:=0<=N/\∀x∈T,0<=x.a/\x.a<=N
theorem OL{T N}(h:InN T N)(q):0<=(g9 T q).a/\(g9 T q).a<=N:=by
 by_cases H:q.at_<Q T;have:g9 T q=T[q.at_]:=by simp[g9,H]
 rw[this];exact h.2 _ (List.getElem_mem H);have g:g9 T q=Tk0:=by simp[g9,List.getD,List.getElem?_eq_none (Nat.le_of_not_lt H)]
 rw[g];exact⟨am9 _,h.1⟩
def OM(N:Int)(p:PD):Prop:=0<=p.od/\p.od<=3/\0<=p.at_/\p.at_<=N
theorem KS{T N}(h:InN T N)(q):OM N (fJ T q).1:=⟨Uw.1,Uw.2,(OL h q).1,(OL h q).2⟩
structure Rc.In (N:Int)(r:Rc):Prop where
 a:0<=r.a/\r.a<=N
 len:r.cr.length<=9
 f:∀p∈r.cr,OM N p
structure Fc.In (N:Int)(r:Fc):Prop where
 a:0<=r.a/\r.a<=N
 len:r.params.length<=7
 f:∀p∈r.params,OM N p
 od:0<=r.od/\r.od<=3
structure Pg.In (N:Int)(p:Pg):Prop where
 r:p.aR.length<=12/\∀x∈p.aR,Rc.In N x
 g:p.ax.length<=8/\∀x∈p.ax,OM N x
 f:p.funcs.length<=16/\∀x∈p.funcs,Fc.In N x
theorem wY{g:Type}{P:g->Prop}{l a}(h:∀x∈l,P x)(H:P a):∀x∈l++[a],P x:=by
 grind
theorem RI{T q}(h:(g9 T q).k≠1):(fG T q).2.fe≠0:=by
 simp_all [fG,mo]
theorem C4{T q}(h:(g9 T q).k≠1):(fJ T q).2.fe≠0:=by
 have g:iP T (fG T q).2 (fJ T q).2:=bV.trans qO;rw[(g.iO (RI h)).1];exact RI h
theorem M6{T N}(j:InN T N):∀f l q s r,qM T f l q=Z (s,r)->(∀p∈l,OM N p)->(Q l<=8\/q.fe≠0/\Q l<=9)->
  (∀p∈s,OM N p)/\(Q s<=8\/r.fe≠0/\Q s<=9)
 |0,_,_,_,_,h,_,_=>by simp[qM]at h|f+1,l,q,s,r,h,H,o=>by
  unfold qM at h;split at h;rename_i c;have n:Q l<=8:=by
   grind
  split at h
  grind
  rename_i c2;refine M6 j f _ _ _ _ h (wY H (KS j q)) ?_;by_cases m:(g9 T q).k=1
  grind
  refine .inr ⟨?_,by simp;omega⟩;have g:=bV (T:=T) (q:=(fJ T q).2) (s:=[59]);rw[(g.iO (C4 m)).1];exact C4 m
  grind
theorem M7{T N}(j:InN T N):∀f l q s r,qN T f l q=Z (s,r)->(∀p∈l,OM N p)->(Q l<=6\/q.fe≠0/\Q l<=7)->
  (∀p∈s,OM N p)/\(Q s<=6\/r.fe≠0/\Q s<=7)
 |0,_,_,_,_,h,_,_=>by simp[qN]at h|f+1,l,q,s,r,h,H,o=>by
  unfold qN at h;split at h;rename_i c;have n:Q l<=6:=by
   grind
  split at h
  grind
  rename_i c2;refine M7 j f _ _ _ _ h (wY H (KS j q)) ?_;by_cases m:(g9 T q).k=1
  grind
  refine .inr ⟨?_,by simp;omega⟩;have g:=wX (T:=T) (q:=(fJ T q).2);rw[(g.iO (C4 m)).1];exact C4 m
  grind
theorem Y1{T N}(j:InN T N){f q r s}(h:Av T f q=Z (s,r)):Rc.In N s/\(r.fe=0->Q s.cr<=8):=by
 unfold Av at h;obtain⟨⟨m,x⟩,H,g⟩:=aaf.1 h;cases g;obtain⟨a,b⟩:=M6 j _ _ _ _ _ H (by simp) (by simp);refine⟨⟨OL j q,by grind,a⟩,λe=>?_⟩;rcases b with b|b;exact b;exact bH (bV.Ib e) b.1
theorem ahy{T N}(j:InN T N){f q r s}(h:B8 T f q=Z (s,r)):Fc.In N s/\(r.fe=0->Q s.params<=6):=by
 unfold B8 at h;obtain⟨⟨x,o⟩,n,H⟩:=aaf.1 h;obtain⟨a,b⟩:=M7 j _ _ _ _ _ n (by simp) (by simp);have k:=OL j q;have M:∀r:RQ,iP T o r->r.fe=0->Q x<=6:=λr g e=>by
  rcases b with b|b;exact b;exact bH (g.Ib e) b.1
 have B:Q x<=7:=by grind
 dsimp only at H;split at H;rename_i d;obtain⟨⟨y,p⟩,l,m⟩:=aaf.1 H;cases m;exact⟨⟨k,B,a,Uw⟩,M _ (((bV.trans (dn (cm d).1 (cm d).2)).trans qO).trans (AA l).1)⟩;obtain⟨⟨y,p⟩,l,m⟩:=aaf.1 H;cases m;exact⟨⟨k,B,a,am9 _,by grind⟩,M _ (bV.trans (AA l).1)⟩
def Pg.few(p:Pg):Prop:=(∀x∈p.aR,Q x.cr<=8)/\∀x∈p.funcs,Q x.params<=6
theorem C5{T N}(H:InN T N):∀f p q s r,rq T f p q=Z (s,r)->Pg.In N p->(q.fe=0->p.few)->Pg.In N s/\(r.fe=0->s.few)
 |0,_,_,_,_,h,_,_=>by simp[rq]at h|f+1,p,q,s,r,h,j,k=>by
  unfold rq at h;split at h;rename_i c;split at h;exact C5 H f _ _ _ _ h j λe=>bH e (mo (by decide));rename_i l;split at h;rename_i d;obtain⟨⟨x,o⟩,m,n⟩:=aaf.1 h;obtain⟨D,I⟩:=Y1 H m;have:Q p.aR≠12:=λe=>l (.inl ⟨d,e⟩);have:=j.r.1;exact C5 H f _ _ _ _ n ⟨⟨by simp;omega,wY j.r.2 D⟩,j.g,j.f⟩ λe=>⟨wY (k c.1).1 (I e),(k c.1).2⟩;split at h;rename_i d;have:Q p.ax≠8:=λe=>l (.inr (.inl ⟨d,e⟩));have:=j.g.1;exact C5 H f _ _ _ _ h ⟨j.r,⟨by simp;omega,wY j.g.2 (KS H _)⟩,j.f⟩ λe=>k c.1;split at h;rename_i d;obtain⟨⟨x,o⟩,m,n⟩:=aaf.1 h;obtain⟨D,I⟩:=ahy H m;have:Q p.funcs≠16:=λe=>l (.inr (.inr ⟨d,e⟩));have:=j.f.1;exact C5 H f _ _ _ _ n ⟨j.r,j.g,⟨by simp;omega,wY j.f.2 D⟩⟩ λe=>⟨(k c.1).1,wY (k c.1).2 (I e)⟩;exact C5 H f _ _ _ _ h j λe=>bH e (mo (by decide))
  grind
theorem Uz{N}:Pg.In N Jd:=⟨⟨by simp[Jd],by simp[Jd]⟩,⟨by simp[Jd],by simp[Jd]⟩,⟨by simp[Jd],by simp[Jd]⟩⟩
theorem ON:Jd.few:=⟨by simp[Jd],by simp[Jd]⟩
theorem Y2{T N}(j:InN T N){f x}(h:yK T f=Z x):Pg.In N x.1/\x.1.few:=by
 grind [yK,aaf,C5,Uz,ON,Option.some.injEq]
end jb
namespace jn
open Ax Go V7 jb
abbrev tI:T3:=⟨1,0,0⟩
abbrev tB:T3:=⟨2,0,0⟩
structure Vd where
 nm:List UInt8
 ty:T3
 deriving DecidableEq
structure Sg where
 nm:List UInt8
 ps:List Vd
 bY:Bool
 res:T3
structure Hd where
 rs:List (List UInt8)
 bN:List (List UInt8×List Vd)
 ax:List Vd
 aZ:List Sg
def qb(rs:List (List UInt8))(l:List PD):List Vd:=l.map λq=>⟨q.name,(dz rs q.on q.od).1⟩
def iz(p:Pg):List (List UInt8):=p.aR.map (·.name)
def Ca(rs:List (List UInt8))(f:Fc):Sg:=⟨f.name,qb rs f.params,f.bY,if f.bY then (dz rs f.on f.od).1 else T0⟩
def aY(p:Pg):Hd:=⟨iz p,p.aR.map λr=>(r.name,qb (iz p) r.cr),qb (iz p) p.ax,p.funcs.map (Ca (iz p))⟩
def jA(s:List UInt8):Nat->List Vd->Option (Nat×T3)
 |_,[]=>K|i,f::l=>if f.nm=s then Z (i,f.ty) else jA s (i+1) l
def vM(H:Hd)(v:List Vd)(s:List UInt8):Option (T3×Int):=match jA s 0 v with
 |some (k,t)=>Z (t,(k:Int))|none=>match jA s 0 H.ax with
  |some (k,t)=>Z (t,-1-(k:Int))|none=>K
def vq(s:List UInt8):Nat->List Sg->Option (Nat×Sg)
 |_,[]=>K|i,g::l=>if g.nm=s then Z (i,g) else vq s (i+1) l
def jV:List Vd->List E->Bool
 |[],[]=>Y|f::l,e::r=>decide (e.ty=f.ty)&&jV l r|_,_=>false
def iG(k n:Int)(m:Nat):Bool:=
 if k=1\/k=3\/k=4\/k=8\/k=11 then V (m=0)
 else if k=2 then V (m=0)&&(V (n=0)||decide (n=1))
 else if k=7 then Y
 else if k=5\/k=9\/k=10\/k=12\/k=13 then V (m=1)
 else (V (k=6)||decide (14<=k)&&V (k<=24))&&V (m=2)
def Fs(g:List E):T3:=match g with|e::_=>e.ty | []=>T0
def LJ(g:List E):T3:=match g with|_::e::_=>e.ty|_=>T0
def wZ(k n:Int):Int:=if k=1\/k=2 then n else 0
def w6(k:Int)(N:List UInt8):List UInt8:=if k=4\/k=5\/k=7 then N else []
def w7(k:Int)(O:List UInt8):List UInt8:=if k=3\/k=8\/k=9 then O else []
def w8(k:Int)(o:Int):Int:=if k=3\/k=8\/k=9 then o else 0
def KT(b:Bool)(t:T3):Option (T3×Int):=if b then Z (t,0) else K
def AB(H:Hd)(t:T3)(N:List UInt8):Option (T3×Int):=if t.b=3/\t.d=0 then match H.bN[t.r.toNat]? with
  |some s=>match jA N 0 s.2 with
   |some (i,u)=>Z (u,(i:Int))|none=>K
  |none=>K
 else K
def sq(H:Hd)(N:List UInt8)(g:List E):Option (T3×Int):=match vq N 0 H.aZ with
 |some (i,s)=>if jV s.ps g then Z (s.res,(i:Int)) else K
 |none=>K
def pV(k:Int)(a b:T3):Option (T3×Int):=
 if k=14\/k=15\/k=16\/k=17\/k=18 then KT (V (a=tI)&&V (b=tI)) tI
 else if k=19\/k=20 then KT (V (a=tI)&&V (b=tI)) tB
 else if k=21\/k=22 then KT (V (a=b)) tB
 else KT (V (a=tB)&&V (b=tB)) tB
def nN(H:Hd)(v:List Vd)(k:Int)(N O:List UInt8)(o:Int)(g:List E):Option (T3×Int):=
 if k=1\/k=11 then Z (tI,0)
 else if k=2 then Z (tB,0)
 else if k=3 then KT ((dz H.rs O o).2&&lS (dz H.rs O o).1) (dz H.rs O o).1
 else if k=4 then vM H v N
 else if k=5 then AB H (Fs g) N
 else if k=6 then KT (V (0<(Fs g).d)&&V (LJ g=tI)) ⟨(Fs g).b,(Fs g).r,(Fs g).d-1⟩
 else if k=7 then sq H N g
 else if k=8 then KT ((dz H.rs O o).2&&V ((dz H.rs O o).1.b=3)&&V ((dz H.rs O o).1.d=0)) (dz H.rs O o).1
 else if k=9 then KT ((dz H.rs O o).2&&V ((dz H.rs O o).1.d<3)&&V (Fs g=tI)) ⟨(dz H.rs O o).1.b,(dz H.rs O o).1.r,(dz H.rs O o).1.d+1⟩
 else if k=10 then KT (V (0<(Fs g).d)) tI
 else if k=12 then KT (V (Fs g=tI)) tI
 else if k=13 then KT (V (Fs g=tB)) tB
 else pV k (Fs g) (LJ g)
mutual
def yU(H:Hd)(v:List Vd):E->Except Int E
 |.mk k n N O o g a _ _=>if iG k n (Q g) then
   match sK H v g with
   |.error x=>.error x|.ok h=>match nN H v k N O o h with
    |none=>.error a|some (t,r)=>.ok (.mk k (wZ k n) (w6 k N) (w7 k O) (w8 k o) h a t r)
  else .error a
def sK(H:Hd)(v:List Vd):List E->Except Int (List E)
 |[]=>.ok []|e::l=>match yU H v e with
  |.error x=>.error x|.ok y=>if y.ty=T0 then .error y.a else match sK H v l with
   |.error x=>.error x|.ok g=>.ok (y::g)
end
def fL(bY:Bool)(k:Int)(g:List E):Bool:=
 if k=1 then V (Q g=0)
 else if k=4 then match g with | [e,_]=>decide (e.k=5)||decide (e.k=6)|_=>false
 else if k=7 then V (Q g=1)&&bY||decide (Q g=0) && !bY
 else if k=9 then match g with | [e]=>decide (e.k=7)|_=>false
 else if k=2\/k=3\/k=5\/k=6\/k=8 then V (Q g=1)
 else false
def qk(H:Hd)(res:T3)(v:List Vd)(k:Int)(N:List UInt8)(g:List E)(t:T3):Option (Int×List Vd):=
 if k=1 then (match jA N 0 v with|some _=>K|none=>Z ((Q v:Int),v++[⟨N,t⟩]))
 else if k=2 then (if Fs g=t then match jA N 0 v with|some _=>K|none=>Z ((Q v:Int),v++[⟨N,t⟩]) else K)
 else if k=3 then (match vM H v N with|some (u,r)=>if u=Fs g then Z (r,v) else K|none=>K)
 else if k=4 then (if Fs g=LJ g then Z (0,v) else K)
 else if k=5\/k=6 then (if Fs g=tB then Z (0,v) else K)
 else if k=7 then (if Q g=0\/Fs g=res then Z (0,v) else K)
 else if k=8 then (if Fs g=tI then Z (0,v) else K)
 else Z (0,v)
def sR(H:Hd)(k:Int)(O:List UInt8)(o:Int):Option T3:=if k=1\/k=2 then (if (dz H.rs O o).2 then Z (dz H.rs O o).1 else K) else Z T0
def Bq(H:Hd)(v:List Vd)(k:Int)(g:List E):Except Int (List E):=if k=9 then match g with
  |e::_=>match yU H v e with
   |.error x=>.error x|.ok y=>.ok [y]
  |[]=>.ok []
 else sK H v g
def n7(k:Int)(N:List UInt8):List UInt8:=if k=1\/k=2\/k=3 then N else []
def gD(k:Int)(O:List UInt8):List UInt8:=if k=1\/k=2 then O else []
def gG(k:Int)(o:Int):Int:=if k=1\/k=2 then o else 0
mutual
def Br(H:Hd)(bY:Bool)(res:T3):List Vd->Sm->Except Int (Sm×List Vd)
 |v,.mk k N O o E B m a _=>if fL bY k E then
   match sR H k O o with
   |none=>.error a|some t=>match Bq H v k E with
    |.error x=>.error x|.ok y=>match qk H res v k N y t with
     |none=>.error a|some (r,W)=>if k=5 then
       match pe H bY res W B with
       |.error x=>.error x|.ok (b,w)=>match pe H bY res w m with
        |.error x=>.error x|.ok (c,g)=>.ok (.mk k (n7 k N) (gD k O) (gG k o) y b c a r,g)
      else if k=6 then
       match pe H bY res W B with
       |.error x=>.error x|.ok (b,w)=>.ok (.mk k (n7 k N) (gD k O) (gG k o) y b [] a r,w)
      else .ok (.mk k (n7 k N) (gD k O) (gG k o) y [] [] a r,W)
  else .error a
def pe(H:Hd)(bY:Bool)(res:T3):List Vd->List Sm->Except Int (List Sm×List Vd)
 |v,[]=>.ok ([],v)|v,s::l=>match Br H bY res v s with
  |.error x=>.error x|.ok (y,W)=>match pe H bY res W l with
   |.error x=>.error x|.ok (g,X)=>.ok (y::g,X)
end
structure Bd where
 vars:List Vd
 code:List Sm
 a:Int
def rK(H:Hd):List Sg->List Fc->Except Int (List Bd)
 |s::ss,f::fs=>match pe H s.bY s.res s.ps f.body with
  |.error x=>.error x|.ok (c,W)=>match rK H ss fs with
   |.error x=>.error x|.ok l=>.ok (⟨W,c,f.a⟩::l)
 |_,_=>.ok []
def Vd.aK(f:Vd):List AV:=.str f.nm::f.ty.cells
def cM(l:List Vd):AV:=aN 4 (l.map Vd.aK)
def Sg.aK(s:Sg):List AV:=[.str s.nm,cM s.ps,.bool s.bY,.int .i64 s.res.b,.int .i64 s.res.r,.int .i64 s.res.d]
def gh(s:List UInt8×List Vd):List AV:=[.str s.1,cM s.2]
def Bd.aK(b:Bd):List AV:=[cM b.vars,cn b.code,.int .i64 b.a]
theorem E.C6{P:E->Prop}(h:∀e,(∀x∈e.aP,P x)->P e)(e):P e:=h e λx _=>E.C6 h x
termination_by sizeOf e
decreasing_by
 have hx:x∈e.aP:=by assumption
 cases e;simp only[E.aP]at hx;have:=anZ hx
 grind
theorem Sm.C6{P:Sm->Prop}(h:∀s,(∀x∈s.bd,P x)->(∀x∈s.el,P x)->P s)(s):P s:=h s (λx _=>Sm.C6 h x) λx _=>Sm.C6 h x
termination_by sizeOf s
decreasing_by
 all_goals
  rename_i hx;cases s;simp only[Sm.bd,Sm.el]at hx;have:=anZ hx
  grind
mutual
def E.sz:E->Nat
 |.mk _ _ _ _ _ aP _ _ _=>1+E.eJ aP
def E.eJ:List E->Nat
 |[]=>0|e::l=>E.sz e+E.eJ l
end
theorem E.KU(e):0<E.sz e:=by cases e;simp only[E.sz];omega
theorem E.mq:∀l:List E,Q l<=E.eJ l
 |[]=>aal _|e::l=>by
  have:=E.mq l
  grind [E.KU,E.eJ,aaK]
theorem E.sw:∀{l:List E}{e:E},e∈l->E.sz e<=E.eJ l
 |[],_,h=>by cases h|x::l,e,h=>by
  rcases ac2.1 h with h|h
  grind [E.eJ]
  have:=E.sw h;simp only[E.eJ];omega
theorem E.sx(e):E.sz e=1+E.eJ e.aP:=by cases e;rfl
def WT(n:Nat)(t:T3):Prop:=0<=t.d/\t.d<=3/\(t.b=3->0<=t.r/\t.r<n)
structure Hd.ok (H:Hd):Prop where
 rs:H.rs.length=H.bN.length
 bN:∀s∈H.bN,∀f∈s.2,WT H.rs.length f.ty
 ax:∀f∈H.ax,WT H.rs.length f.ty
 aZ:∀s∈H.aZ,WT H.rs.length s.res/\∀f∈s.ps,WT H.rs.length f.ty
theorem adh{n}:WT n T0:=⟨am9 _,by decide,λh=>by cases h⟩
theorem ahz{n}:WT n tI:=⟨am9 _,by decide,λh=>by cases h⟩
theorem amC{n}:WT n tB:=⟨am9 _,by decide,λh=>by cases h⟩
theorem qP(l s d):WT (Q l) (dz l s d).1:=by
 unfold dz;split;exact adh;rename_i h;have n:0<=d/\d<=3:=by omega
 split;exact⟨n.1,n.2,λh=>by cases h⟩;split;exact⟨n.1,n.2,λh=>by cases h⟩;split;exact adh;rename_i h;refine⟨n.1,n.2,λ_=>?_⟩
 grind [WQ,absurd]
theorem Ft{s}:∀{l:List Vd}{i k:Nat}{t:T3},jA s i l=Z (k,t)->∃f∈l,f.ty=t
 |[],_,_,_,h=>by cases h|f::l,i,k,t,h=>by
  unfold jA at h;split at h
  grind
  obtain⟨g,H,j⟩:=Ft h
  grind
theorem M8{s}:∀{l:List Sg}{i k:Nat}{t:Sg},vq s i l=Z (k,t)->t∈l
 |[],_,_,_,h=>by cases h|f::l,i,k,t,h=>by
  unfold vq at h;split at h
  grind
  exact aax _ (M8 h)
theorem Cb{n b t u r}(h:KT b t=Z (u,r))(H:b=Y->WT n t):WT n u:=by
 cases b with
 |false=>cases h|true=>cases h;exact H rfl
theorem amD{H v s t r}(l:H.ok)(y:∀f∈v,WT (Q H.rs) f.ty)(h:vM H v s=Z (t,r)):WT (Q H.rs) t:=by
 unfold vM at h;split at h
 grind [Ft]
 split at h;rename_i k u e;cases h;obtain⟨f,g,j⟩:=Ft e;rw[<-j];exact l.ax f g;cases h
theorem amE{H v k N O o j t r}(l:H.ok)(y:∀f∈v,WT (Q H.rs) f.ty)(w:∀e∈j,WT (Q H.rs) e.ty)(h:nN H v k N O o j=Z (t,r)):WT (Q H.rs) t:=by
 have m:WT (Q H.rs) (Fs j):=by
  unfold Fs
  grind [aat,adh]
 have E:=qP H.rs O o;unfold nN at h;by_cases c1:k=1\/k=11;rw[af c1]at h;cases h;exact ahz;rw[U c1]at h;by_cases c2:k=2;rw[af c2]at h;cases h;exact amC;rw[U c2]at h;by_cases c3:k=3;rw[af c3]at h;grind [Cb];rw[U c3]at h;by_cases c4:k=4;rw[af c4]at h;exact amD l y h;rw[U c4]at h;by_cases C:k=5;rw[af C]at h;unfold AB at h;split at h;split at h;rename_i s q;split at h;rename_i i u e;cases h;obtain⟨f,n,p⟩:=Ft e;rw[<-p];exact l.bN _ (List.mem_of_getElem? q) f n;cases h;cases h;cases h;rw[U C]at h;by_cases c6:k=6;rw[af c6]at h;refine Cb h λg=>?_;simp only[E6,aC]at g;exact⟨by grind,by have:=m.2.1;grind,m.2.2⟩;rw[U c6]at h;by_cases c7:k=7;rw[af c7]at h;unfold sq at h;split at h;rename_i i s e;split at h;cases h;exact(l.aZ s (M8 e)).1;cases h;cases h;rw[U c7]at h;by_cases c8:k=8;rw[af c8]at h;grind [Cb];rw[U c8]at h;by_cases c9:k=9;rw[af c9]at h;refine Cb h λg=>?_;simp only[E6,aC]at g;exact⟨by have:=E.1;grind,by grind,E.2.2⟩;rw[U c9]at h;by_cases D4:k=10;rw[af D4]at h;exact Cb h λ_=>ahz;rw[U D4]at h;by_cases Ew:k=12;rw[af Ew]at h;exact Cb h λ_=>ahz;rw[U Ew]at h;by_cases Gs:k=13;rw[af Gs]at h;exact Cb h λ_=>amC;rw[U Gs]at h
 grind [pV,Cb,ahz,amC]
theorem oe{H v e l g}(h:sK H v (e::l)=.ok g):∃y z,yU H v e=.ok y/\y.ty≠T0/\sK H v l=.ok z/\g=y::z:=by
 unfold sK at h
 grind
theorem jP{H v}{P:E->Prop}:∀{l g:List E},sK H v l=.ok g->(∀e∈l,∀y,yU H v e=.ok y->P y)->∀y∈g,P y
 |[],g,h,_=>by
  grind [sK]
 |e::l,g,h,m=>by
  obtain⟨y,p,o,_,k,rfl⟩:=oe h;intro z n;rcases ac2.1 n with j|j
  grind
  exact jP k (λe B=>m e (aax _ B)) z j
theorem qU{H v e y}(h:yU H v e=.ok y):∃g t r,iG e.k e.n (Q e.aP)=Y/\sK H v e.aP=.ok g/\nN H v e.k e.nm e.on e.od g=Z (t,r)/\y=.mk e.k (wZ e.k e.n) (w6 e.k e.nm) (w7 e.k e.on) (w8 e.k e.od) g e.a t r:=by
 obtain⟨k,n,N,O,o,l,a,T,ref⟩:=e;unfold yU at h;split at h;rename_i m;split at h;cases h;rename_i g B;split at h;cases h;rename_i t r j;cases h;exact⟨g,t,r,m,B,j,rfl⟩;cases h
theorem OO{H v}(j:H.ok)(k:∀f∈v,WT (Q H.rs) f.ty)(e):∀y,yU H v e=.ok y->WT (Q H.rs) y.ty:=by
 induction e using E.C6 with
 |_ e I=>
  intro y h;obtain⟨m,t,r,_,g,l,rfl⟩:=qU h;exact amE j k (jP g I) l
theorem oD{H v}:∀{l g:List E},sK H v l=.ok g->Q g=Q l
 |[],g,h=>by grind [sK]|e::l,g,h=>by
  obtain⟨y,z,_,_,j,rfl⟩:=oe h;simp[oD j]
mutual
def Sm.sz:Sm->Nat
 |.mk _ _ _ _ es bd el _ _=>1+E.eJ es+Sm.eJ bd+Sm.eJ el
def Sm.eJ:List Sm->Nat
 |[]=>0|s::l=>Sm.sz s+Sm.eJ l
end
theorem Sm.KU(s):0<Sm.sz s:=by cases s;simp only[Sm.sz];omega
theorem Sm.mq:∀l:List Sm,Q l<=Sm.eJ l
 |[]=>aal _|e::l=>by
  have:=Sm.mq l;have:=Sm.KU e;simp only[Sm.eJ,aaK];omega
theorem Sm.sw:∀{l:List Sm}{e:Sm},e∈l->Sm.sz e<=Sm.eJ l
 |[],_,h=>by cases h|x::l,e,h=>by
  rcases ac2.1 h with h|h;subst h;simp only[Sm.eJ];omega;have:=Sm.sw h;simp only[Sm.eJ];omega
theorem Sm.w9(s):Sm.sz s=1+E.eJ s.es+Sm.eJ s.bd+Sm.eJ s.el:=by cases s;rfl
theorem amF(H bY res v k N O o E B m a ref):Br H bY res v (.mk k N O o E B m a ref)=if fL bY k E then
   match sR H k O o with
   |none=>.error a|some t=>match Bq H v k E with
    |.error x=>.error x|.ok y=>match qk H res v k N y t with
     |none=>.error a|some (r,W)=>if k=5 then
       match pe H bY res W B with
       |.error x=>.error x|.ok (b,w)=>match pe H bY res w m with
        |.error x=>.error x|.ok (c,g)=>.ok (.mk k (n7 k N) (gD k O) (gG k o) y b c a r,g)
      else if k=6 then
       match pe H bY res W B with
       |.error x=>.error x|.ok (b,w)=>.ok (.mk k (n7 k N) (gD k O) (gG k o) y b [] a r,w)
      else .ok (.mk k (n7 k N) (gD k O) (gG k o) y [] [] a r,W)
  else .error a:=by
 (conv=>lhs;unfold Br)<;>rfl
theorem KW(H bY res v s):Br H bY res v s=if fL bY s.k s.es then
   match sR H s.k s.on s.od with
   |none=>.error s.a|some t=>match Bq H v s.k s.es with
    |.error x=>.error x|.ok y=>match qk H res v s.k s.nm y t with
     |none=>.error s.a|some (r,W)=>if s.k=5 then
       match pe H bY res W s.bd with
       |.error x=>.error x|.ok (b,w)=>match pe H bY res w s.el with
        |.error x=>.error x|.ok (c,g)=>.ok (.mk s.k (n7 s.k s.nm) (gD s.k s.on) (gG s.k s.od) y b c s.a r,g)
      else if s.k=6 then
       match pe H bY res W s.bd with
       |.error x=>.error x|.ok (b,w)=>.ok (.mk s.k (n7 s.k s.nm) (gD s.k s.on) (gG s.k s.od) y b [] s.a r,w)
      else .ok (.mk s.k (n7 s.k s.nm) (gD s.k s.on) (gG s.k s.od) y [] [] s.a r,W)
  else .error s.a:=by
 obtain⟨k,N,O,o,E,B,m,a,ref⟩:=s;exact amF H bY res v k N O o E B m a ref
theorem yM{H bY res v g s y}(h:Br H bY res v s=.ok (y,g)):∃t j r W,fL bY s.k s.es=Y/\sR H s.k s.on s.od=Z t/\Bq H v s.k s.es=.ok j/\qk H res v s.k s.nm j t=Z (r,W)/\
  (s.k=5/\(∃b w c,pe H bY res W s.bd=.ok (b,w)/\pe H bY res w s.el=.ok (c,g)/\y=.mk s.k (n7 s.k s.nm) (gD s.k s.on) (gG s.k s.od) j b c s.a r)\/
   s.k=6/\(∃b,pe H bY res W s.bd=.ok (b,g)/\y=.mk s.k (n7 s.k s.nm) (gD s.k s.on) (gG s.k s.od) j b [] s.a r)\/
   s.k≠5/\s.k≠6/\g=W/\y=.mk s.k (n7 s.k s.nm) (gD s.k s.on) (gG s.k s.od) j [] [] s.a r):=by
 rw[KW]at h;split at h;rename_i n;split at h;cases h;rename_i t o;split at h;cases h;rename_i j p;split at h;cases h;rename_i r W F;refine⟨t,j,r,W,n,o,p,F,?_⟩;split at h;rename_i O;split at h;cases h;rename_i b w l;split at h;cases h;rename_i c q m;cases h;exact .inl ⟨O,b,w,c,l,m,rfl⟩;rename_i O;split at h;rename_i C;split at h;cases h;rename_i b w l;cases h;exact .inr (.inl ⟨C,b,l,rfl⟩);rename_i C;cases h;exact .inr (.inr ⟨O,C,rfl,rfl⟩);cases h
theorem qy{H bY res v g s l z}(h:pe H bY res v (s::l)=.ok (z,g)):∃y W j,Br H bY res v s=.ok (y,W)/\pe H bY res W l=.ok (j,g)/\z=y::j:=by
 unfold pe at h;split at h;cases h;rename_i y W m;split at h;cases h;rename_i j B k;cases h;exact⟨y,W,j,m,k,rfl⟩
theorem adi{H res v W k N E t r}(h:qk H res v k N E t=Z (r,W)):W=v\/(k=1\/k=2)/\W=v++[⟨N,t⟩]:=by
 unfold qk at h;split at h;rename_i c;split at h;cases h;cases h;exact .inr ⟨.inl c,rfl⟩;split at h;rename_i c;split at h;split at h;cases h;cases h;exact .inr ⟨.inr c,rfl⟩;cases h;all_goals left
 split at h;split at h;split at h<;>cases h;rfl;cases h;split at h;split at h<;>cases h;rfl;split at h;split at h<;>cases h;rfl;split at h;split at h<;>cases h;rfl;split at h;split at h<;>cases h;rfl;cases h;rfl
theorem ahA{H k O o t}(h:sR H k O o=Z t):WT (Q H.rs) t:=by
 unfold sR at h;split at h;split at h<;>cases h;exact qP _ _ _;cases h;exact adh
theorem Fu{H bY res}:∀{l k:List Sm}{v g:List Vd},(∀s∈l,∀v y W,(∀f∈v,WT (Q H.rs) f.ty)->Br H bY res v s=.ok (y,W)->(∀f∈W,WT (Q H.rs) f.ty)/\Q W<=Q v+Sm.sz s)->
  (∀f∈v,WT (Q H.rs) f.ty)->pe H bY res v l=.ok (k,g)->(∀f∈g,WT (Q H.rs) f.ty)/\Q g<=Q v+Sm.eJ l
 |[],k,v,g,_,j,h=>by unfold pe at h;cases h;exact⟨j,by simp[Sm.eJ]⟩|s::l,k,v,g,m,j,h=>by
  obtain⟨y,W,z,o,p,rfl⟩:=qy h;obtain⟨n,r⟩:=m s aat v y W j o;obtain⟨B,t⟩:=Fu (λs q=>m s (aax _ q)) n p;exact⟨B,by simp only[Sm.eJ];omega⟩
theorem UA{H bY res}(s):∀v y W,(∀f∈v,WT (Q H.rs) f.ty)->Br H bY res v s=.ok (y,W)->(∀f∈W,WT (Q H.rs) f.ty)/\Q W<=Q v+Sm.sz s:=by
 induction s using Sm.C6 with
 |_ s n U=>
  intro v y g k h;obtain⟨t,C,r,W,m,q,O,F,N⟩:=yM h;have I:(∀f∈W,WT (Q H.rs) f.ty)/\Q W<=Q v+1:=by
   rcases adi F with e|⟨_,e⟩;subst e;exact⟨k,by omega⟩;subst e;refine⟨λf m=>?_,by simp⟩;rcases aaw.1 m with h|h;exact k f h;rw[afq.1 h];exact ahA q
  have z:=Sm.w9 s;rcases N with⟨_,b,w,c,l,p,_⟩|⟨_,b,l,_⟩|⟨_,_,rfl,_⟩;obtain⟨j,o⟩:=Fu n I.1 l;obtain⟨B,x⟩:=Fu U j p;exact⟨B,by omega⟩;obtain⟨j,o⟩:=Fu n I.1 l;exact⟨j,by omega⟩;exact⟨I.1,by omega⟩
theorem adj{H bY res l j v g}(y:∀f∈v,WT (Q H.rs) f.ty)(h:pe H bY res v l=.ok (j,g)):(∀f∈g,WT (Q H.rs) f.ty)/\Q g<=Q v+Sm.eJ l:=
 Fu (λs _=>UA s) y h
theorem adk{H v e y}(h:yU H v e=.ok y):y.k=e.k:=by
 obtain⟨g,t,r,_,_,_,rfl⟩:=qU h;rfl
theorem adl{H v bY k l p}(h:sK H v l=.ok p)(g:fL bY k l=Y):fL bY k p=Y:=by
 have j:=oD h;unfold fL at g ⊢;rw[j];match l,j,g,h with
 |[],j,g,_=>rw[List.length_nil]at j;rw[List.eq_nil_of_length_eq_zero j];exact g|[e],j,g,h=>
  obtain⟨y,q,n,_,m,rfl⟩:=oe h;unfold sK at m;cases m;simpa [adk n] using g
 |[e,r],j,g,h=>
  obtain⟨y,q,n,_,m,rfl⟩:=oe h;obtain⟨t,z,s,_,o,rfl⟩:=oe m;unfold sK at o;cases o;simpa [adk n] using g
 |e::r::E::l,j,g,h=>
  obtain⟨y,q,n,_,m,rfl⟩:=oe h;obtain⟨t,z,s,_,o,rfl⟩:=oe m;obtain⟨x,w,O,_,C,rfl⟩:=oe o;simp at g
theorem Ey{H v k E}(h:k≠9):Bq H v k E=sK H v E:=by unfold Bq;rw[U h]
theorem WX{H v e}:Bq H v 9 [e]=match yU H v e with|.error x=>.error x|.ok y=>.ok [y]:=by unfold Bq;rfl
theorem UB{bY E}(h:fL bY 9 E=Y):∃e,E=[e]/\e.k=7:=by
 unfold fL at h;match E,h with
 |[],h=>cases h|[e],h=>exact⟨e,rfl,by simpa using h⟩|_::_::_,h=>cases h
theorem RJ{H v bY k l j}(h:Bq H v k l=.ok j)(g:fL bY k l=Y):fL bY k j=Y:=by
 by_cases s:k=9;subst s;obtain⟨e,rfl,B⟩:=UB g;rw[WX]at h;split at h;cases h;rename_i y m;cases h;unfold fL;simpa [adk m] using B;rw[Ey s]at h;exact adl h g
theorem OQ{H v}:∀{l g:List E},(∀e∈l,∀y,yU H v e=.ok y->E.sz y=E.sz e)->sK H v l=.ok g->E.eJ g=E.eJ l
 |[],g,_,h=>by unfold sK at h;cases h;rfl|e::l,g,j,h=>by
  obtain⟨y,z,k,_,m,rfl⟩:=oe h;simp only[E.eJ,j e aat y k,OQ (λe B=>j e (aax _ B)) m]
theorem adm{H v}(e):∀y,yU H v e=.ok y->E.sz y=E.sz e:=by
 induction e using E.C6 with
 |_ e I=>
  intro y h;obtain⟨k,t,r,_,g,_,rfl⟩:=qU h;rw[E.sx e];simp only[E.sz,OQ I g]
theorem amG{H v l y}(h:sK H v l=.ok y):E.eJ y=E.eJ l:=OQ (λe _=>adm e) h
theorem amH{H v bY k l g}(h:Bq H v k l=.ok g)(j:fL bY k l=Y):E.eJ g=E.eJ l:=by
 by_cases s:k=9;subst s;obtain⟨e,rfl,B⟩:=UB j;rw[WX]at h;split at h;cases h;rename_i y m;cases h;simp only[E.eJ,adm e y m];rw[Ey s]at h;exact amG h
theorem Fv{H bY res}:∀{l j:List Sm}{v g:List Vd},(∀s∈l,∀v y W,Br H bY res v s=.ok (y,W)->Sm.sz y<=Sm.sz s)->pe H bY res v l=.ok (j,g)->Sm.eJ j<=Sm.eJ l
 |[],j,v,g,_,h=>by unfold pe at h;cases h;exact aal _|s::l,j,v,g,k,h=>by
  obtain⟨y,W,z,m,n,rfl⟩:=qy h;have a:=k s aat v y W m;have b:=Fv (λs o=>k s (aax _ o)) n;simp only[Sm.eJ];omega
theorem amI{H bY res}(s):∀v y W,Br H bY res v s=.ok (y,W)->Sm.sz y<=Sm.sz s:=by
 induction s using Sm.C6 with
 |_ s n U=>
  intro v y g h;obtain⟨t,q,r,W,k,m,p,F,N⟩:=yM h;have e:=amH p k;have o:=Sm.w9 s;rcases N with⟨O,b,w,c,l,j,rfl⟩|⟨C,b,l,rfl⟩|⟨O,C,rfl,rfl⟩;have B:=Fv n l;have c2:=Fv U j;simp only[Sm.sz];omega;have B:=Fv n l;simp only[Sm.sz,Sm.eJ];omega;simp only[Sm.sz,Sm.eJ];omega
theorem amJ{H bY res l y v g}(h:pe H bY res v l=.ok (y,g)):Sm.eJ y<=Sm.eJ l:=Fv (λs _=>amI s) h
theorem AD{H}:∀{S:List Sg}{fs:List Fc}{bs:List Bd},Q S=Q fs->rK H S fs=.ok bs->Q bs=Q fs
 |[],[],bs,_,h=>by unfold rK at h;cases h;rfl|s::S,f::fs,bs,g,h=>by
  unfold rK at h;split at h;cases h;split at h;cases h;rename_i l F;cases h;simp[AD (by simpa using g) F]
 |[],_::_,_,g,_=>by cases g|_::_,[],_,g,_=>by cases g
theorem GX{H n}:∀{S:List Sg}{fs:List Fc}{bs:List Bd},rK H S fs=.ok bs->(∀f∈fs,Sm.eJ f.body<=n)->∀b∈bs,Sm.eJ b.code<=n
 |[],fs,bs,h,_=>by unfold rK at h;cases h;simp|_::_,[],bs,h,_=>by unfold rK at h;cases h;simp|s::S,f::fs,bs,h,j=>by
  unfold rK at h;split at h;cases h;rename_i c W k;split at h;cases h;rename_i l F;cases h;intro b g;rcases ac2.1 g with e|e;subst e;have:=amJ k;have:=j f aat;simp only;omega;exact GX F (λf m=>j f (aax _ m)) b e
theorem RK{H}(m:H.ok){n}:∀{S:List Sg}{fs:List Fc}{bs:List Bd},rK H S fs=.ok bs->(∀s∈S,∀f∈s.ps,WT (Q H.rs) f.ty)->(∀s∈S,Q s.ps<=n)->(∀f∈fs,Sm.eJ f.body<=n)->∀b∈bs,Q b.vars<=n+n
 |[],fs,bs,h,_,_,_=>by unfold rK at h;cases h;simp|_::_,[],bs,h,_,_,_=>by unfold rK at h;cases h;simp|s::S,f::fs,bs,h,k,j,g=>by
  unfold rK at h;split at h;cases h;rename_i c W p;split at h;cases h;rename_i l F;cases h;intro b o;rcases ac2.1 o with e|e;subst e;have:=(adj (k s aat) p).2;have:=j s aat;have:=g f aat;simp only;omega;exact RK m F (λs h=>k s (aax _ h)) (λs h=>j s (aax _ h)) (λf h=>g f (aax _ h)) b e
theorem GY{k n N O o g a}:E.sz (Em k n N O o g a)=1+E.eJ g:=rfl
theorem vN:E.eJ []=0:=rfl
theorem jv{e}:E.eJ [e]=E.sz e:=by simp[E.eJ]
theorem OR{e f}:E.eJ [e,f]=E.sz e+E.sz f:=by simp[E.eJ]
theorem WY:∀l r:List E,E.eJ (l++r)=E.eJ l+E.eJ r
 |[],r=>by simp[E.eJ]|e::l,r=>by
  have:=WY l r;simp only[abb,E.eJ];omega
theorem WZ:∀l r:List Sm,Sm.eJ (l++r)=Sm.eJ l+Sm.eJ r
 |[],r=>by simp[Sm.eJ]|e::l,r=>by
  have:=WZ l r;simp only[abb,Sm.eJ];omega
theorem sy:Sm.eJ []=0:=rfl
theorem ahB{e}:Sm.eJ [e]=Sm.sz e:=by simp[Sm.eJ]
theorem KX{k N O o g B m a ref}:Sm.sz (.mk k N O o g B m a ref)=1+E.eJ g+Sm.eJ B+Sm.eJ m:=rfl
theorem lI{q}:(cD q).at_=q.at_+1:=rfl
theorem ahC{q d}:(B6 q d).at_=q.at_:=rfl
theorem ahD{q d}:(B6 q d).fe=q.fe:=rfl
theorem vO{T q r}(w:Ay T q r)(f:r.fe=0):q.at_+1<=r.at_:=by
 rcases w with w|⟨_,w⟩;exact bH f w;exact w
theorem RL(T):∀f:Nat,(∀n q e r,lN T f n q=Z (e,r)->r.fe=0->E.sz e+q.at_<=r.at_)/\(∀n a q e r,tn T f n a q=Z (e,r)->r.fe=0->E.sz e+q.at_<=r.at_+E.sz a)/\
  (∀q e r,uY T f q=Z (e,r)->r.fe=0->E.sz e+q.at_<=r.at_)/\(∀a q e r,nK T f a q=Z (e,r)->r.fe=0->E.sz e+q.at_<=r.at_+E.sz a)/\(∀q e r,rZ T f q=Z (e,r)->r.fe=0->E.sz e+q.at_<=r.at_)/\
  (∀q e r,uZ T f q=Z (e,r)->r.fe=0->E.sz e+q.at_<=r.at_)/\(∀a q e r,u0 T f a q=Z (e,r)->r.fe=0->E.sz e+q.at_<=r.at_)/\(∀q e r,Bb T f q=Z (e,r)->r.fe=0->E.eJ e+q.at_<=r.at_)/\
  (∀l q e r,zp T f l q=Z (e,r)->r.fe=0->E.eJ e+q.at_<=r.at_+E.eJ l)
 |0=>by simp[lN,tn,uY,nK,rZ,uZ,u0,Bb,zp]|f+1=>by
  obtain⟨k,z,L,t,v,C,I,M,y⟩:=RL T f;obtain⟨G,J,R,gB,O,N,P,D,w⟩:=Fq T f;refine⟨λn q e r h fr=>?_,λn a q e r h fr=>?_,λq e r h fr=>?_,λa q e r h fr=>?_,λq e r h fr=>?_,λq e r h fr=>?_,λa q e r h fr=>?_,λq e r h fr=>?_,λl q e r h fr=>?_⟩;unfold lN at h;split at h;exact L _ _ _ h fr;obtain⟨⟨m,x⟩,g,H⟩:=aaf.1 h;have F:=(J _ _ _ _ _ H).Ib fr;have:=k _ _ _ _ g F;have:=z _ _ _ _ _ H fr
  (try dsimp only at *);omega
  unfold tn at h;split at h;rename_i c;obtain⟨⟨m,x⟩,g,H⟩:=aaf.1 h;have F:=(J _ _ _ _ _ H).Ib fr;have j:=k _ _ _ _ g F;have W:=z _ _ _ _ _ H fr;rw[GY,OR]at W;rw[lI]at j
  (try dsimp only at *);omega
  cases h;omega;unfold uY at h;split at h;obtain⟨⟨m,x⟩,g,H⟩:=aaf.1 h;cases H;rw[ahD]at fr;have j:=k _ _ _ _ g fr;have W:=vO nM ((G _ _ _ _ g).Ib fr);rw[GY,jv,ahC]
  (try dsimp only at *);omega
  obtain⟨⟨m,x⟩,g,H⟩:=aaf.1 h;have F:=(gB _ _ _ _ H).Ib fr;have:=C _ _ _ g F;have:=t _ _ _ _ H fr
  (try dsimp only at *);omega
  unfold nK at h;split at h;rename_i c;have j:=t _ _ _ _ h fr;rw[GY,jv]at j;have W:=(jJ (T:=T) (q:=cD q)).le;rw[lI]at W;omega;split at h;obtain⟨⟨m,x⟩,g,H⟩:=aaf.1 h;have F:=(gB _ _ _ _ H).Ib fr;have p:=(gH (T:=T) (q:=x) (s:=[93])).Ib F;have j:=k _ _ _ _ g p;have W:=vO nM ((G _ _ _ _ g).Ib p);have o:=t _ _ _ _ H fr;have B:=(gH (T:=T) (q:=x) (s:=[93])).le;rw[GY,OR]at o
  (try dsimp only at *);omega
  cases h;omega;unfold rZ at h;obtain⟨⟨m,x⟩,g,H⟩:=aaf.1 h;cases H;have p:=(gH (T:=T) (q:=x) (s:=[41])).Ib fr;have j:=k _ _ _ _ g p;have W:=vO nM ((G _ _ _ _ g).Ib p);have B:=(gH (T:=T) (q:=x) (s:=[41])).le
  (try dsimp only at *);omega
  unfold uZ at h;split at h;cases h;rw[GY,vN,lI];omega;split at h;cases h;rw[GY,vN,lI];omega;split at h;cases h;have:=(qO (T:=T) (q:=cD q)).le;rw[lI]at this;rw[GY,vN];omega;split at h;have:=I _ _ _ _ h fr;rw[lI]at this;omega;split at h;obtain⟨⟨m,x⟩,g,H⟩:=aaf.1 h;cases H;have j:=v _ _ _ g fr;rw[lI]at j;rw[GY,jv]
  (try dsimp only at *);omega
  split at h;cases h;have j:=((iq (T:=T) (q:=cD q) (s:=[40])).trans (gH (s:=[41]))).le;rw[lI]at j;rw[GY,vN];omega;split at h;exact v _ _ _ h fr;split at h;obtain⟨⟨m,x⟩,g,H⟩:=aaf.1 h;cases H;have j:=M _ _ _ g fr;have W:=vO tr ((D _ _ _ g).Ib fr);rw[GY]
  (try dsimp only at *);omega
  cases h;have W:=vO tr fr;rw[GY,vN];omega;unfold u0 at h;split at h;obtain⟨⟨m,x⟩,g,H⟩:=aaf.1 h;cases H;have j:=v _ _ _ g fr;have W:=((qO (T:=T) (q:=cD q)).trans (bV (s:=[93]))).le;rw[lI]at W;rw[GY,jv]
  (try dsimp only at *);omega
  cases h;have W:=vO tr fr;rw[GY,vN];omega;unfold Bb at h;split at h;cases h;have j:=((iq (T:=T) (q:=q) (s:=[40])).trans (gH (s:=[41]))).le;rw[vN];omega;obtain⟨⟨m,x⟩,g,H⟩:=aaf.1 h;have F:=(w _ _ _ _ H).Ib fr;have j:=k _ _ _ _ g F;have W:=(iq (T:=T) (q:=q) (s:=[40])).le;have o:=y _ _ _ _ H fr;rw[jv]at o
  (try dsimp only at *);omega
  unfold zp at h;split at h;obtain⟨⟨m,x⟩,g,H⟩:=aaf.1 h;have F:=(w _ _ _ _ H).Ib fr;have j:=k _ _ _ _ g F;rw[lI]at j;have o:=y _ _ _ _ H fr;rw[WY,jv]at o
  (try dsimp only at *);omega
  cases h;have j:=(gH (T:=T) (q:=q) (s:=[41])).le;omega
theorem pW{T f n q r e}(h:lN T f n q=Z (e,r))(fr:r.fe=0):E.sz e+q.at_<=r.at_:=(RL T f).1 _ _ _ _ h fr
theorem UC{T f a q r s}(h:B7 T f a q=Z (s,r))(fr:r.fe=0):Sm.sz s+q.at_<=r.at_:=by
 unfold B7 at h;obtain⟨⟨m,x⟩,j,H⟩:=aaf.1 h;dsimp only at H;split at H;obtain⟨⟨t,y⟩,l,p⟩:=aaf.1 H;cases p;have F:=(bV (T:=T) (q:=y) (s:=[59])).Ib fr;have w:=vO m9 fr;have o:=pW l F;have g:=(kW l).Ib F;have W:=vO m9 g;have D:=bV.Ib g;by_cases c:m.k=4\/m.k=5\/m.k=6;rw[af c]at W D;have n:=pW j D;rw[af c]at o;by_cases c4:m.k=4;rw[af c4,KX,jv,sy];(try dsimp only at *);omega;rw[U c4,KX,OR,sy];(try dsimp only at *);omega;rw[U c]at D;exact bH D (mo (by decide));cases H;have F:=(bV).Ib fr;have w:=vO m9 fr;by_cases c:jZ T x [59]=Y/\m.k≠7;rw[af c]at F;exact bH F (mo (by decide));rw[U c]at F w;have n:=pW j F;rw[KX,jv,sy,U c];(try dsimp only at *);omega
theorem KY(T):∀f:Nat,(∀q s r,Bc T f q=Z (s,r)->r.fe=0->Sm.sz s+q.at_<=r.at_)/\(∀q s r,mZ T f q=Z (s,r)->r.fe=0->Sm.eJ s+q.at_<=r.at_)/\
  (∀l q s r,tq T f l q=Z (s,r)->r.fe=0->Sm.eJ s+q.at_<=r.at_+Sm.eJ l)
 |0=>by simp[Bc,mZ,tq]|f+1=>by
  obtain⟨z,t,w⟩:=KY T f;obtain⟨J,gB,G⟩:=wW T f;refine⟨λq s r h fr=>?_,λq s r h fr=>?_,λl q s r h fr=>?_⟩;unfold Bc at h;split at h;cases h;have:=((kC (T:=T) (q:=cD q)).trans (bV (s:=[59]))).le;rw[lI]at this;rw[KX,vN,sy];omega;split at h;obtain⟨⟨o,x⟩,H,g⟩:=aaf.1 h;cases g;have F:=bV.Ib fr;have j:=pW H F;have W:=((kC (T:=T) (q:=cD q)).trans (bV (s:=[61]))).le;have p:=(bV (T:=T) (q:=x) (s:=[59])).le;rw[lI]at W;rw[KX,jv,sy];(try dsimp only at *);omega;split at h;obtain⟨⟨o,x⟩,H,g⟩:=aaf.1 h;obtain⟨⟨B,y⟩,k,m⟩:=aaf.1 g;dsimp only at m;split at m;rename_i d;obtain⟨⟨D,E⟩,O,C⟩:=aaf.1 m;cases C;have F:=(gB _ _ _ O).1.Ib fr;have v:y.fe=0:=F;have n:=(gB _ _ _ k).1.Ib v;have j:=pW H n;have W:=t _ _ _ k v;have p:=t _ _ _ O fr;rw[lI]at j p;rw[KX,jv];(try dsimp only at *);omega;cases m;have n:=(gB _ _ _ k).1.Ib fr;have j:=pW H n;have W:=t _ _ _ k fr;rw[lI]at j;rw[KX,jv,sy];(try dsimp only at *);omega;split at h;obtain⟨⟨o,x⟩,H,g⟩:=aaf.1 h;obtain⟨⟨B,y⟩,k,m⟩:=aaf.1 g;cases m;have n:=(gB _ _ _ k).1.Ib fr;have j:=pW H n;have W:=t _ _ _ k fr;rw[lI]at j;rw[KX,jv,sy];(try dsimp only at *);omega;split at h;split at h;cases h;have W:=(bV (T:=T) (q:=cD q) (s:=[59])).le;rw[lI]at W;rw[KX,vN,sy];omega;obtain⟨⟨o,x⟩,H,g⟩:=aaf.1 h;cases g;have F:=bV.Ib fr;have j:=pW H F;have p:=(bV (T:=T) (q:=x) (s:=[59])).le;rw[lI]at j;rw[KX,jv,sy];(try dsimp only at *);omega;split at h;obtain⟨⟨o,x⟩,H,g⟩:=aaf.1 h;cases g;have F:=bV.Ib fr;have j:=pW H F;have p:=(bV (T:=T) (q:=x) (s:=[59])).le;rw[lI]at j;rw[KX,jv,sy];(try dsimp only at *);omega;exact UC h fr;unfold mZ at h;have j:=w _ _ _ _ h fr;have W:=(iq (T:=T) (q:=q) (s:=[123])).le;rw[sy]at j;omega;unfold tq at h;split at h;obtain⟨⟨o,x⟩,H,g⟩:=aaf.1 h;have F:=(G _ _ _ _ g).Ib fr;have j:=z _ _ _ H F;have W:=w _ _ _ _ g fr;rw[WZ,ahB]at W
  (try dsimp only at *);omega
  cases h;have W:=(gH (T:=T) (q:=q) (s:=[125])).le;omega
theorem AE{T f q r s}(h:mZ T f q=Z (s,r))(fr:r.fe=0):Sm.eJ s+q.at_<=r.at_:=(KY T f).2.1 _ _ _ h fr
theorem Y3{T f q r s}(h:B8 T f q=Z (s,r))(fr:r.fe=0):Sm.eJ s.body<=r.at_:=by
 unfold B8 at h;obtain⟨⟨x,j⟩,g,H⟩:=aaf.1 h;dsimp only at H;split at H;obtain⟨⟨n,o⟩,l,m⟩:=aaf.1 H;cases m;have:=AE l fr
 (try dsimp only at *);omega
 obtain⟨⟨n,o⟩,l,m⟩:=aaf.1 H;cases m;have:=AE l fr
 (try dsimp only at *);omega
theorem tw{T}:∀f p q s r,rq T f p q=Z (s,r)->q.at_<=Q T->(q.fe=0->∀g∈p.funcs,Sm.eJ g.body<=Q T)->r.fe=0->∀g∈s.funcs,Sm.eJ g.body<=Q T
 |0,_,_,_,_,h,_,_=>by simp[rq]at h|f+1,p,q,s,r,h,l,j=>by
  unfold rq at h;split at h;rename_i c;split at h;exact tw f _ _ _ _ h (kh.ub l) λe=>bH e (mo (by decide));split at h;rename_i d;obtain⟨⟨x,n⟩,H,k⟩:=aaf.1 h;exact tw f _ _ _ _ k ((B9 H).1.ub (cm d).2) λe=>j c.1;split at h;rename_i d;exact tw f _ _ _ _ h ((kC.trans bV).ub (cm d).2) λe=>j c.1;split at h;rename_i d;obtain⟨⟨x,n⟩,H,k⟩:=aaf.1 h;have m:=(GW H).1.ub (cm d).2;exact tw f _ _ _ _ k m λe g U=>by
   rcases aaw.1 U with U|U;exact j c.1 g U;rw[afq.1 U];have:=Y3 H e
   (try dsimp only at *);omega
  exact tw f _ _ _ _ h (kh.ub l) λe=>bH e (mo (by decide));cases h;exact λe=>j e
theorem Y4{T f x}(h:yK T f=Z x):∀g∈x.1.funcs,Sm.eJ g.body<=Q T:=by
 unfold yK at h;obtain⟨⟨p,r⟩,j,H⟩:=aaf.1 h;dsimp only at H;split at H;rename_i c;cases H;exact tw f _ _ _ _ j (Nat.zero_le _) (λ_ g U=>by cases U) c;cases H;intro g U;cases U
def yc(a b:Option Int):Option Int:=match a with
 |some x=>Z x|none=>b
theorem zq{a}:yc a K=a:=by cases a<;>rfl
theorem tA{a b c}:yc (yc a b) c=yc a (yc b c):=by cases a<;>rfl
mutual
def OT(s:List Bool):E->Option Int
 |.mk k _ _ _ _ g a _ ref=>yc (tC s g) (if k=4/\0<=ref/\s[ref.toNat]?=Z false then Z a else K)
def tC(s:List Bool):List E->Option Int
 |[]=>K|e::l=>yc (OT s e) (tC s l)
end
mutual
def Cc:List Bool->Sm->List Bool×Option Int
 |s,.mk k _ _ _ E B m _ ref=>
  if k=1 then (s.set ref.toNat false,tC s E)
  else if k=2\/k=3 then (if 0<=ref then s.set ref.toNat Y else s,tC s E)
  else if k=7 then (s.map λ_=>Y,tC s E)
  else if k=6 then (s,yc (tC s E) (nA s B).2)
  else if k=5 then (List.zipWith (λa b=>a&&b) (nA s B).1 (nA s m).1,yc (tC s E) (yc (nA s B).2 (nA s m).2))
  else (s,tC s E)
def nA:List Bool->List Sm->List Bool×Option Int
 |S,[]=>(S,K)
 |S,s::l=>((nA (Cc S s).1 l).1,yc (Cc S s).2 (nA (Cc S s).1 l).2)
end
theorem ahE(s e):OT s e=yc (tC s e.aP) (if e.k=4/\0<=e.ref/\s[e.ref.toNat]?=Z false then Z e.a else K):=by
 obtain⟨k,n,N,O,o,g,a,t,ref⟩:=e
 (conv=>lhs;unfold OT)<;>rfl
theorem M9(s e l):tC s (e::l)=yc (OT s e) (tC s l):=by
 (conv=>lhs;unfold tC)<;>rfl
theorem ahF(S s):Cc S s =
  if s.k=1 then (S.set s.ref.toNat false,tC S s.es)
  else if s.k=2\/s.k=3 then (if 0<=s.ref then S.set s.ref.toNat Y else S,tC S s.es)
  else if s.k=7 then (S.map λ_=>Y,tC S s.es)
  else if s.k=6 then (S,yc (tC S s.es) (nA S s.bd).2)
  else if s.k=5 then (List.zipWith (λa b=>a&&b) (nA S s.bd).1 (nA S s.el).1,yc (tC S s.es) (yc (nA S s.bd).2 (nA S s.el).2))
  else (S,tC S s.es):=by
 obtain⟨k,N,O,o,E,B,m,a,ref⟩:=s
 (conv=>lhs;unfold Cc)<;>rfl
theorem Y5(S s l):nA S (s::l)=((nA (Cc S s).1 l).1,yc (Cc S s).2 (nA (Cc S s).1 l).2):=by
 (conv=>lhs;unfold nA)<;>rfl
theorem adn(s):nA s []=(s,K):=by unfold nA;rfl
mutual
theorem RM:∀(S:List Bool)(s:Sm),Q (Cc S s).1=Q S
 |S,.mk k N O o E B m a ref=>by
  unfold Cc;split;simp;split;split<;>simp;split;simp;split
  rfl
  split;simp[Ce S B,Ce S m]
  rfl
theorem Ce:∀(S:List Bool)(l:List Sm),Q (nA S l).1=Q S
 |S,[]=>by unfold nA;rfl|S,s::l=>by
  unfold nA;simp only;rw[Ce (Cc S s).1 l,RM S s]
end
mutual
def DD(n:Nat):E->Prop
 |.mk k _ _ _ _ g _ _ ref=>(k=4->ref<n)/\AF n g
def AF(n:Nat):List E->Prop
 |[]=>True|e::l=>DD n e/\AF n l
end
mutual
def IE(n:Nat):Sm->Prop
 |.mk k _ _ _ E B m _ ref=>AF n E/\(k=1\/k=2->0<=ref/\ref<n)/\(k=3->ref<n)/\sA n B/\sA n m
def sA(n:Nat):List Sm->Prop
 |[]=>True|s::l=>IE n s/\sA n l
end
theorem yd(n e):DD n e↔(e.k=4->e.ref<n)/\AF n e.aP:=by
 obtain⟨k,_,N,O,o,g,a,ty,ref⟩:=e;unfold DD;exact Iff.rfl
theorem ye(n s):IE n s↔AF n s.es/\(s.k=1\/s.k=2->0<=s.ref/\s.ref<n)/\(s.k=3->s.ref<n)/\sA n s.bd/\sA n s.el:=by
 obtain⟨k,N,O,o,E,B,m,a,ref⟩:=s;unfold IE;exact Iff.rfl
theorem nh(n):∀l:List E,AF n l↔∀e∈l,DD n e
 |[]=>by simp[AF]|e::l=>by simp[AF,nh n l]
theorem xd(n):∀l:List Sm,sA n l↔∀e∈l,IE n e
 |[]=>by simp[sA]|e::l=>by simp[sA,xd n l]
theorem Y6{n m}(h:n<=m)(e):DD n e->DD m e:=by
 induction e using E.C6 with
 |_ e I=>
  rw[yd,yd,nh,nh];exact λ⟨H,g⟩=>⟨λj=>by have:=H j;omega,λx l=>I x l (g x l)⟩
theorem C7{n m}(h:n<=m)(l):AF n l->AF m l:=by
 rw[nh,nh];exact λH x g=>Y6 h x (H x g)
theorem Na{n m}(h:n<=m)(s):IE n s->IE m s:=by
 induction s using Sm.C6 with
 |_ s y U=>
  rw[ye,ye];rintro⟨j,k,o,g,O⟩;rw[xd]at g O ⊢;refine⟨C7 h _ j,λH=>?_,λH=>?_,λx l=>y x l (g x l),?_⟩;have:=k H;omega;have:=o H;omega;rw[xd];exact λx l=>U x l (O x l)
theorem Y7{n m}(h:n<=m)(l):sA n l->sA m l:=by
 rw[xd,xd];exact λH x g=>Na h x (H x g)
theorem C8{s}:∀{l:List Vd}{i k:Nat}{t:T3},jA s i l=Z (k,t)->k<i+Q l
 |[],_,_,_,h=>by cases h|f::l,i,k,t,h=>by
  unfold jA at h;split at h;cases h;simp;have:=C8 h;simp only[aaK];omega
theorem ado{H v s t r}(h:vM H v s=Z (t,r)):r<Q v:=by
 unfold vM at h;split at h;rename_i e;cases h;have:=C8 e;omega;split at h;cases h;omega;cases h
theorem W3{H v}(e):∀y,yU H v e=.ok y->DD (Q v) y:=by
 induction e using E.C6 with
 |_ e I=>
  intro y h;obtain⟨j,t,r,_,g,l,rfl⟩:=qU h;rw[yd];refine⟨λm=>?_,?_⟩;have m:e.k=4:=m;show r<_;unfold nN at l;rw[ah,ah,ah,af m]at l;exact ado l;show AF _ j;rw[nh];exact jP g I
theorem Fw{H bY res}:∀{l j:List Sm}{v g:List Vd},(∀s∈l,∀v y W,Br H bY res v s=.ok (y,W)->Q v<=Q W/\IE (Q W) y)->pe H bY res v l=.ok (j,g)->Q v<=Q g/\sA (Q g) j
 |[],j,v,g,_,h=>by
  unfold pe at h;cases h;exact⟨aal _,by simp[sA]⟩
 |s::l,j,v,g,k,h=>by
  obtain⟨y,W,z,o,p,rfl⟩:=qy h;obtain⟨r,m⟩:=k s aat v y W o;obtain⟨B,n⟩:=Fw (λt q=>k t (aax _ q)) p;refine⟨by omega,?_⟩;unfold sA;exact⟨Na B _ m,n⟩
theorem asj{H res v W k N E t r}(h:qk H res v k N E t=Z (r,W)):(k=1\/k=2->r=Q v)/\(k=3->r<Q v):=by
 unfold qk at h;split at h;rename_i c;split at h;cases h;cases h;exact⟨λ_=>rfl,λh=>by omega⟩;rename_i n;split at h;rename_i c;split at h;split at h;cases h;cases h;exact⟨λ_=>rfl,λh=>by omega⟩;cases h;rename_i g;split at h;rename_i c;split at h;rename_i u R e;split at h;cases h;exact⟨λh=>by omega,λ_=>ado e⟩;cases h;cases h;rename_i j;exact⟨λh=>by omega,λh=>by omega⟩
theorem amK{H v k E j}(h:Bq H v k E=.ok j):AF (Q v) j:=by
 unfold Bq at h;rw[nh];split at h;split at h;rename_i e l;cases g:yU H v e with
 |error a=>rw[g]at h;cases h|ok y=>
  rw[g]at h;cases h;intro z n;rw[afq.1 n];exact W3 e y g
 cases h;simp;exact jP h λe _ y m=>W3 e y m
theorem ahG{H bY res}(s):∀v y g,Br H bY res v s=.ok (y,g)->Q v<=Q g/\IE (Q g) y:=by
 induction s using Sm.C6 with
 |_ s B U=>
  intro v y g h;obtain⟨t,T,r,W,R,S,M,F,N⟩:=yM h;have C:=amK M;have j:Q v<=Q W:=by
   rcases adi F with e|⟨_,e⟩;rw[e];exact aal _;rw[e];simp
  have q:=asj F;have D:s.k=1\/s.k=2->0<=r/\r<(Q W:Int):=λm=>by
   rcases adi F with e|⟨_,e⟩;have z:=q.1 m;have:Q W=Q v+1:=by
    unfold qk at F;rcases m with m|m;rw[af m]at F;split at F;cases F;cases F;simp;rw[ah,af m]at F;split at F;split at F;cases F;cases F;simp;cases F
   omega;have z:=q.1 m;rw[e,z];simp;omega
  have w:s.k=3->r<(Q W:Int):=λm=>by have:=q.2 m;omega
  rcases N with⟨O,b,P,c,p,L,rfl⟩|⟨J,b,p,rfl⟩|⟨O,J,rfl,rfl⟩;obtain⟨E,o⟩:=Fw (λx n v y W l=>B x n v y W l) p;obtain⟨G,I⟩:=Fw (λx n v y W l=>U x n v y W l) L;refine⟨by omega,(ye _ _).2 ⟨C7 (by omega) _ C,λm=>?_,λm=>?_,Y7 G _ o,I⟩⟩;have m:s.k=1\/s.k=2:=m;omega;have m:s.k=3:=m;omega;obtain⟨E,o⟩:=Fw (λx n v y W l=>B x n v y W l) p;refine⟨by omega,(ye _ _).2 ⟨C7 (by omega) _ C,λm=>?_,λm=>?_,o,by simp[Sm.el,sA]⟩⟩;have m:s.k=1\/s.k=2:=m;omega;have m:s.k=3:=m;omega;exact⟨j,(ye _ _).2 ⟨C7 j _ C,D,w,by simp[Sm.bd,sA],by simp[Sm.el,sA]⟩⟩
theorem ahH{H bY res l j v g}(h:pe H bY res v l=.ok (j,g)):Q v<=Q g/\sA (Q g) j:=
 Fw (λs _ v y W=>ahG s v y W) h
def su0(g:Sg)(b:Bd):List Bool:=aag (Q g.ps) Y++aag (Q b.vars-Q g.ps) false
def Mb:List Sg->List Bd->Option Int
 |s::S,b::bs=>yc (nA (su0 s b) b.code).2 (Mb S bs)|_,_=>K
theorem Fx{H}:∀{S:List Sg}{fs:List Fc}{bs:List Bd},rK H S fs=.ok bs->∀k g (j:k<Q bs),Q S[k].ps<=Q bs[k].vars/\sA (Q bs[k].vars) bs[k].code
 |[],_,bs,h,k,g,_=>by simp at g|s::S,[],bs,h,k,_,j=>by
  unfold rK at h;cases h;simp at j
 |s::S,f::fs,bs,h,k,g,j=>by
  unfold rK at h;split at h;cases h;rename_i c W m;split at h;cases h;rename_i l n;cases h;match k with
  |0=>exact ahH m|k+1=>
   have:=Fx n k (by simpa using g) (by simpa using j);simpa using this
variable{T:List Tk}
theorem UD{f:Nat}{q r:RQ}{s:Fc}(h:B8 T f q=Z (s,r))(fr:r.fe=0):Sm.eJ s.body+q.at_<=r.at_:=by
 unfold B8 at h;obtain⟨⟨x,k⟩,j,H⟩:=aaf.1 h;have g:=((bV (T:=T) (s:=[40])).trans (ya T f _ _ _ _ j)).trans (bV (s:=[41]));have G:=jJ.trans g;dsimp only at H;split at H;rename_i d;obtain⟨⟨n,o⟩,l,m⟩:=aaf.1 H;cases m;have z:=G.trans ((dn (cm d).1 (cm d).2).trans qO);have O:=AE l fr;have C:=z.le
 (try dsimp only at *);omega
 obtain⟨⟨n,o⟩,l,m⟩:=aaf.1 H;cases m;have O:=AE l fr;have C:=G.le
 (try dsimp only at *);omega
theorem tD{T:List Tk}:∀(f:Nat)(p:Pg)(q:RQ)(s:Pg)(r:RQ),rq T f p q=Z (s,r)->q.at_<=Q T->(q.fe=0->∀g∈p.funcs,Sm.eJ g.body+1<=Q T)->r.fe=0->∀g∈s.funcs,Sm.eJ g.body+1<=Q T
 |0,_,_,_,_,h,_,_=>by simp[rq]at h|f+1,p,q,s,r,h,l,j=>by
  unfold rq at h;split at h;rename_i c;split at h;exact tD f _ _ _ _ h (kh.ub l) λe=>bH e (mo (by decide));split at h;rename_i d;obtain⟨⟨x,n⟩,H,k⟩:=aaf.1 h;exact tD f _ _ _ _ k ((B9 H).1.ub (cm d).2) λe=>j c.1;split at h;rename_i d;exact tD f _ _ _ _ h ((kC.trans bV).ub (cm d).2) λe=>j c.1;split at h;rename_i d;obtain⟨⟨x,n⟩,H,k⟩:=aaf.1 h;have m:=(GW H).1.ub (cm d).2;exact tD f _ _ _ _ k m λe g U=>by
   rcases aaw.1 U with U|U;exact j c.1 g U;rw[afq.1 U];have O:=UD H e;have C:(cD q).at_=q.at_+1:=rfl
   (try dsimp only at *);omega
  exact tD f _ _ _ _ h (kh.ub l) λe=>bH e (mo (by decide));cases h;exact λe=>j e
theorem RN{f:Nat}{x:Pg×Int×Int}(h:yK T f=Z x):∀g∈x.1.funcs,Sm.eJ g.body+1<=Q T:=by
 unfold yK at h;obtain⟨⟨p,r⟩,j,H⟩:=aaf.1 h;dsimp only at H;split at H;rename_i c;cases H;exact tD f _ _ _ _ j (Nat.zero_le _) (λ_ g U=>by cases U) c;cases H;intro g U;cases U
end jn
