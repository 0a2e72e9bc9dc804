/- Part of a proof. -/
import Derived.Test.YtlcehclecbakiaaGreatA6

open List renaming findIdx?_eq_some_iff_getElem→aeO,getElem?_eq_none→abV,mem_append→abI,mem_singleton→ady,sizeOf_lt_of_mem→ai0,length_cons→abq,mem_cons→abY,mem_cons_self→aa4,mem_cons_of_mem→abg,cons_append→acw,replicate→aaO
open Option renaming bind_eq_some_iff→aap
open Nat renaming le_refl→aaH,lt_of_le_of_lt→ajm
open Int renaming le_refl→aho
open Bool renaming and_eq_true→Ar,or_eq_true→abP
namespace V7
open Ax Go
def fZ:AV->Bool
 |.jz _ _=>false|_=>true
theorem dg{v:AV}(h:fZ v=true)(hs:aL v=true):v.view=v:=by cases v<;>simp_all [fZ,aL,AV.view]
@[simp]theorem Cn(v:AV):fZ v.view=true:=by cases v<;>simp[fZ,AV.view]
def fj(sz:Nat)(p:List AV->Bool)(v:AV):Bool:=fZ v&&bY sz v&&(aJ v).all p
theorem iI{sz:Nat}{p:List AV->Bool}{v:AV}(h:fj sz p v=true):bY sz v=true:=by simp only[fj,Ar]at h;exact h.1.2
theorem kL{sz:Nat}{p:List AV->Bool}{v:AV}(h:fj sz p v=true):∀r∈aJ v,p r=true:=by simp only[fj,Ar,List.all_eq_true]at h;exact h.2
theorem jC{sz:Nat}{p:List AV->Bool}{v:AV}(h:fj sz p v=true):v.view=v:=by
 have h2:=jl (iI h);simp only[fj,Ar]at h;exact dg h.1.1 h2
theorem kV{α:Type}{sz:Nat}{p:List AV->Bool}{d:List AV->α}{e:α->List AV}{v:AV}(h:fj sz p v=true)(he:∀r,p r=true->r=e (d r)):aJ v=((aJ v).map d).map e:=by
 rw[List.map_map];conv=>lhs;rw[<-List.map_id (aJ v)]
 exact List.map_congr_left λr hr=>he r (kL h r hr)
def pU(n:Int):Bool:=decide (-9223372036854775808<=n)&&decide (n<=9223372036854775807)
structure T3 where
 b:Int
 r:Int
 d:Int
 deriving DecidableEq
abbrev T0:T3:=⟨0,0,0⟩
@[simp]def T3.cells(t:T3):List AV:=[.int .i64 t.b,.int .i64 t.r,.int .i64 t.d]
def Co(r:List AV):Bool:=match r with | [.int .i64 a,.int .i64 b,.int .i64 c]=>pU a&&pU b&&pU c|_=>false
def dT(r:List AV):T3:=match r with | [.int .i64 a,.int .i64 b,.int .i64 c]=>⟨a,b,c⟩|_=>T0
theorem EX(r:List AV)(h:Co r=true):r=(dT r).cells:=by
 unfold Co at h;split at h
 rfl
 cases h
def sY(v:AV):Bool:=fj 3 Co v
def bJ(v:AV):List T3:=(aJ v).map dT
theorem dw{v:AV}(h:sY v=true):aJ v=(bJ v).map T3.cells:=kV h EX
theorem gr{v:AV}(h:sY v=true):v.view=v:=jC h
@[simp]theorem VG(v:AV):bJ v.view=bJ v:=by simp[bJ]
@[simp]theorem NI{v:AV}(h:sY v=true):bY 3 v=true:=iI h
@[simp]theorem iB{v:AV}(h:sY v=true):aL v=true:=jl (NI h)
def Py(r:List AV):Bool:=match r with | [.str _]=>true|_=>false
def dSt(r:List AV):List UInt8:=match r with | [.str s]=>s|_=>[]
def zf(v:AV):Bool:=fj 1 Py v
def l8(v:AV):List (List UInt8):=(aJ v).map dSt
theorem VH(r:List AV)(h:Py r=true):r=[.str (dSt r)]:=by
 unfold Py at h;split at h
 rfl
 cases h
theorem VI{v:AV}(h:zf v=true):aJ v=(l8 v).map λs=>[.str s]:=kV h VH
theorem Lj{v:AV}(h:zf v=true):v.view=v:=jC h
@[simp]theorem pz(v:AV):l8 v.view=l8 v:=by simp[l8]
@[simp]theorem Pz{v:AV}(h:zf v=true):bY 1 v=true:=iI h
@[simp]theorem PA{v:AV}(h:zf v=true):aL v=true:=jl (Pz h)
def BB{α:Type}(p:α->Bool)(l:List α)(k:Nat):Prop:=∀j (h:j<l.length),j<k->p l[j]=false
theorem yg{α:Type}{p:α->Bool}{l:List α}:BB p l 0:=λ_ _ h=>absurd h (by omega)
theorem yh{α:Type}{p:α->Bool}{l:List α}{k:Nat}(h:BB p l k)(h1:k<l.length)(hp:p l[k]=false):BB p l (k+1):=by
 intro j j1 hj;rcases Nat.lt_or_ge j k with oe|oe;exact h j j1 oe;have:j=k:=by omega
 subst this;exact hp
def I2(l:List (List UInt8))(s:List UInt8):Int:=match l.findIdx? λx=>decide (x=s) with
 |some k=>k|none=>-1
theorem ZP{l:List (List UInt8)}{s:List UInt8}{k:Nat}(h:BB (λx=>decide (x=s)) l k)(hk:k<l.length)(e:l[k]=s):I2 l s=k:=by
 have:l.findIdx? (λx=>decide (x=s))=some k:=by
  rw[aeO];refine⟨hk,by simpa using e,λj hj=>?_⟩;have:=h j (by omega) hj;simpa using this
 unfold I2;rw[this]
theorem Rm{l:List (List UInt8)}{s:List UInt8}(h:BB (λx=>decide (x=s)) l l.length):I2 l s = -1:=by
 have:l.findIdx? (λx=>decide (x=s))=none:=by
  rw[List.findIdx?_eq_none_iff];intro x hx;obtain⟨j,hj,rfl⟩:=List.mem_iff_getElem.1 hx;exact h j hj hj
 unfold I2;rw[this]
theorem ZQ(l:List (List UInt8))(s:List UInt8):I2 l s = -1\/∃k:Nat,I2 l s=k/\k<l.length:=by
 unfold I2;cases e:l.findIdx? λx=>decide (x=s) with
 |none=>exact .inl rfl|some k=>exact .inr ⟨k,rfl,(aeO.1 e).1⟩
def cz(l:List (List UInt8))(s:List UInt8)(d:Int):T3×Bool:=
 if d<0\/3<d then (T0,false) else
 if s=[105,110,116] then (⟨1,0,d⟩,true) else
 if s=[98,111,111,108] then (⟨2,0,d⟩,true) else
 if I2 l s<0 then (T0,false) else (⟨3,I2 l s,d⟩,true)
def g9(t:T3):Bool:=decide (t.b=3)||decide (0<t.d)
structure PD where
 name:List UInt8
 on:List UInt8
 od:Int
 at_:Int
def PD.cells(p:PD):List AV:=[.str p.name,.str p.on,.int .i64 p.od,.int .i64 p.at_]
def PC(r:List AV):Bool:=match r with | [.str _,.str _,.int .i64 d,.int .i64 a]=>pU d&&pU a|_=>false
def dP(r:List AV):PD:=match r with | [.str n,.str o,.int .i64 d,.int .i64 a]=>⟨n,o,d,a⟩|_=>⟨[],[],0,0⟩
theorem VJ(r:List AV)(h:PC r=true):r=(dP r).cells:=by
 unfold PC at h;split at h
 rfl
 cases h
def CW(v:AV):Bool:=fj 4 PC v
def lR(v:AV):List PD:=(aJ v).map dP
theorem ZR{v:AV}(h:CW v=true):aJ v=(lR v).map PD.cells:=kV h VJ
theorem AE{v:AV}(h:CW v=true):v.view=v:=jC h
@[simp]theorem aiC(v:AV):lR v.view=lR v:=by simp[lR]
@[simp]theorem adU{v:AV}(h:CW v=true):bY 4 v=true:=iI h
@[simp]theorem EY{v:AV}(h:CW v=true):aL v=true:=jl (adU h)
structure CR where
 name:List UInt8
 bM:AV
 at_:Int
def CR.cells(r:CR):List AV:=[.str r.name,r.bM,.int .i64 r.at_]
def Ho(r:List AV):Bool:=match r with | [.str _,f,.int .i64 a]=>CW f&&pU a|_=>false
def dCR(r:List AV):CR:=match r with | [.str s,f,.int .i64 a]=>⟨s,f,a⟩|_=>⟨[],.U,0⟩
theorem VK(r:List AV)(h:Ho r=true):r=(dCR r).cells:=by
 unfold Ho at h;split at h
 rfl
 cases h
def EZ(v:AV):Bool:=fj 3 Ho v
def di(v:AV):List CR:=(aJ v).map dCR
theorem Ll{v:AV}(h:EZ v=true):aJ v=(di v).map CR.cells:=kV h VK
theorem Rn{v:AV}(h:EZ v=true):∀r∈di v,CW r.bM=true:=by
 intro r hr;obtain⟨x,hx,rfl⟩:=List.mem_map.1 hr;have:=kL h x hx;unfold Ho at this;unfold dCR;split at this;simp only[Ar]at this;exact this.1;cases this
theorem Lm{v:AV}(h:EZ v=true):v.view=v:=jC h
@[simp]theorem agk(v:AV):di v.view=di v:=by simp[di]
@[simp]theorem ZS{v:AV}(h:EZ v=true):bY 3 v=true:=iI h
@[simp]theorem PI{v:AV}(h:EZ v=true):aL v=true:=jl (ZS h)
structure FN where
 name:List UInt8
 params:AV
 bg:Bool
 on:List UInt8
 od:Int
 body:AV
 at_:Int
def FN.cells(f:FN):List AV:=[.str f.name,f.params,.bool f.bg,.str f.on,.int .i64 f.od,f.body,.int .i64 f.at_]
def Hp(r:List AV):Bool:=match r with | [.str _,p,.bool _,.str _,.int .i64 d,b,.int .i64 a]=>CW p&&fZ b&&aL b&&pU d&&pU a|_=>false
def dFN(r:List AV):FN:=match r with | [.str n,p,.bool h,.str o,.int .i64 d,b,.int .i64 a]=>⟨n,p,h,o,d,b,a⟩|_=>⟨[],.U,false,[],0,.U,0⟩
theorem VL(r:List AV)(h:Hp r=true):r=(dFN r).cells:=by
 unfold Hp at h;split at h
 rfl
 cases h
def E1(v:AV):Bool:=fj 7 Hp v
def fN(v:AV):List FN:=(aJ v).map dFN
theorem VM{v:AV}(h:E1 v=true):aJ v=(fN v).map FN.cells:=kV h VL
theorem Ro{v:AV}(h:E1 v=true):∀r∈fN v,CW r.params=true/\fZ r.body=true/\aL r.body=true:=by
 intro r hr;obtain⟨x,hx,rfl⟩:=List.mem_map.1 hr;have:=kL h x hx;unfold Hp at this;unfold dFN;split at this;simp only[Ar]at this;exact⟨this.1.1.1.1,this.1.1.1.2,this.1.1.2⟩;cases this
theorem Ln{v:AV}(h:E1 v=true):v.view=v:=jC h
@[simp]theorem agl(v:AV):fN v.view=fN v:=by simp[fN]
@[simp]theorem ZT{v:AV}(h:E1 v=true):bY 7 v=true:=iI h
@[simp]theorem PJ{v:AV}(h:E1 v=true):aL v=true:=jl (ZT h)
structure GD where
 aD:AV
 globals:AV
 funcs:AV
def GD.cells(p:GD):List AV:=[p.aD,p.globals,p.funcs]
structure GD.ok (p:GD):Prop where
 aD:EZ p.aD=true
 globals:CW p.globals=true
 funcs:E1 p.funcs=true
def pA(l:List CR):List (List UInt8):=l.map (·.name)
def I3(rs:List (List UInt8))(p:PD):List AV:=.str p.name::(cz rs p.on p.od).1.cells
def fz(rs:List (List UInt8))(l:List PD):List (List AV):=l.map (I3 rs)
def PK(a b:Option Int):Option Int:=match a with|some x=>some x|none=>b
def uB(rs:List (List UInt8))(before:List PD)(p:PD):Option Int:=if before.any (λq=>decide (q.name=p.name)) || !(cz rs p.on p.od).2 then some p.at_ else none
def dy{α:Type}(zg:List α->α->Option Int)(l:List α):Nat->Option Int
 |0=>none|k+1=>PK (dy zg l k) (match l[k]? with|some x=>zg (l.take k) x|none=>none)
def zh(a:Option Int):List AV:=match a with|some x=>[.int .i64 3,.int .i64 x]|none=>[.int .i64 0,.int .i64 0]
end V7
namespace jw
open Ax Go V7
structure Tk where
 k:Int
 t:List UInt8
 n:Int
 a:Int
def Tk.cells(x:Tk):List AV:=[.int .i64 x.k,.str x.t,.int .i64 x.n,.int .i64 x.a]
abbrev Tk0:Tk:=⟨0,[],0,0⟩
structure TL (l:AV)(T:List Tk):Prop where
 sz:bY 4 l=true
 rows:aJ l=T.map Tk.cells
 len:T.length<1000000000
theorem TL.sl{l:AV}{T:List Tk}(h:TL l T):aL l=true:=jl h.sz
structure RQ where
 at_:Nat
 op:Int
 fe:Int
 fa:Int
def RQ.aZ(l:AV)(q:RQ):dK:=.rows 0 5 [[l,.int .i64 q.at_,.int .i64 q.op,.int .i64 q.fe,.int .i64 q.fa]]
def fC(T:List Tk)(q:RQ):Tk:=T.getD q.at_ Tk0
def jr(T:List Tk)(q:RQ)(e:Int):RQ:=if q.fe=0 then ⟨q.at_,q.op,e,(fC T q).a⟩ else q
def zM(s:List UInt8):Int:=match s with|c::_=>if 97<=c.toNat/\c.toNat<=122 then 3 else 4 | []=>4
def iC(T:List Tk)(q:RQ)(s:List UInt8):Bool:=decide (q.fe=0)&&decide ((fC T q).k=zM s)&&decide ((fC T q).t=s)
def bK(q:RQ):RQ:=⟨q.at_+1,q.op,q.fe,q.fa⟩
def dn(T:List Tk)(q:RQ)(s:List UInt8):RQ:=if iC T q s then bK q else jr T q 2
def xy(q:RQ)(d:Int):RQ:=⟨q.at_,IntKind.i64.wrap (q.op+d),q.fe,q.fa⟩
def jT(T:List Tk)(q:RQ)(s:List UInt8):RQ:=if iC T q s&&decide (50<=q.op) then jr T q 4 else xy (dn T q s) 1
def mD(T:List Tk)(q:RQ)(s:List UInt8):RQ:=xy (dn T q s) (-1)
def dL(T:List Tk)(q:RQ):List UInt8×RQ:=if q.fe=0/\(fC T q).k=1 then ((fC T q).t,bK q) else ([],jr T q 2)
def vI(T:List Tk)(q:RQ)(s:List UInt8):Nat->RQ
 |0=>q|k+1=>dn T (vI T q s k) s
def Lp(T:List Tk):Nat->Nat->RQ->Nat×RQ
 |0,d,q=>(d,q)
 |k+1,d,q=>if iC T q [91] then Lp T k (d+1) (bK q) else (d,q)
def ofN(T:List Tk)(q:RQ):List UInt8×RQ:=if iC T q [105,110,116]||iC T q [98,111,111,108] then ((fC T q).t,bK q) else dL T q
def zi(T:List Tk)(q:RQ):(List UInt8×Int)×RQ:=
 if iC T (Lp T 3 0 q).2 [91] then (([],0),jr T (Lp T 3 0 q).2 4)
 else (((ofN T (Lp T 3 0 q).2).1,((Lp T 3 0 q).1:Int)),vI T (ofN T (Lp T 3 0 q).2).2 [93] (Lp T 3 0 q).1)
def aB(sz:Nat)(rows:List (List AV)):AV:=(bF sz rows).view
inductive E where
 |mk (k n:Int) (nm on:List UInt8) (od:Int) (aK:List E) (a:Int) (ty:T3) (dz:Int)
def E.k:E->Int|.mk k _ _ _ _ _ _ _ _=>k
def E.n:E->Int|.mk _ n _ _ _ _ _ _ _=>n
def E.nm:E->List UInt8|.mk _ _ nm _ _ _ _ _ _=>nm
def E.on:E->List UInt8|.mk _ _ _ on _ _ _ _ _=>on
def E.od:E->Int|.mk _ _ _ _ od _ _ _ _=>od
def E.aK:E->List E|.mk _ _ _ _ _ aK _ _ _=>aK
def E.a:E->Int|.mk _ _ _ _ _ _ a _ _=>a
def E.ty:E->T3|.mk _ _ _ _ _ _ _ ty _=>ty
def E.dz:E->Int|.mk _ _ _ _ _ _ _ _ dz=>dz
mutual
def E.row:E->List AV
 |.mk k n nm on od aK a ty dz=>[.int .i64 k,.int .i64 n,.str nm,.str on,.int .i64 od,aB 11 (E.rows aK),.int .i64 a,.int .i64 ty.b,.int .i64 ty.r,.int .i64 ty.d,.int .i64 dz]
def E.rows:List E->List (List AV)
 |[]=>[]
 |e::l=>e.row::E.rows l
end
def Em(k n:Int)(nm on:List UInt8)(od:Int)(aK:List E)(a:Int):E:=.mk k n nm on od aK a T0 0
def bf(l:List E):AV:=aB 11 (E.rows l)
inductive Sm where
 |mk (k:Int) (nm on:List UInt8) (od:Int) (es:List E) (bd el:List Sm) (a dz:Int)
def Sm.k:Sm->Int|.mk k _ _ _ _ _ _ _ _=>k
def Sm.nm:Sm->List UInt8|.mk _ nm _ _ _ _ _ _ _=>nm
def Sm.on:Sm->List UInt8|.mk _ _ on _ _ _ _ _ _=>on
def Sm.od:Sm->Int|.mk _ _ _ od _ _ _ _ _=>od
def Sm.es:Sm->List E|.mk _ _ _ _ es _ _ _ _=>es
def Sm.bd:Sm->List Sm|.mk _ _ _ _ _ bd _ _ _=>bd
def Sm.el:Sm->List Sm|.mk _ _ _ _ _ _ el _ _=>el
def Sm.a:Sm->Int|.mk _ _ _ _ _ _ _ a _=>a
def Sm.dz:Sm->Int|.mk _ _ _ _ _ _ _ _ dz=>dz
mutual
def Sm.row:Sm->List AV
 |.mk k nm on od es bd el a dz=>[.int .i64 k,.str nm,.str on,.int .i64 od,bf es,aB 9 (Sm.rows bd),aB 9 (Sm.rows el),.int .i64 a,.int .i64 dz]
def Sm.rows:List Sm->List (List AV)
 |[]=>[]
 |s::l=>s.row::Sm.rows l
end
def bN(l:List Sm):AV:=aB 9 (Sm.rows l)
structure Rc where
 name:List UInt8
 bM:List PD
 a:Int
def Rc.row(r:Rc):List AV:=[.str r.name,aB 4 (r.bM.map PD.cells),.int .i64 r.a]
structure Fc where
 name:List UInt8
 params:List PD
 bg:Bool
 on:List UInt8
 od:Int
 body:List Sm
 a:Int
def Fc.row(f:Fc):List AV:=[.str f.name,aB 4 (f.params.map PD.cells),.bool f.bg,.str f.on,.int .i64 f.od,bN f.body,.int .i64 f.a]
structure Pg where
 aD:List Rc
 globals:List PD
 funcs:List Fc
def Pg.row(p:Pg):List AV:=[aB 3 (p.aD.map Rc.row),aB 4 (p.globals.map PD.cells),aB 7 (p.funcs.map Fc.row)]
@[simp]theorem bq{sz:Nat}{r:List (List AV)}:aL (aB sz r)=true:=by simp[aB]
@[simp]theorem aM{sz:Nat}{r:List (List AV)}:aJ (aB sz r)=r:=by simp[aB]
@[simp]theorem bC{sz:Nat}{r:List (List AV)}:(aB sz r).view=aB sz r:=by
 unfold aB bF;split<;>simp[AV.view]
@[simp]theorem rM{sz:Nat}{r:List (List AV)}:(aB sz r).cx=true:=iH bq
@[simp]theorem BC{sz:Nat}{r:List (List AV)}:(aB sz r).ay=true:=cD bq
@[simp]theorem bQ{l:List E}:aL (bf l)=true:=bq
@[simp]theorem bH{l:List E}:(bf l).view=bf l:=bC
@[simp]theorem aiE{l:List E}:(bf l).cx=true:=rM
@[simp]theorem aiF{l:List E}:(bf l).ay=true:=BC
@[simp]theorem cZ{l:List Sm}:aL (bN l)=true:=bq
@[simp]theorem bz{l:List Sm}:(bN l).view=bN l:=bC
@[simp]theorem aiG{l:List Sm}:(bN l).cx=true:=rM
@[simp]theorem aiH{l:List Sm}:(bN l).ay=true:=BC
@[simp]theorem aiI{sz:Nat}:aB sz []=.U:=rfl
@[simp]theorem Rp{sz:Nat}{r:List AV}{l:List (List AV)}:aB sz (r::l)=.dh sz (r::l):=rfl
theorem iJ:∀l:List E,E.rows l=l.map E.row
 |[]=>by simp[E.rows]|e::l=>by simp[E.rows,iJ l]
theorem iP:∀l:List Sm,Sm.rows l=l.map Sm.row
 |[]=>by simp[Sm.rows]|e::l=>by simp[Sm.rows,iP l]
theorem ri:bf []=.U:=by simp[bf,E.rows,aB,fY,AV.view]
theorem E.aE(e:E):e.row=[.int .i64 e.k,.int .i64 e.n,.str e.nm,.str e.on,.int .i64 e.od,bf e.aK,.int .i64 e.a,.int .i64 e.ty.b,.int .i64 e.ty.r,.int .i64 e.ty.d,.int .i64 e.dz]:=by
 cases e;simp[E.row,E.k,E.n,E.nm,E.on,E.od,E.aK,E.a,E.ty,E.dz,bf]
theorem Sm.aE(s:Sm):s.row=[.int .i64 s.k,.str s.nm,.str s.on,.int .i64 s.od,bf s.es,bN s.bd,bN s.el,.int .i64 s.a,.int .i64 s.dz]:=by
 cases s;simp[Sm.row,Sm.k,Sm.nm,Sm.on,Sm.od,Sm.es,Sm.bd,Sm.el,Sm.a,Sm.dz,bN]
def eA:Nat->List (List UInt8×Int)
 |0=>[([124,124],24)]
 |1=>[([38,38],23)]
 |2=>[([60],19),([60,61],20),([61,61],21),([33,61],22)]
 |3=>[([43],14),([45],15)]
 |_=>[([42],16),([47],17),([37],18)]
def gu:List (List UInt8×Int)->List UInt8->Int
 |[],_=>0|(s,k)::r,t=>if s=t then k else gu r t
def vJ(n:Nat)(c:Tk):Int:=if c.k=4 then gu (eA n) c.t else 0
mutual
def js(T:List Tk):Nat->Nat->RQ->Option (E×RQ)
 |0,_,_=>none|f+1,n,q=>if n=5 then qz T f q else (js T f (n+1) q).bind λx=>pC T f n x.1 x.2
def pC(T:List Tk):Nat->Nat->E->RQ->Option (E×RQ)
 |0,_,_,_=>none|f+1,n,a,q=>if q.fe=0/\vJ n (fC T q)≠0 then
   (js T f (n+1) (bK q)).bind λx=>pC T f n (Em (vJ n (fC T q)) 0 [] [] 0 [a,x.1] (fC T q).a) x.2
  else some (a,q)
def qz(T:List Tk):Nat->RQ->Option (E×RQ)
 |0,_=>none|f+1,q=>if iC T q [45]||iC T q [33] then
   (js T f 5 (jT T q (fC T q).t)).bind λx=>some (Em (if iC T q [45] then 12 else 13) 0 [] [] 0 [x.1] (fC T q).a,xy x.2 (-1))
  else (qA T f q).bind λx=>kM T f x.1 x.2
def kM(T:List Tk):Nat->E->RQ->Option (E×RQ)
 |0,_,_=>none|f+1,a,q=>if iC T q [46] then kM T f (Em 5 0 (dL T (bK q)).1 [] 0 [a] (fC T q).a) (dL T (bK q)).2
  else if iC T q [91] then (js T f 0 (jT T q [91])).bind λx=>kM T f (Em 6 0 [] [] 0 [a,x.1] (fC T q).a) (mD T x.2 [93])
  else some (a,q)
def oz(T:List Tk):Nat->RQ->Option (E×RQ)
 |0,_=>none|f+1,q=>(js T f 0 (jT T q [40])).bind λx=>some (x.1,mD T x.2 [41])
def qA(T:List Tk):Nat->RQ->Option (E×RQ)
 |0,_=>none|f+1,q=>
  if q.fe=0/\(fC T q).k=2 then some (Em 1 (fC T q).n [] [] 0 [] (fC T q).a,bK q)
  else if iC T q [116,114,117,101]||iC T q [102,97,108,115,101] then some (Em 2 (if (fC T q).t=[116,114,117,101] then 1 else 0) [] [] 0 [] (fC T q).a,bK q)
  else if iC T q [110,117,108,108] then some (Em 3 0 [] (zi T (bK q)).1.1 (zi T (bK q)).1.2 [] (fC T q).a,(zi T (bK q)).2)
  else if iC T q [110,101,119] then qB T f (fC T q).a (bK q)
  else if iC T q [108,101,110] then (oz T f (bK q)).bind λx=>some (Em 10 0 [] [] 0 [x.1] (fC T q).a,x.2)
  else if iC T q [114,101,97,100] then some (Em 11 0 [] [] 0 [] (fC T q).a,mD T (jT T (bK q) [40]) [41])
  else if iC T q [40] then oz T f q
  else if iC T (dL T q).2 [40] then (wm T f (dL T q).2).bind λx=>some (Em 7 0 (dL T q).1 [] 0 x.1 (fC T q).a,x.2)
  else some (Em 4 0 (dL T q).1 [] 0 [] (fC T q).a,(dL T q).2)
def qB(T:List Tk):Nat->Int->RQ->Option (E×RQ)
 |0,_,_=>none|f+1,a,q=>if iC T q [91] then
   (oz T f (dn T (zi T (bK q)).2 [93])).bind λx=>some (Em 9 0 [] (zi T (bK q)).1.1 (zi T (bK q)).1.2 [x.1] a,x.2)
  else some (Em 8 0 [] (dL T q).1 0 [] a,(dL T q).2)
def wm(T:List Tk):Nat->RQ->Option (List E×RQ)
 |0,_=>none|f+1,q=>if iC T (jT T q [40]) [41] then some ([],mD T (jT T q [40]) [41])
  else (js T f 0 (jT T q [40])).bind λx=>uC T f [x.1] x.2
def uC(T:List Tk):Nat->List E->RQ->Option (List E×RQ)
 |0,_,_=>none|f+1,l,q=>if iC T q [44] then (js T f 0 (bK q)).bind λx=>uC T f (l++[x.1]) x.2
  else some (l,mD T q [41])
end
def tV(T:List Tk)(f:Nat)(a:Int)(q:RQ):Option (Sm×RQ):=
 (js T f 0 q).bind λx=>if iC T x.2 [61] then
   (js T f 0 (dn T (if x.1.k=4\/x.1.k=5\/x.1.k=6 then x.2 else jr T x.2 2) [61])).bind λy=>
    some (if x.1.k=4 then .mk 3 x.1.nm [] 0 [y.1] [] [] a 0 else .mk 4 [] [] 0 [x.1,y.1] [] [] a 0,dn T y.2 [59])
  else some (.mk 9 [] [] 0 [x.1] [] [] a 0,dn T (if iC T x.2 [59]=true/\x.1.k≠7 then jr T x.2 2 else x.2) [59])
def dM(T:List Tk)(q:RQ):PD×RQ:=
 (⟨(dL T q).1,(zi T (dn T (dL T q).2 [58])).1.1,(zi T (dn T (dL T q).2 [58])).1.2,(fC T q).a⟩,(zi T (dn T (dL T q).2 [58])).2)
mutual
def wo(T:List Tk):Nat->RQ->Option (Sm×RQ)
 |0,_=>none|f+1,q=>
  if iC T q [118,97,114] then
   some (.mk 1 (dM T (bK q)).1.name (dM T (bK q)).1.on (dM T (bK q)).1.od [] [] [] (fC T q).a 0,dn T (dM T (bK q)).2 [59])
  else if iC T q [108,101,116] then (js T f 0 (dn T (dM T (bK q)).2 [61])).bind λx=>
   some (.mk 2 (dM T (bK q)).1.name (dM T (bK q)).1.on (dM T (bK q)).1.od [x.1] [] [] (fC T q).a 0,dn T x.2 [59])
  else if iC T q [105,102] then (js T f 0 (bK q)).bind λx=>(ki T f x.2).bind λy=>
   if iC T y.2 [101,108,115,101] then (ki T f (bK y.2)).bind λz=>some (.mk 5 [] [] 0 [x.1] y.1 z.1 (fC T q).a 0,z.2)
   else some (.mk 5 [] [] 0 [x.1] y.1 [] (fC T q).a 0,y.2)
  else if iC T q [119,104,105,108,101] then (js T f 0 (bK q)).bind λx=>(ki T f x.2).bind λy=>
   some (.mk 6 [] [] 0 [x.1] y.1 [] (fC T q).a 0,y.2)
  else if iC T q [114,101,116,117,114,110] then
   if iC T (bK q) [59] then some (.mk 7 [] [] 0 [] [] [] (fC T q).a 0,dn T (bK q) [59])
   else (js T f 0 (bK q)).bind λx=>some (.mk 7 [] [] 0 [x.1] [] [] (fC T q).a 0,dn T x.2 [59])
  else if iC T q [112,114,105,110,116] then (js T f 0 (bK q)).bind λx=>some (.mk 8 [] [] 0 [x.1] [] [] (fC T q).a 0,dn T x.2 [59])
  else tV T f (fC T q).a q
def ki(T:List Tk):Nat->RQ->Option (List Sm×RQ)
 |0,_=>none|f+1,q=>pD T f [] (jT T q [123])
def pD(T:List Tk):Nat->List Sm->RQ->Option (List Sm×RQ)
 |0,_,_=>none|f+1,l,q=>if q.fe=0/\iC T q [125]=false then (wo T f q).bind λx=>pD T f (l++[x.1]) x.2
  else some (l,mD T q [125])
end
def mE(T:List Tk):Nat->List PD->RQ->Option (List PD×RQ)
 |0,_,_=>none|f+1,l,q=>if q.fe=0/\iC T q [125]=false then
   if (fC T q).k=1/\l.length=8 then some (l,jr T q 4)
   else mE T f (l++[(dM T q).1]) (dn T (dM T q).2 [59])
  else some (l,q)
def rj(T:List Tk)(f:Nat)(q:RQ):Option (Rc×RQ):=
 (mE T f [] (dn T (dL T q).2 [123])).bind λx=>some (⟨(dL T q).1,x.1,(fC T q).a⟩,dn T x.2 [125])
def E2(T:List Tk)(q:RQ):RQ:=if iC T q [41] then q else if iC T (dn T q [44]) [41] then jr T (dn T q [44]) 2 else dn T q [44]
def mF(T:List Tk):Nat->List PD->RQ->Option (List PD×RQ)
 |0,_,_=>none|f+1,l,q=>if q.fe=0/\iC T q [41]=false then
   if (fC T q).k=1/\l.length=6 then some (l,jr T q 4)
   else mF T f (l++[(dM T q).1]) (E2 T (dM T q).2)
  else some (l,q)
def xz(T:List Tk)(f:Nat)(q:RQ):Option (Fc×RQ):=
 (mF T f [] (dn T (dL T q).2 [40])).bind λx=>
  if iC T (dn T x.2 [41]) [58] then
   (ki T f (zi T (bK (dn T x.2 [41]))).2).bind λy=>some (⟨(dL T q).1,x.1,true,(zi T (bK (dn T x.2 [41]))).1.1,(zi T (bK (dn T x.2 [41]))).1.2,y.1,(fC T q).a⟩,y.2)
  else (ki T f (dn T x.2 [41])).bind λy=>some (⟨(dL T q).1,x.1,false,[],0,y.1,(fC T q).a⟩,y.2)
def adV:List UInt8:=[114,101,99,111,114,100]
def VN:List UInt8:=[103,108,111,98,97,108]
def VO:List UInt8:=[102,117,110,99]
def qj(T:List Tk):Nat->Pg->RQ->Option (Pg×RQ)
 |0,_,_=>none|f+1,p,q=>if q.fe=0/\(fC T q).k≠0 then
   if iC T q adV=true/\p.aD.length=12\/iC T q VN=true/\p.globals.length=8\/iC T q VO=true/\p.funcs.length=16 then qj T f p (jr T q 4)
   else if iC T q adV then (rj T f (bK q)).bind λx=>qj T f ⟨p.aD++[x.1],p.globals,p.funcs⟩ x.2
   else if iC T q VN then qj T f ⟨p.aD,p.globals++[(dM T (bK q)).1],p.funcs⟩ (dn T (dM T (bK q)).2 [59])
   else if iC T q VO then (xz T f (bK q)).bind λx=>qj T f ⟨p.aD,p.globals,p.funcs++[x.1]⟩ x.2
   else qj T f p (jr T q 2)
  else some (p,q)
def Dr:Pg:=⟨[],[],[]⟩
def vK(T:List Tk)(f:Nat):Option (Pg×Int×Int):=
 (qj T f Dr ⟨0,0,0,0⟩).bind λx=>some (if x.2.fe=0 then (x.1,0,0) else (Dr,x.2.fe,x.2.fa))
end jw
namespace jw
open Ax Go V7
structure eX (T:List Tk)(q r:RQ):Prop where
 le:q.at_<=r.at_
 ub:q.at_<=T.length->r.at_<=T.length
 zg:q.fe≠0->r.fe=q.fe/\r.at_=q.at_
theorem eX.refl(T:List Tk)(q:RQ):eX T q q:=⟨aaH _,id,λ_=>⟨rfl,rfl⟩⟩
theorem eX.trans{T:List Tk}{q r s:RQ}(h:eX T q r)(k:eX T r s):eX T q s:=
 ⟨Nat.le_trans h.le k.le,λu=>k.ub (h.ub u),λb=>by
  obtain⟨a1,a2⟩:=h.zg b;obtain⟨b1,b2⟩:=k.zg (by rw[a1];exact b);exact⟨b1.trans a1,b2.trans a2⟩⟩
theorem eX.Cp{T:List Tk}{q r:RQ}(h:eX T q r)(f:r.fe=0):q.fe=0:=by
 apply Classical.byContradiction;intro hn;have:=(h.zg hn).1;rw[f]at this;exact hn this.symm
theorem vL{T:List Tk}{q:RQ}(h:(fC T q).k≠0):q.at_<T.length:=by
 apply Classical.byContradiction;intro hn;rw[fC,List.getD,abV (by omega)]at h;exact h rfl
theorem Rq(s:List UInt8):zM s≠0:=by
 unfold zM;split;split<;>decide
 decide
theorem bu{T:List Tk}{q:RQ}{s:List UInt8}(h:iC T q s=true):q.fe=0/\q.at_<T.length:=by
 simp only[iC,Ar,decide_eq_true_eq]at h;exact⟨h.1.1,vL (by rw[h.1.2];exact Rq s)⟩
theorem Hq{T:List Tk}{q:RQ}{s:List UInt8}(h:iC T q s=true):(fC T q).t=s:=by
 simp only[iC,Ar,decide_eq_true_eq]at h;exact h.2
theorem ZU{T:List Tk}{q:RQ}{s:List UInt8}(h:q.fe≠0):iC T q s=false:=by simp[iC,h]
theorem AF{T:List Tk}{q:RQ}{n:Nat}(h:vJ n (fC T q)≠0):q.at_<T.length:=vL (by
 unfold vJ at h;split at h;rename_i e;rw[e];decide;exact absurd rfl h)
theorem cw{T:List Tk}{q:RQ}(h:q.fe=0)(h2:q.at_<T.length):eX T q (bK q):=⟨Nat.le_succ _,λ_=>h2,λb=>absurd h b⟩
theorem jD{T:List Tk}{q:RQ}{e:Int}:eX T q (jr T q e):=by
 unfold jr;split;rename_i h;exact⟨aaH _,id,λb=>absurd h b⟩;exact eX.refl T q
theorem BE{T:List Tk}{q:RQ}{d:Int}:eX T q (xy q d):=⟨aaH _,id,λ_=>⟨rfl,rfl⟩⟩
theorem bn{T:List Tk}{q:RQ}{s:List UInt8}:eX T q (dn T q s):=by
 unfold dn;split;rename_i h;exact cw (bu h).1 (bu h).2;exact jD
theorem fm{T:List Tk}{q:RQ}{s:List UInt8}:eX T q (jT T q s):=by
 unfold jT;split;exact jD;exact bn.trans BE
theorem eN{T:List Tk}{q:RQ}{s:List UInt8}:eX T q (mD T q s):=bn.trans BE
theorem iK{T:List Tk}{q:RQ}:eX T q (dL T q).2:=by
 unfold dL;split;rename_i h;exact cw h.1 (vL (by rw[h.2];decide));exact jD
theorem E3{T:List Tk}{q:RQ}{s:List UInt8}:∀k,eX T q (vI T q s k)
 |0=>eX.refl T q|k+1=>(E3 k).trans bn
theorem E4{T:List Tk}:∀(k d:Nat)(q:RQ),eX T q (Lp T k d q).2/\(Lp T k d q).1<=d+k/\d<=(Lp T k d q).1
 |0,d,q=>⟨eX.refl T q,aaH _,aaH _⟩
 |k+1,d,q=>by
  unfold Lp;split;rename_i h;obtain⟨h1,h2,h3⟩:=E4 (T:=T) k (d+1) (bK q);exact⟨(cw (bu h).1 (bu h).2).trans h1,by omega,by omega⟩;exact⟨eX.refl T q,by simp,aaH _⟩
theorem VP{T:List Tk}{q:RQ}:eX T q (ofN T q).2:=by
 unfold ofN;split;rename_i h;rw[abP]at h;rcases h with h|h<;>exact cw (bu h).1 (bu h).2;exact iK
theorem oA{T:List Tk}{q:RQ}:eX T q (zi T q).2:=by
 unfold zi;have h:=(E4 (T:=T) 3 0 q).1;split;exact h.trans jD;exact(h.trans VP).trans (E3 _)
theorem NJ{T:List Tk}{q:RQ}:0<=(zi T q).1.2/\(zi T q).1.2<=3:=by
 have h:=(E4 (T:=T) 3 0 q).2.1;unfold zi;split;exact⟨aho _,by show (0:Int)<=3;decide⟩;refine⟨Int.natCast_nonneg _,?_⟩;simp only;omega
theorem jh{T:List Tk}{q:RQ}:eX T q (dM T q).2:=(iK.trans bn).trans oA
def mu(T:List Tk)(q:RQ):Nat:=if q.fe=0 then T.length-q.at_+1 else 0
theorem l9{T:List Tk}{q r:RQ}(h:eX T q r):mu T r<=mu T q:=by
 unfold mu;by_cases f:q.fe=0;rw[if_pos f];split;have:=h.le;omega;omega;obtain⟨a1,_⟩:=h.zg f;rw[a1,if_neg f,if_neg f];exact aaH _
def vM(T:List Tk)(q r:RQ):Prop:=r.fe≠0\/q.at_<T.length/\q.at_<r.at_
theorem E5{T:List Tk}{q r:RQ}(f:q.fe=0)(w:vM T q r):mu T r<mu T q:=by
 unfold mu;rw[if_pos f];rcases w with w|⟨w,v⟩;rw[if_neg w];omega;split<;>omega
theorem oB{T:List Tk}{q r:RQ}(h:eX T q r)(w:vM T q r):mu T r<=mu T q-1:=by
 by_cases f:q.fe=0;have:=E5 f w;omega;have h0:mu T q=0:=by unfold mu;rw[if_neg f]
 have:=l9 h;omega
theorem sB{T:List Tk}{q:RQ}(f:q.fe=0):0<mu T q:=by unfold mu;rw[if_pos f];omega
theorem kW{T:List Tk}{q:RQ}{e:Int}(he:e≠0):(jr T q e).fe≠0:=by
 unfold jr;split;exact he
 assumption
theorem mG{T:List Tk}{q:RQ}(h:q.at_<T.length):vM T q (bK q):=.inr ⟨h,Nat.lt_succ_self _⟩
theorem kj{T:List Tk}{q:RQ}{s:List UInt8}:vM T q (dn T q s):=by
 unfold dn;split;rename_i h;exact mG (bu h).2;exact .inl (kW (by decide))
theorem kN{T:List Tk}{q:RQ}{s:List UInt8}:vM T q (jT T q s):=by
 unfold jT;split;exact .inl (kW (by decide));exact kj
theorem pE{T:List Tk}{q:RQ}:vM T q (dL T q).2:=by
 unfold dL;split;rename_i h;exact mG (vL (by rw[h.2];decide));exact .inl (kW (by decide))
theorem vM.trans{T:List Tk}{q r s:RQ}(w:vM T q r)(h:eX T r s):vM T q s:=by
 rcases w with w|⟨w,v⟩;exact .inl (by rw[(h.zg w).1];exact w);exact .inr ⟨w,Nat.lt_of_lt_of_le v h.le⟩
theorem eX.I4{T:List Tk}{q r s:RQ}(h:eX T q r)(w:vM T r s):vM T q s:=by
 rcases w with w|⟨w,v⟩;exact .inl w;exact .inr ⟨ajm h.le w,ajm h.le v⟩
theorem vN{T:List Tk}{q:RQ}:vM T q (dM T q).2:=(pE.trans bn).trans oA
theorem AG(T:List Tk):∀f:Nat,(∀n q e r,js T f n q=some (e,r)->eX T q r)/\(∀n a q e r,pC T f n a q=some (e,r)->eX T q r)/\
  (∀q e r,qz T f q=some (e,r)->eX T q r)/\(∀a q e r,kM T f a q=some (e,r)->eX T q r)/\(∀q e r,oz T f q=some (e,r)->eX T q r)/\
  (∀q e r,qA T f q=some (e,r)->eX T q r)/\(∀a q e r,qB T f a q=some (e,r)->eX T q r)/\(∀q e r,wm T f q=some (e,r)->eX T q r)/\
  (∀l q e r,uC T f l q=some (e,r)->eX T q r)
 |0=>by simp[js,pC,qz,kM,oz,qA,qB,wm,uC]|f+1=>by
  obtain⟨hE,hS,hU,hB,hI,hF,hN,hA,hM⟩:=AG T f;refine⟨λn q e r h=>?_,λn a q e r h=>?_,λq e r h=>?_,λa q e r h=>?_,λq e r h=>?_,λq e r h=>?_,λa q e r h=>?_,λq e r h=>?_,λl q e r h=>?_⟩;unfold js at h;split at h;exact hU _ _ _ h;obtain⟨⟨x1,x2⟩,h1,h2⟩:=aap.1 h;exact(hE _ _ _ _ h1).trans (hS _ _ _ _ _ h2);unfold pC at h;split at h;rename_i c;obtain⟨⟨x1,x2⟩,h1,h2⟩:=aap.1 h;exact((cw c.1 (AF c.2)).trans (hE _ _ _ _ h1)).trans (hS _ _ _ _ _ h2);cases h;exact eX.refl _ _;unfold qz at h;split at h;obtain⟨⟨x1,x2⟩,h1,h2⟩:=aap.1 h;cases h2;exact(fm.trans (hE _ _ _ _ h1)).trans BE;obtain⟨⟨x1,x2⟩,h1,h2⟩:=aap.1 h;exact(hF _ _ _ h1).trans (hB _ _ _ _ h2);unfold kM at h;split at h;rename_i c;exact((cw (bu c).1 (bu c).2).trans iK).trans (hB _ _ _ _ h);split at h;obtain⟨⟨x1,x2⟩,h1,h2⟩:=aap.1 h;exact((fm.trans (hE _ _ _ _ h1)).trans eN).trans (hB _ _ _ _ h2);cases h;exact eX.refl _ _;unfold oz at h;obtain⟨⟨x1,x2⟩,h1,h2⟩:=aap.1 h;cases h2;exact(fm.trans (hE _ _ _ _ h1)).trans eN;unfold qA at h;split at h;rename_i c;cases h;exact cw c.1 (vL (by rw[c.2];decide));split at h;rename_i c;cases h;rw[abP]at c;rcases c with c|c<;>exact cw (bu c).1 (bu c).2;split at h;rename_i c;cases h;exact(cw (bu c).1 (bu c).2).trans oA;split at h;rename_i c;exact(cw (bu c).1 (bu c).2).trans (hN _ _ _ _ h);split at h;rename_i c;obtain⟨⟨x1,x2⟩,h1,h2⟩:=aap.1 h;cases h2;exact(cw (bu c).1 (bu c).2).trans (hI _ _ _ h1);split at h;rename_i c;cases h;exact((cw (bu c).1 (bu c).2).trans fm).trans eN;split at h;exact hI _ _ _ h;split at h;obtain⟨⟨x1,x2⟩,h1,h2⟩:=aap.1 h;cases h2;exact iK.trans (hA _ _ _ h1);cases h;exact iK;unfold qB at h;split at h;rename_i c;obtain⟨⟨x1,x2⟩,h1,h2⟩:=aap.1 h;cases h2;exact(((cw (bu c).1 (bu c).2).trans oA).trans bn).trans (hI _ _ _ h1);cases h;exact iK;unfold wm at h;split at h;cases h;exact fm.trans eN;obtain⟨⟨x1,x2⟩,h1,h2⟩:=aap.1 h;exact(fm.trans (hE _ _ _ _ h1)).trans (hM _ _ _ _ h2);unfold uC at h;split at h;rename_i c;obtain⟨⟨x1,x2⟩,h1,h2⟩:=aap.1 h;exact((cw (bu c).1 (bu c).2).trans (hE _ _ _ _ h1)).trans (hM _ _ _ _ h2);cases h;exact eN
theorem jd{T:List Tk}{f n:Nat}{q r:RQ}{e:E}(h:js T f n q=some (e,r)):eX T q r:=(AG T f).1 _ _ _ _ h
theorem bind_some{α β:Type}{x:Option α}{g:α->Option β}(h1:∃a,x=some a)(h2:∀a,x=some a->∃b,g a=some b):∃b,x.bind g=some b:=by
 obtain⟨a,ha⟩:=h1;obtain⟨b,hb⟩:=h2 a ha;exact⟨b,by rw[ha];exact hb⟩
theorem Lq(T:List Tk):∀f:Nat,(∀n q,n<=5->40*mu T q+12<=f+n->∃x,js T f n q=some x)/\(∀n a q,n<5->40*mu T q+1<=f->∃x,pC T f n a q=some x)/\
  (∀q,40*mu T q+6<=f->∃x,qz T f q=some x)/\(∀a q,40*mu T q+1<=f->∃x,kM T f a q=some x)/\(∀q,40*(mu T q-1)+13<=f->∃x,oz T f q=some x)/\
  (∀q,40*mu T q+5<=f->∃x,qA T f q=some x)/\(∀a q,40*mu T q+15<=f->∃x,qB T f a q=some x)/\(∀q,40*(mu T q-1)+13<=f->∃x,wm T f q=some x)/\
  (∀l q,40*mu T q+1<=f->∃x,uC T f l q=some x)
 |0=>by
  refine⟨λn q h1 h2=>?_,λn a q h1 h2=>?_,λq h=>?_,λa q h=>?_,λq h=>?_,λq h=>?_,λa q h=>?_,λq h=>?_,λl q h=>?_⟩<;>omega
 |f+1=>by
  obtain⟨hE,hS,hU,hB,hI,hF,hN,hA,hM⟩:=Lq T f;obtain⟨gE,gS,gU,gB,gI,gF,gN,gA,gM⟩:=AG T f;refine⟨λn q h1 h2=>?_,λn a q h1 h2=>?_,λq h=>?_,λa q h=>?_,λq h=>?_,λq h=>?_,λa q h=>?_,λq h=>?_,λl q h=>?_⟩;unfold js;split;exact hU _ (by omega);refine bind_some (hE _ _ (by omega) (by omega)) λ⟨x1,x2⟩ h3=>?_;try dsimp only
  have:=l9 (gE _ _ _ _ h3);exact hS _ _ _ (by omega) (by omega);unfold pC;split;rename_i c;have m1:=oB (cw c.1 (AF c.2)) (mG (AF c.2));have m0:=sB (T:=T) c.1;refine bind_some (hE _ _ (by omega) (by omega)) λ⟨x1,x2⟩ h3=>?_;try dsimp only
  have:=l9 (gE _ _ _ _ h3);exact hS _ _ _ (by omega) (by omega);exact⟨_,rfl⟩;unfold qz;split;rename_i c;rw[abP]at c;have c0:q.fe=0:=by rcases c with c|c<;>exact(bu c).1
  have m1:=oB (T:=T) (q:=q) (fm (s:=(fC T q).t)) kN;have m0:=sB (T:=T) c0;exact bind_some (hE _ _ (by omega) (by omega)) λx _=>⟨_,rfl⟩;refine bind_some (hF _ (by omega)) λ⟨x1,x2⟩ h3=>?_;try dsimp only
  have:=l9 (gF _ _ _ h3);exact hB _ _ (by omega);unfold kM;split;rename_i c;have m1:=oB ((cw (bu c).1 (bu c).2).trans iK) ((mG (bu c).2).trans iK);have m0:=sB (T:=T) (bu c).1;exact hB _ _ (by omega);split;rename_i c;have m0:=sB (T:=T) (bu c).1;have m1:=oB (T:=T) (q:=q) (fm (s:=[91])) kN;refine bind_some (hE _ _ (by omega) (by omega)) λ⟨x1,x2⟩ h3=>?_;try dsimp only
  have m2:=l9 ((gE _ _ _ _ h3).trans (eN (s:=[93])));exact hB _ _ (by omega);exact⟨_,rfl⟩;unfold oz;have m1:=oB (T:=T) (q:=q) (fm (s:=[40])) kN;exact bind_some (hE _ _ (by omega) (by omega)) λx _=>⟨_,rfl⟩;unfold qA;split;exact⟨_,rfl⟩;split;exact⟨_,rfl⟩;split;exact⟨_,rfl⟩;split;rename_i c;have m1:=oB (cw (bu c).1 (bu c).2) (mG (bu c).2);have m0:=sB (T:=T) (bu c).1;exact hN _ _ (by omega);split;rename_i c;have m1:=oB (cw (bu c).1 (bu c).2) (mG (bu c).2);have m0:=sB (T:=T) (bu c).1;exact bind_some (hI _ (by omega)) λx _=>⟨_,rfl⟩;split;exact⟨_,rfl⟩;split;rename_i c;have m0:=sB (T:=T) (bu c).1;exact hI _ (by omega);split;rename_i c;have m0:=sB (T:=T) (bu c).1;have m1:=l9 (T:=T) (q:=q) iK;exact bind_some (hA _ (by omega)) λx _=>⟨_,rfl⟩;exact⟨_,rfl⟩;unfold qB;split;rename_i c;have m1:=l9 (((cw (bu c).1 (bu c).2).trans oA).trans (bn (s:=[93])));exact bind_some (hI _ (by omega)) λx _=>⟨_,rfl⟩;exact⟨_,rfl⟩;unfold wm;split;exact⟨_,rfl⟩;have m1:=oB (T:=T) (q:=q) (fm (s:=[40])) kN;refine bind_some (hE _ _ (by omega) (by omega)) λ⟨x1,x2⟩ h3=>?_;try dsimp only
  have:=l9 (gE _ _ _ _ h3);exact hM _ _ (by omega);unfold uC;split;rename_i c;have m1:=oB (cw (bu c).1 (bu c).2) (mG (bu c).2);have m0:=sB (T:=T) (bu c).1;refine bind_some (hE _ _ (by omega) (by omega)) λ⟨x1,x2⟩ h3=>?_;try dsimp only
  have:=l9 (gE _ _ _ _ h3);exact hM _ _ (by omega);exact⟨_,rfl⟩
theorem pF{T:List Tk}{f:Nat}{q:RQ}(h:40*mu T q+12<=f):∃x,js T f 0 q=some x:=(Lq T f).1 0 q (by omega) (by omega)
theorem NK{T:List Tk}{f:Nat}{a:Int}{q r:RQ}{s:Sm}(h:tV T f a q=some (s,r)):eX T q r/\vM T q r:=by
 unfold tV at h;obtain⟨⟨x1,x2⟩,h1,h2⟩:=aap.1 h;have g1:=jd h1;dsimp only at h2;split at h2;obtain⟨⟨y1,y2⟩,h3,h4⟩:=aap.1 h2;cases h4;have g2:eX T x2 (dn T (if x1.k=4\/x1.k=5\/x1.k=6 then x2 else jr T x2 2) [61]):=by
  refine eX.trans ?_ bn;split;exact eX.refl _ _;exact jD
 have g3:=(g1.trans g2).trans (jd h3);exact⟨g3.trans bn,g3.I4 kj⟩;cases h2;have g2:eX T x2 (if iC T x2 [59]=true/\x1.k≠7 then jr T x2 2 else x2):=by
  split;exact jD;exact eX.refl _ _
 exact⟨(g1.trans g2).trans bn,(g1.trans g2).I4 kj⟩
theorem sC(T:List Tk):∀f:Nat,(∀q s r,wo T f q=some (s,r)->eX T q r/\vM T q r)/\(∀q s r,ki T f q=some (s,r)->eX T q r/\vM T q r)/\
  (∀l q s r,pD T f l q=some (s,r)->eX T q r)
 |0=>by simp[wo,ki,pD]|f+1=>by
  obtain⟨hS,hB,hL⟩:=sC T f;refine⟨λq s r h=>?_,λq s r h=>?_,λl q s r h=>?_⟩;unfold wo at h;split at h;rename_i c;cases h;have g:=(cw (bu c).1 (bu c).2).trans jh;exact⟨g.trans bn,g.I4 kj⟩;split at h;rename_i c;obtain⟨⟨x1,x2⟩,h1,h2⟩:=aap.1 h;cases h2;have g:=(((cw (bu c).1 (bu c).2).trans jh).trans bn).trans (jd h1);exact⟨g.trans bn,g.I4 kj⟩;split at h;rename_i c;obtain⟨⟨x1,x2⟩,h1,h2⟩:=aap.1 h;obtain⟨⟨y1,y2⟩,h3,h4⟩:=aap.1 h2;have g1:=(cw (bu c).1 (bu c).2).trans (jd h1);have g:=g1.trans (hB _ _ _ h3).1;have w:=g1.I4 (hB _ _ _ h3).2;dsimp only at h4;split at h4;rename_i d;obtain⟨⟨z1,z2⟩,h5,h6⟩:=aap.1 h4;cases h6;have g2:=(cw (bu d).1 (bu d).2).trans (hB _ _ _ h5).1;exact⟨g.trans g2,w.trans g2⟩;cases h4;exact⟨g,w⟩;split at h;rename_i c;obtain⟨⟨x1,x2⟩,h1,h2⟩:=aap.1 h;obtain⟨⟨y1,y2⟩,h3,h4⟩:=aap.1 h2;cases h4;have g1:=(cw (bu c).1 (bu c).2).trans (jd h1);exact⟨g1.trans (hB _ _ _ h3).1,g1.I4 (hB _ _ _ h3).2⟩;split at h;rename_i c;have g1:=cw (bu c).1 (bu c).2;split at h;cases h;exact⟨g1.trans bn,g1.I4 kj⟩;obtain⟨⟨x1,x2⟩,h1,h2⟩:=aap.1 h;cases h2;have g:=g1.trans (jd h1);exact⟨g.trans bn,g.I4 kj⟩;split at h;rename_i c;obtain⟨⟨x1,x2⟩,h1,h2⟩:=aap.1 h;cases h2;have g:=(cw (bu c).1 (bu c).2).trans (jd h1);exact⟨g.trans bn,g.I4 kj⟩;exact NK h;unfold ki at h;have g:=hL _ _ _ _ h;exact⟨fm.trans g,kN.trans g⟩;unfold pD at h;split at h;obtain⟨⟨x1,x2⟩,h1,h2⟩:=aap.1 h;exact(hS _ _ _ h1).1.trans (hL _ _ _ _ h2);cases h;exact eN
theorem NL{T:List Tk}{f:Nat}{a:Int}{q:RQ}(h:40*mu T q+12<=f):∃x,tV T f a q=some x:=by
 unfold tV;refine bind_some (pF h) λ⟨x1,x2⟩ h1=>?_;try dsimp only
 have m1:=l9 (jd h1);split;have g2:eX T x2 (dn T (if x1.k=4\/x1.k=5\/x1.k=6 then x2 else jr T x2 2) [61]):=by
  refine eX.trans ?_ bn;split;exact eX.refl _ _;exact jD
 have m2:=l9 g2;exact bind_some (pF (by omega)) λx _=>⟨_,rfl⟩;exact⟨_,rfl⟩
theorem E6(T:List Tk):∀f:Nat,(∀q,40*mu T q+15<=f->∃x,wo T f q=some x)/\(∀q,40*(mu T q-1)+18<=f->∃x,ki T f q=some x)/\
  (∀l q,40*mu T q+17<=f->∃x,pD T f l q=some x)
 |0=>by refine⟨λq h=>?_,λq h=>?_,λl q h=>?_⟩<;>omega|f+1=>by
  obtain⟨hS,hB,hL⟩:=E6 T f;obtain⟨gS,gB,gL⟩:=sC T f;refine⟨λq h=>?_,λq h=>?_,λl q h=>?_⟩;have one:∀s,iC T q s=true->mu T (bK q)<=mu T q-1/\0<mu T q:=λs c=>⟨oB (cw (bu c).1 (bu c).2) (mG (bu c).2),sB (bu c).1⟩;unfold wo;split;exact⟨_,rfl⟩;split;rename_i c;have m0:=one _ c;have m1:=l9 (T:=T) (q:=bK q) (jh.trans (bn (s:=[61])));exact bind_some (pF (by omega)) λx _=>⟨_,rfl⟩;split;rename_i c;have m0:=one _ c;refine bind_some (pF (by omega)) λ⟨x1,x2⟩ h1=>?_;try dsimp only
  have m1:=l9 (jd h1);refine bind_some (hB _ (by omega)) λ⟨y1,y2⟩ h2=>?_;try dsimp only
  have m2:=l9 (gB _ _ _ h2).1;split;rename_i d;have m3:=l9 (cw (bu d).1 (bu d).2);exact bind_some (hB _ (by omega)) λx _=>⟨_,rfl⟩;exact⟨_,rfl⟩;split;rename_i c;have m0:=one _ c;refine bind_some (pF (by omega)) λ⟨x1,x2⟩ h1=>?_;try dsimp only
  have m1:=l9 (jd h1);exact bind_some (hB _ (by omega)) λx _=>⟨_,rfl⟩;split;rename_i c;have m0:=one _ c;split;exact⟨_,rfl⟩;exact bind_some (pF (by omega)) λx _=>⟨_,rfl⟩;split;rename_i c;have m0:=one _ c;exact bind_some (pF (by omega)) λx _=>⟨_,rfl⟩;exact NL (by omega);unfold ki;have m1:=oB (T:=T) (q:=q) (fm (s:=[123])) kN;exact hL _ _ (by omega);unfold pD;split;rename_i c;refine bind_some (hS _ (by omega)) λ⟨x1,x2⟩ h1=>?_;try dsimp only
  have m1:=E5 c.1 (gS _ _ _ h1).2;exact hL _ _ (by omega);exact⟨_,rfl⟩
theorem vO{T:List Tk}{f:Nat}{q r:RQ}{s:List Sm}(h:ki T f q=some (s,r)):eX T q r/\vM T q r:=(sC T f).2.1 _ _ _ h
theorem E7{T:List Tk}{f:Nat}{q:RQ}(h:40*mu T q+18<=f):∃x,ki T f q=some x:=(E6 T f).2.1 _ (by omega)
theorem Cq(T:List Tk):∀(f:Nat)(l:List PD)(q:RQ)(s:List PD)(r:RQ),mE T f l q=some (s,r)->eX T q r
 |0,_,_,_,_,h=>by simp[mE]at h|f+1,l,q,s,r,h=>by
  unfold mE at h;split at h;split at h;cases h;exact jD;exact(jh.trans bn).trans (Cq T f _ _ _ _ h);cases h;exact eX.refl _ _
theorem Cr(T:List Tk):∀(f:Nat)(l:List PD)(q:RQ),mu T q<f->∃x,mE T f l q=some x
 |0,_,_,h=>absurd h (by omega)|f+1,l,q,h=>by
  unfold mE;split;rename_i c;split;exact⟨_,rfl⟩;have:=E5 c.1 ((vN (T:=T) (q:=q)).trans (bn (s:=[59])));exact Cr T f _ _ (by omega);exact⟨_,rfl⟩
theorem Cs{T:List Tk}{f:Nat}{q r:RQ}{s:Rc}(h:rj T f q=some (s,r)):eX T q r/\vM T q r:=by
 unfold rj at h;obtain⟨⟨x1,x2⟩,h1,h2⟩:=aap.1 h;cases h2;have g:=(bn (T:=T) (s:=[123])).trans (Cq T f _ _ _ _ h1);exact⟨(iK.trans g).trans bn,((pE.trans g)).trans bn⟩
theorem Lr{T:List Tk}{f:Nat}{q:RQ}(h:mu T q<f):∃x,rj T f q=some x:=by
 unfold rj;have m:=l9 (T:=T) (q:=q) (iK.trans (bn (s:=[123])));exact bind_some (Cr T f _ _ (by omega)) λx _=>⟨_,rfl⟩
theorem sD{T:List Tk}{q:RQ}:eX T q (E2 T q):=by
 unfold E2;split;exact eX.refl _ _;split;exact bn.trans jD;exact bn
theorem xA(T:List Tk):∀(f:Nat)(l:List PD)(q:RQ)(s:List PD)(r:RQ),mF T f l q=some (s,r)->eX T q r
 |0,_,_,_,_,h=>by simp[mF]at h|f+1,l,q,s,r,h=>by
  unfold mF at h;split at h;split at h;cases h;exact jD;exact(jh.trans sD).trans (xA T f _ _ _ _ h);cases h;exact eX.refl _ _
theorem Ct(T:List Tk):∀(f:Nat)(l:List PD)(q:RQ),mu T q<f->∃x,mF T f l q=some x
 |0,_,_,h=>absurd h (by omega)|f+1,l,q,h=>by
  unfold mF;split;rename_i c;split;exact⟨_,rfl⟩;have:=E5 c.1 ((vN (T:=T) (q:=q)).trans sD);exact Ct T f _ _ (by omega);exact⟨_,rfl⟩
theorem Hr{T:List Tk}{f:Nat}{q r:RQ}{s:Fc}(h:xz T f q=some (s,r)):eX T q r/\vM T q r:=by
 unfold xz at h;obtain⟨⟨x1,x2⟩,h1,h2⟩:=aap.1 h;have g:=((bn (T:=T) (s:=[40])).trans (xA T f _ _ _ _ h1)).trans (bn (s:=[41]));have gg:=iK.trans g;dsimp only at h2;split at h2;rename_i d;obtain⟨⟨y1,y2⟩,h3,h4⟩:=aap.1 h2;cases h4;have g2:=((cw (bu d).1 (bu d).2).trans oA).trans (vO h3).1;exact⟨gg.trans g2,(pE.trans g).trans g2⟩;obtain⟨⟨y1,y2⟩,h3,h4⟩:=aap.1 h2;cases h4;have g2:=(vO h3).1;exact⟨gg.trans g2,(pE.trans g).trans g2⟩
theorem Rr{T:List Tk}{f:Nat}{q:RQ}(h:40*mu T q+18<=f):∃x,xz T f q=some x:=by
 unfold xz;have m:=l9 (T:=T) (q:=q) (iK.trans (bn (s:=[40])));refine bind_some (Ct T f _ _ (by omega)) λ⟨x1,x2⟩ h1=>?_;try dsimp only
 have m1:=l9 ((xA T f _ _ _ _ h1).trans (bn (s:=[41])));split;rename_i d;have m2:=l9 ((cw (bu d).1 (bu d).2).trans oA);exact bind_some (E7 (by omega)) λx _=>⟨_,rfl⟩;exact bind_some (E7 (by omega)) λx _=>⟨_,rfl⟩
theorem rN(T:List Tk):∀(f:Nat)(p:Pg)(q:RQ),40*mu T q+19<=f->∃x,qj T f p q=some x
 |0,_,_,h=>absurd h (by omega)|f+1,p,q,h=>by
  unfold qj;split;rename_i c;have m0:=sB (T:=T) c.1;have w1:=E5 c.1 (T:=T) (r:=jr T q 4) (.inl (kW (by decide)));have w2:=E5 c.1 (T:=T) (r:=jr T q 2) (.inl (kW (by decide)));have m1:=E5 c.1 (mG (vL c.2));split;exact rN T f _ _ (by omega);split;refine bind_some (Lr (by omega)) λ⟨x1,x2⟩ h1=>?_;try dsimp only
  have:=l9 (Cs h1).1;exact rN T f _ _ (by omega);split;have:=l9 (T:=T) (q:=bK q) (jh.trans (bn (s:=[59])));exact rN T f _ _ (by omega);split;refine bind_some (Rr (by omega)) λ⟨x1,x2⟩ h1=>?_;try dsimp only
  have:=l9 (Hr h1).1;exact rN T f _ _ (by omega);exact rN T f _ _ (by omega);exact⟨_,rfl⟩
theorem xB(T:List Tk):∃x,vK T (40*T.length+100)=some x:=by
 unfold vK;exact bind_some (rN T _ _ _ (by simp[mu];omega)) λx _=>⟨_,rfl⟩
end jw
namespace jw
open Ax Go V7
def InN(T:List Tk)(N:Int):Prop:=0<=N/\∀x∈T,0<=x.a/\x.a<=N
theorem I5{T:List Tk}{N:Int}(h:InN T N)(q:RQ):0<=(fC T q).a/\(fC T q).a<=N:=by
 by_cases hl:q.at_<T.length;have:fC T q=T[q.at_]:=by simp[fC,hl]
 rw[this];exact h.2 _ (List.getElem_mem hl);have hc:fC T q=Tk0:=by simp[fC,List.getD,abV (Nat.le_of_not_lt hl)]
 rw[hc];exact⟨aho _,h.1⟩
def I6(N:Int)(p:PD):Prop:=0<=p.od/\p.od<=3/\0<=p.at_/\p.at_<=N
theorem E8{T:List Tk}{N:Int}(h:InN T N)(q:RQ):I6 N (dM T q).1:=⟨NJ.1,NJ.2,(I5 h q).1,(I5 h q).2⟩
structure Rc.In (N:Int)(r:Rc):Prop where
 a:0<=r.a/\r.a<=N
 len:r.bM.length<=9
 f:∀p∈r.bM,I6 N p
structure Fc.In (N:Int)(r:Fc):Prop where
 a:0<=r.a/\r.a<=N
 len:r.params.length<=7
 f:∀p∈r.params,I6 N p
 od:0<=r.od/\r.od<=3
structure Pg.In (N:Int)(p:Pg):Prop where
 r:p.aD.length<=12/\∀x∈p.aD,Rc.In N x
 g:p.globals.length<=8/\∀x∈p.globals,I6 N x
 f:p.funcs.length<=16/\∀x∈p.funcs,Fc.In N x
theorem sE{α:Type}{P:α->Prop}{l:List α}{a:α}(h:∀x∈l,P x)(ha:P a):∀x∈l++[a],P x:=by
 intro x hx;rcases abI.1 hx with h1|h1;exact h x h1;rw[ady.1 h1];exact ha
theorem Ls{T:List Tk}{q:RQ}(h:(fC T q).k≠1):(dL T q).2.fe≠0:=by
 unfold dL;rw[if_neg (λe=>h e.2)];exact kW (by decide)
theorem yl{T:List Tk}{q:RQ}(h:(fC T q).k≠1):(dM T q).2.fe≠0:=by
 have g:eX T (dL T q).2 (dM T q).2:=bn.trans oA;rw[(g.zg (Ls h)).1];exact Ls h
theorem Hs{T:List Tk}{N:Int}(hN:InN T N):∀(f:Nat)(l:List PD)(q:RQ)(s:List PD)(r:RQ),mE T f l q=some (s,r)->(∀p∈l,I6 N p)->(l.length<=8\/q.fe≠0/\l.length<=9)->
  (∀p∈s,I6 N p)/\(s.length<=8\/r.fe≠0/\s.length<=9)
 |0,_,_,_,_,h,_,_=>by simp[mE]at h|f+1,l,q,s,r,h,hl,hn=>by
  unfold mE at h;split at h;rename_i c;have h8:l.length<=8:=by
   rcases hn with hn|hn;exact hn;exact absurd c.1 hn.1
  split at h;rename_i c2;cases h;exact⟨hl,.inl h8⟩;rename_i c2;refine Hs hN f _ _ _ _ h (sE hl (E8 hN q)) ?_;by_cases hk:(fC T q).k=1;exact .inl (by
   have:l.length≠8:=λe=>c2 ⟨hk,e⟩;simp;omega)
  refine .inr ⟨?_,by simp;omega⟩;have g:=bn (T:=T) (q:=(dM T q).2) (s:=[59]);rw[(g.zg (yl hk)).1];exact yl hk;cases h;exact⟨hl,hn⟩
theorem Ht{T:List Tk}{N:Int}(hN:InN T N):∀(f:Nat)(l:List PD)(q:RQ)(s:List PD)(r:RQ),mF T f l q=some (s,r)->(∀p∈l,I6 N p)->(l.length<=6\/q.fe≠0/\l.length<=7)->
  (∀p∈s,I6 N p)/\(s.length<=6\/r.fe≠0/\s.length<=7)
 |0,_,_,_,_,h,_,_=>by simp[mF]at h|f+1,l,q,s,r,h,hl,hn=>by
  unfold mF at h;split at h;rename_i c;have h8:l.length<=6:=by
   rcases hn with hn|hn;exact hn;exact absurd c.1 hn.1
  split at h;rename_i c2;cases h;exact⟨hl,.inl h8⟩;rename_i c2;refine Ht hN f _ _ _ _ h (sE hl (E8 hN q)) ?_;by_cases hk:(fC T q).k=1;exact .inl (by
   have:l.length≠6:=λe=>c2 ⟨hk,e⟩;simp;omega)
  refine .inr ⟨?_,by simp;omega⟩;have g:=sD (T:=T) (q:=(dM T q).2);rw[(g.zg (yl hk)).1];exact yl hk;cases h;exact⟨hl,hn⟩
theorem Rs{T:List Tk}{N:Int}(hN:InN T N){f:Nat}{q r:RQ}{s:Rc}(h:rj T f q=some (s,r)):Rc.In N s/\(r.fe=0->s.bM.length<=8):=by
 unfold rj at h;obtain⟨⟨x1,x2⟩,h1,h2⟩:=aap.1 h;cases h2;obtain⟨a,b⟩:=Hs hN _ _ _ _ _ h1 (by simp) (by simp);refine⟨⟨I5 hN q,by rcases b with b|b<;>simp only<;>omega,a⟩,λe=>?_⟩;rcases b with b|b;exact b;exact absurd (bn.Cp e) b.1
theorem ZV{T:List Tk}{N:Int}(hN:InN T N){f:Nat}{q r:RQ}{s:Fc}(h:xz T f q=some (s,r)):Fc.In N s/\(r.fe=0->s.params.length<=6):=by
 unfold xz at h;obtain⟨⟨x1,x2⟩,h1,h2⟩:=aap.1 h;obtain⟨a,b⟩:=Ht hN _ _ _ _ _ h1 (by simp) (by simp);have hc:=I5 hN q;have nZ:∀r:RQ,eX T x2 r->r.fe=0->x1.length<=6:=λr g e=>by
  rcases b with b|b;exact b;exact absurd (g.Cp e) b.1
 have b7:x1.length<=7:=by rcases b with b|b<;>omega
 dsimp only at h2;split at h2;rename_i d;obtain⟨⟨y1,y2⟩,h3,h4⟩:=aap.1 h2;cases h4;exact⟨⟨hc,b7,a,NJ⟩,nZ _ (((bn.trans (cw (bu d).1 (bu d).2)).trans oA).trans (vO h3).1)⟩;obtain⟨⟨y1,y2⟩,h3,h4⟩:=aap.1 h2;cases h4;exact⟨⟨hc,b7,a,aho _,by show (0:Int)<=3;decide⟩,nZ _ (bn.trans (vO h3).1)⟩
def Pg.few(p:Pg):Prop:=(∀x∈p.aD,x.bM.length<=8)/\∀x∈p.funcs,x.params.length<=6
theorem ym{T:List Tk}{N:Int}(hN:InN T N):∀(f:Nat)(p:Pg)(q:RQ)(s:Pg)(r:RQ),qj T f p q=some (s,r)->Pg.In N p->(q.fe=0->p.few)->Pg.In N s/\(r.fe=0->s.few)
 |0,_,_,_,_,h,_,_=>by simp[qj]at h|f+1,p,q,s,r,h,hp,hf=>by
  unfold qj at h;split at h;rename_i c;split at h;exact ym hN f _ _ _ _ h hp λe=>absurd e (kW (by decide));rename_i aa;split at h;rename_i d;obtain⟨⟨x1,x2⟩,h1,h2⟩:=aap.1 h;obtain⟨i1,i2⟩:=Rs hN h1;have:p.aD.length≠12:=λe=>aa (.inl ⟨d,e⟩);have:=hp.r.1;exact ym hN f _ _ _ _ h2 ⟨⟨by simp;omega,sE hp.r.2 i1⟩,hp.g,hp.f⟩ λe=>⟨sE (hf c.1).1 (i2 e),(hf c.1).2⟩;split at h;rename_i d;have:p.globals.length≠8:=λe=>aa (.inr (.inl ⟨d,e⟩));have:=hp.g.1;exact ym hN f _ _ _ _ h ⟨hp.r,⟨by simp;omega,sE hp.g.2 (E8 hN _)⟩,hp.f⟩ λe=>hf c.1;split at h;rename_i d;obtain⟨⟨x1,x2⟩,h1,h2⟩:=aap.1 h;obtain⟨i1,i2⟩:=ZV hN h1;have:p.funcs.length≠16:=λe=>aa (.inr (.inr ⟨d,e⟩));have:=hp.f.1;exact ym hN f _ _ _ _ h2 ⟨hp.r,hp.g,⟨by simp;omega,sE hp.f.2 i1⟩⟩ λe=>⟨(hf c.1).1,sE (hf c.1).2 (i2 e)⟩;exact ym hN f _ _ _ _ h hp λe=>absurd e (kW (by decide));cases h;exact⟨hp,hf⟩
theorem I7{N:Int}:Pg.In N Dr:=⟨⟨by simp[Dr],by simp[Dr]⟩,⟨by simp[Dr],by simp[Dr]⟩,⟨by simp[Dr],by simp[Dr]⟩⟩
theorem Ds:Dr.few:=⟨by simp[Dr],by simp[Dr]⟩
theorem Rt{T:List Tk}{N:Int}(hN:InN T N){f:Nat}{x:Pg×Int×Int}(h:vK T f=some x):Pg.In N x.1/\x.1.few:=by
 unfold vK at h;obtain⟨⟨x1,x2⟩,h1,h2⟩:=aap.1 h;obtain⟨a,b⟩:=ym hN _ _ _ _ _ h1 I7 λ_=>Ds;simp only[Option.some.injEq]at h2;subst h2;split;rename_i e;exact⟨a,b e⟩;exact⟨I7,Ds⟩
end jw
namespace jX
open Ax Go V7 jw
abbrev tI:T3:=⟨1,0,0⟩
abbrev tB:T3:=⟨2,0,0⟩
structure Vd where
 nm:List UInt8
 ty:T3
 deriving DecidableEq
structure Sg where
 nm:List UInt8
 ps:List Vd
 bg:Bool
 res:T3
structure Hd where
 rs:List (List UInt8)
 bL:List (List UInt8×List Vd)
 globals:List Vd
 sigs:List Sg
def nS(rs:List (List UInt8))(l:List PD):List Vd:=l.map λq=>⟨q.name,(cz rs q.on q.od).1⟩
def fO(p:Pg):List (List UInt8):=p.aD.map (·.name)
def xC(rs:List (List UInt8))(f:Fc):Sg:=⟨f.name,nS rs f.params,f.bg,if f.bg then (cz rs f.on f.od).1 else T0⟩
def aW(p:Pg):Hd:=⟨fO p,p.aD.map λr=>(r.name,nS (fO p) r.bM),nS (fO p) p.globals,p.funcs.map (xC (fO p))⟩
def iw(s:List UInt8):Nat->List Vd->Option (Nat×T3)
 |_,[]=>none|i,f::l=>if f.nm=s then some (i,f.ty) else iw s (i+1) l
def rq(H:Hd)(V:List Vd)(s:List UInt8):Option (T3×Int):=match iw s 0 V with
 |some (k,t)=>some (t,(k:Int))|none=>match iw s 0 H.globals with
  |some (k,t)=>some (t,-1-(k:Int))|none=>none
def tC(s:List UInt8):Nat->List Sg->Option (Nat×Sg)
 |_,[]=>none|i,g::l=>if g.nm=s then some (i,g) else tC s (i+1) l
def jx:List Vd->List E->Bool
 |[],[]=>true|f::l,e::r=>decide (e.ty=f.ty)&&jx l r|_,_=>false
def iQ(k n:Int)(m:Nat):Bool:=
 if k=1\/k=3\/k=4\/k=8\/k=11 then decide (m=0)
 else if k=2 then decide (m=0)&&(decide (n=0)||decide (n=1))
 else if k=7 then true
 else if k=5\/k=9\/k=10\/k=12\/k=13 then decide (m=1)
 else (decide (k=6)||decide (14<=k)&&decide (k<=24))&&decide (m=2)
def yp(ks:List E):T3:=match ks with|e::_=>e.ty | []=>T0
def E9(ks:List E):T3:=match ks with|_::e::_=>e.ty|_=>T0
def qK(k n:Int):Int:=if k=1\/k=2 then n else 0
def qC(k:Int)(nm:List UInt8):List UInt8:=if k=4\/k=5\/k=7 then nm else []
def qD(k:Int)(on:List UInt8):List UInt8:=if k=3\/k=8\/k=9 then on else []
def qE(k:Int)(od:Int):Int:=if k=3\/k=8\/k=9 then od else 0
def F0(b:Bool)(t:T3):Option (T3×Int):=if b then some (t,0) else none
def xD(H:Hd)(t:T3)(nm:List UInt8):Option (T3×Int):=if t.b=3/\t.d=0 then match H.bL[t.r.toNat]? with
  |some s=>match iw nm 0 s.2 with
   |some (i,u)=>some (u,(i:Int))|none=>none
  |none=>none
 else none
def oV(H:Hd)(nm:List UInt8)(ks:List E):Option (T3×Int):=match tC nm 0 H.sigs with
 |some (i,s)=>if jx s.ps ks then some (s.res,(i:Int)) else none
 |none=>none
def mZ(k:Int)(a b:T3):Option (T3×Int):=
 if k=14\/k=15\/k=16\/k=17\/k=18 then F0 (decide (a=tI)&&decide (b=tI)) tI
 else if k=19\/k=20 then F0 (decide (a=tI)&&decide (b=tI)) tB
 else if k=21\/k=22 then F0 (decide (a=b)) tB
 else F0 (decide (a=tB)&&decide (b=tB)) tB
def mR(H:Hd)(V:List Vd)(k:Int)(nm on:List UInt8)(od:Int)(ks:List E):Option (T3×Int):=
 if k=1\/k=11 then some (tI,0)
 else if k=2 then some (tB,0)
 else if k=3 then F0 ((cz H.rs on od).2&&g9 (cz H.rs on od).1) (cz H.rs on od).1
 else if k=4 then rq H V nm
 else if k=5 then xD H (yp ks) nm
 else if k=6 then F0 (decide (0<(yp ks).d)&&decide (E9 ks=tI)) ⟨(yp ks).b,(yp ks).r,(yp ks).d-1⟩
 else if k=7 then oV H nm ks
 else if k=8 then F0 ((cz H.rs on od).2&&decide ((cz H.rs on od).1.b=3)&&decide ((cz H.rs on od).1.d=0)) (cz H.rs on od).1
 else if k=9 then F0 ((cz H.rs on od).2&&decide ((cz H.rs on od).1.d<3)&&decide (yp ks=tI)) ⟨(cz H.rs on od).1.b,(cz H.rs on od).1.r,(cz H.rs on od).1.d+1⟩
 else if k=10 then F0 (decide (0<(yp ks).d)) tI
 else if k=12 then F0 (decide (yp ks=tI)) tI
 else if k=13 then F0 (decide (yp ks=tB)) tB
 else mZ k (yp ks) (E9 ks)
mutual
def uS(H:Hd)(V:List Vd):E->Except Int E
 |.mk k n nm on od aK a _ _=>if iQ k n aK.length then
   match oQ H V aK with
   |.error x=>.error x|.ok ks=>match mR H V k nm on od ks with
    |none=>.error a|some (t,r)=>.ok (.mk k (qK k n) (qC k nm) (qD k on) (qE k od) ks a t r)
  else .error a
def oQ(H:Hd)(V:List Vd):List E->Except Int (List E)
 |[]=>.ok []|e::l=>match uS H V e with
  |.error x=>.error x|.ok y=>if y.ty=T0 then .error y.a else match oQ H V l with
   |.error x=>.error x|.ok ys=>.ok (y::ys)
end
def eu(bg:Bool)(k:Int)(es:List E):Bool:=
 if k=1 then decide (es.length=0)
 else if k=4 then match es with | [e,_]=>decide (e.k=5)||decide (e.k=6)|_=>false
 else if k=7 then decide (es.length=1)&&bg||decide (es.length=0) && !bg
 else if k=9 then match es with | [e]=>decide (e.k=7)|_=>false
 else if k=2\/k=3\/k=5\/k=6\/k=8 then decide (es.length=1)
 else false
def nK(H:Hd)(res:T3)(V:List Vd)(k:Int)(nm:List UInt8)(es:List E)(t:T3):Option (Int×List Vd):=
 if k=1 then (match iw nm 0 V with|some _=>none|none=>some ((V.length:Int),V++[⟨nm,t⟩]))
 else if k=2 then (if yp es=t then match iw nm 0 V with|some _=>none|none=>some ((V.length:Int),V++[⟨nm,t⟩]) else none)
 else if k=3 then (match rq H V nm with|some (u,r)=>if u=yp es then some (r,V) else none|none=>none)
 else if k=4 then (if yp es=E9 es then some (0,V) else none)
 else if k=5\/k=6 then (if yp es=tB then some (0,V) else none)
 else if k=7 then (if es.length=0\/yp es=res then some (0,V) else none)
 else if k=8 then (if yp es=tI then some (0,V) else none)
 else some (0,V)
def oW(H:Hd)(k:Int)(on:List UInt8)(od:Int):Option T3:=if k=1\/k=2 then (if (cz H.rs on od).2 then some (cz H.rs on od).1 else none) else some T0
def yq(H:Hd)(V:List Vd)(k:Int)(es:List E):Except Int (List E):=if k=9 then match es with
  |e::_=>match uS H V e with
   |.error x=>.error x|.ok y=>.ok [y]
  |[]=>.ok []
 else oQ H V es
def kX(k:Int)(nm:List UInt8):List UInt8:=if k=1\/k=2\/k=3 then nm else []
def dH(k:Int)(on:List UInt8):List UInt8:=if k=1\/k=2 then on else []
def dJ(k:Int)(od:Int):Int:=if k=1\/k=2 then od else 0
mutual
def yM(H:Hd)(bg:Bool)(res:T3):List Vd->Sm->Except Int (Sm×List Vd)
 |V,.mk k nm on od es bd el a _=>if eu bg k es then
   match oW H k on od with
   |none=>.error a|some t=>match yq H V k es with
    |.error x=>.error x|.ok ys=>match nK H res V k nm ys t with
     |none=>.error a|some (r,W)=>if k=5 then
       match mO H bg res W bd with
       |.error x=>.error x|.ok (b,W1)=>match mO H bg res W1 el with
        |.error x=>.error x|.ok (c,W2)=>.ok (.mk k (kX k nm) (dH k on) (dJ k od) ys b c a r,W2)
      else if k=6 then
       match mO H bg res W bd with
       |.error x=>.error x|.ok (b,W1)=>.ok (.mk k (kX k nm) (dH k on) (dJ k od) ys b [] a r,W1)
      else .ok (.mk k (kX k nm) (dH k on) (dJ k od) ys [] [] a r,W)
  else .error a
def mO(H:Hd)(bg:Bool)(res:T3):List Vd->List Sm->Except Int (List Sm×List Vd)
 |V,[]=>.ok ([],V)|V,s::l=>match yM H bg res V s with
  |.error x=>.error x|.ok (y,W)=>match mO H bg res W l with
   |.error x=>.error x|.ok (ys,X)=>.ok (y::ys,X)
end
structure Bd where
 vars:List Vd
 code:List Sm
 a:Int
def ue(H:Hd):List Sg->List Fc->Except Int (List Bd)
 |s::ss,f::fs=>match mO H s.bg s.res s.ps f.body with
  |.error x=>.error x|.ok (c,W)=>match ue H ss fs with
   |.error x=>.error x|.ok l=>.ok (⟨W,c,f.a⟩::l)
 |_,_=>.ok []
def Vd.row(f:Vd):List AV:=.str f.nm::f.ty.cells
def cj(l:List Vd):AV:=aB 4 (l.map Vd.row)
def Sg.row(s:Sg):List AV:=[.str s.nm,cj s.ps,.bool s.bg,.int .i64 s.res.b,.int .i64 s.res.r,.int .i64 s.res.d]
def gD(s:List UInt8×List Vd):List AV:=[.str s.1,cj s.2]
def Bd.row(b:Bd):List AV:=[cj b.vars,bN b.code,.int .i64 b.a]
end jX
namespace jX
open Ax Go V7 jw
theorem E.zY{P:E->Prop}(h:∀e,(∀x∈e.aK,P x)->P e)(e:E):P e:=h e λx _=>E.zY h x
termination_by sizeOf e
decreasing_by
 have hx:x∈e.aK:=by assumption
 cases e;simp only[E.aK]at hx;have:=ai0 hx;simp only[E.mk.sizeOf_spec];omega
theorem Sm.zY{P:Sm->Prop}(h:∀s,(∀x∈s.bd,P x)->(∀x∈s.el,P x)->P s)(s:Sm):P s:=h s (λx _=>Sm.zY h x) λx _=>Sm.zY h x
termination_by sizeOf s
decreasing_by
 all_goals
  rename_i hx;cases s;simp only[Sm.bd,Sm.el]at hx;have:=ai0 hx;simp only[Sm.mk.sizeOf_spec];omega
mutual
def E.sz:E->Nat
 |.mk _ _ _ _ _ aK _ _ _=>1+E.eH aK
def E.eH:List E->Nat
 |[]=>0|e::l=>E.sz e+E.eH l
end
theorem E.NN(e:E):0<E.sz e:=by cases e;simp only[E.sz];omega
theorem E.lK:∀l:List E,l.length<=E.eH l
 |[]=>aaH _|e::l=>by
  have:=E.lK l;have:=E.NN e;simp only[E.eH,abq];omega
theorem E.tD:∀{l:List E}{e:E},e∈l->E.sz e<=E.eH l
 |[],_,h=>by cases h|x::l,e,h=>by
  rcases abY.1 h with h|h;subst h;simp only[E.eH];omega;have:=E.tD h;simp only[E.eH];omega
theorem E.vP(e:E):E.sz e=1+E.eH e.aK:=by cases e;rfl
def WT(n:Nat)(t:T3):Prop:=0<=t.d/\t.d<=3/\(t.b=3->0<=t.r/\t.r<n)
structure Hd.ok (H:Hd):Prop where
 rs:H.rs.length=H.bL.length
 bL:∀s∈H.bL,∀f∈s.2,WT H.rs.length f.ty
 globals:∀f∈H.globals,WT H.rs.length f.ty
 sigs:∀s∈H.sigs,WT H.rs.length s.res/\∀f∈s.ps,WT H.rs.length f.ty
theorem VQ{n:Nat}:WT n T0:=⟨aho _,by decide,λh=>by cases h⟩
theorem ZW{n:Nat}:WT n tI:=⟨aho _,by decide,λh=>by cases h⟩
theorem VS{n:Nat}:WT n tB:=⟨aho _,by decide,λh=>by cases h⟩
theorem oC(l:List (List UInt8))(s:List UInt8)(d:Int):WT l.length (cz l s d).1:=by
 unfold cz;split;exact VQ;rename_i h;have hd:0<=d/\d<=3:=by omega
 split;exact⟨hd.1,hd.2,λh=>by cases h⟩;split;exact⟨hd.1,hd.2,λh=>by cases h⟩;split;exact VQ;rename_i h;refine⟨hd.1,hd.2,λ_=>?_⟩;rcases ZQ l s with e|⟨k,e,hk⟩;rw[e]at h;exact absurd (by decide) h;simp only;rw[e];omega
theorem AH{s:List UInt8}:∀{l:List Vd}{i k:Nat}{t:T3},iw s i l=some (k,t)->∃f∈l,f.ty=t
 |[],_,_,_,h=>by cases h|f::l,i,k,t,h=>by
  unfold iw at h;split at h;cases h;exact⟨f,aa4,rfl⟩;obtain⟨g,h1,h2⟩:=AH h;exact⟨g,abg _ h1,h2⟩
theorem Hu{s:List UInt8}:∀{l:List Sg}{i k:Nat}{t:Sg},tC s i l=some (k,t)->t∈l
 |[],_,_,_,h=>by cases h|f::l,i,k,t,h=>by
  unfold tC at h;split at h;cases h;exact aa4;exact abg _ (Hu h)
theorem sF{n:Nat}{b:Bool}{t u:T3}{r:Int}(h:F0 b t=some (u,r))(ht:b=true->WT n t):WT n u:=by
 cases b with
 |false=>cases h|true=>cases h;exact ht rfl
theorem adW{H:Hd}{V:List Vd}{s:List UInt8}{t:T3}{r:Int}(hH:H.ok)(hV:∀f∈V,WT H.rs.length f.ty)(h:rq H V s=some (t,r)):WT H.rs.length t:=by
 unfold rq at h;split at h;rename_i k u e;cases h;obtain⟨f,h1,h2⟩:=AH e;rw[<-h2];exact hV f h1;split at h;rename_i k u e;cases h;obtain⟨f,h1,h2⟩:=AH e;rw[<-h2];exact hH.globals f h1;cases h
theorem adX{H:Hd}{V:List Vd}{k:Int}{nm on:List UInt8}{od:Int}{ks:List E}{t:T3}{r:Int}(hH:H.ok)(hV:∀f∈V,WT H.rs.length f.ty)(hk:∀e∈ks,WT H.rs.length e.ty)(h:mR H V k nm on od ks=some (t,r)):WT H.rs.length t:=by
 have h1:WT H.rs.length (yp ks):=by
  unfold yp;split;exact hk _ aa4;exact VQ
 have CP:=oC H.rs on od;unfold mR at h;by_cases c1:k=1\/k=11;rw[if_pos c1]at h;cases h;exact ZW;rw[if_neg c1]at h;by_cases c2:k=2;rw[if_pos c2]at h;cases h;exact VS;rw[if_neg c2]at h;by_cases c3:k=3;rw[if_pos c3]at h;exact sF h λ_=>CP;rw[if_neg c3]at h;by_cases c4:k=4;rw[if_pos c4]at h;exact adW hH hV h;rw[if_neg c4]at h;by_cases c5:k=5;rw[if_pos c5]at h;unfold xD at h;split at h;split at h;rename_i s hs;split at h;rename_i i u e;cases h;obtain⟨f,h2,h3⟩:=AH e;rw[<-h3];exact hH.bL _ (List.mem_of_getElem? hs) f h2;cases h;cases h;cases h;rw[if_neg c5]at h;by_cases c6:k=6;rw[if_pos c6]at h;refine sF h λhb=>?_;simp only[Ar,decide_eq_true_eq]at hb;exact⟨by simp only;omega,by have:=h1.2.1;simp only;omega,h1.2.2⟩;rw[if_neg c6]at h;by_cases c7:k=7;rw[if_pos c7]at h;unfold oV at h;split at h;rename_i i s e;split at h;cases h;exact(hH.sigs s (Hu e)).1;cases h;cases h;rw[if_neg c7]at h;by_cases c8:k=8;rw[if_pos c8]at h;exact sF h λ_=>CP;rw[if_neg c8]at h;by_cases c9:k=9;rw[if_pos c9]at h;refine sF h λhb=>?_;simp only[Ar,decide_eq_true_eq]at hb;exact⟨by have:=CP.1;simp only;omega,by simp only;omega,CP.2.2⟩;rw[if_neg c9]at h;by_cases Cu:k=10;rw[if_pos Cu]at h;exact sF h λ_=>ZW;rw[if_neg Cu]at h;by_cases CX:k=12;rw[if_pos CX]at h;exact sF h λ_=>ZW;rw[if_neg CX]at h;by_cases CY:k=13;rw[if_pos CY]at h;exact sF h λ_=>VS;rw[if_neg CY]at h;unfold mZ at h;split at h;exact sF h λ_=>ZW;split at h;exact sF h λ_=>VS;split at h;exact sF h λ_=>VS;exact sF h λ_=>VS
theorem kY{H:Hd}{V:List Vd}{e:E}{l:List E}{ys:List E}(h:oQ H V (e::l)=.ok ys):∃y zs,uS H V e=.ok y/\y.ty≠T0/\oQ H V l=.ok zs/\ys=y::zs:=by
 unfold oQ at h;split at h;cases h;rename_i y hy;split at h;cases h;rename_i ht;split at h;cases h;rename_i zs hz;cases h;exact⟨y,zs,hy,ht,hz,rfl⟩
theorem jM{H:Hd}{V:List Vd}{P:E->Prop}:∀{l ys:List E},oQ H V l=.ok ys->(∀e∈l,∀y,uS H V e=.ok y->P y)->∀y∈ys,P y
 |[],ys,h,_=>by
  unfold oQ at h;cases h;simp
 |e::l,ys,h,hp=>by
  obtain⟨y,zs,h1,_,h2,rfl⟩:=kY h;intro z hz;rcases abY.1 hz with e1|e1;subst e1;exact hp e aa4 _ h1;exact jM h2 (λe he=>hp e (abg _ he)) z e1
theorem qF{H:Hd}{V:List Vd}{e y:E}(h:uS H V e=.ok y):∃ks t r,iQ e.k e.n e.aK.length=true/\oQ H V e.aK=.ok ks/\mR H V e.k e.nm e.on e.od ks=some (t,r)/\y=.mk e.k (qK e.k e.n) (qC e.k e.nm) (qD e.k e.on) (qE e.k e.od) ks e.a t r:=by
 obtain⟨k,n,nm,on,od,aK,a,ty,dz⟩:=e;unfold uS at h;split at h;rename_i hk;split at h;cases h;rename_i ks uR;split at h;cases h;rename_i t r ht;cases h;exact⟨ks,t,r,hk,uR,ht,rfl⟩;cases h
theorem I8{H:Hd}{V:List Vd}(hH:H.ok)(hV:∀f∈V,WT H.rs.length f.ty)(e:E):∀y,uS H V e=.ok y->WT H.rs.length y.ty:=by
 induction e using E.zY with
 |_ e ih=>
  intro y h;obtain⟨ks,t,r,_,h2,h3,rfl⟩:=qF h;exact adX hH hV (jM h2 ih) h3
theorem nD{H:Hd}{V:List Vd}:∀{l ys:List E},oQ H V l=.ok ys->ys.length=l.length
 |[],ys,h=>by unfold oQ at h;cases h;rfl|e::l,ys,h=>by
  obtain⟨y,zs,_,_,h2,rfl⟩:=kY h;simp[nD h2]
end jX
namespace jX
open Ax Go V7 jw
mutual
def Sm.sz:Sm->Nat
 |.mk _ _ _ _ es bd el _ _=>1+E.eH es+Sm.eH bd+Sm.eH el
def Sm.eH:List Sm->Nat
 |[]=>0|s::l=>Sm.sz s+Sm.eH l
end
theorem Sm.NN(s:Sm):0<Sm.sz s:=by cases s;simp only[Sm.sz];omega
theorem Sm.lK:∀l:List Sm,l.length<=Sm.eH l
 |[]=>aaH _|e::l=>by
  have:=Sm.lK l;have:=Sm.NN e;simp only[Sm.eH,abq];omega
theorem Sm.tD:∀{l:List Sm}{e:Sm},e∈l->Sm.sz e<=Sm.eH l
 |[],_,h=>by cases h|x::l,e,h=>by
  rcases abY.1 h with h|h;subst h;simp only[Sm.eH];omega;have:=Sm.tD h;simp only[Sm.eH];omega
theorem Sm.uD(s:Sm):Sm.sz s=1+E.eH s.es+Sm.eH s.bd+Sm.eH s.el:=by cases s;rfl
theorem adY(H:Hd)(bg:Bool)(res:T3)(V:List Vd)(k:Int)(nm on:List UInt8)(od:Int)(es:List E)(bd el:List Sm)(a dz:Int):yM H bg res V (.mk k nm on od es bd el a dz)=if eu bg k es then
   match oW H k on od with
   |none=>.error a|some t=>match yq H V k es with
    |.error x=>.error x|.ok ys=>match nK H res V k nm ys t with
     |none=>.error a|some (r,W)=>if k=5 then
       match mO H bg res W bd with
       |.error x=>.error x|.ok (b,W1)=>match mO H bg res W1 el with
        |.error x=>.error x|.ok (c,W2)=>.ok (.mk k (kX k nm) (dH k on) (dJ k od) ys b c a r,W2)
      else if k=6 then
       match mO H bg res W bd with
       |.error x=>.error x|.ok (b,W1)=>.ok (.mk k (kX k nm) (dH k on) (dJ k od) ys b [] a r,W1)
      else .ok (.mk k (kX k nm) (dH k on) (dJ k od) ys [] [] a r,W)
  else .error a:=by
 (conv=>lhs;unfold yM)<;>rfl
theorem Fa(H:Hd)(bg:Bool)(res:T3)(V:List Vd)(s:Sm):yM H bg res V s=if eu bg s.k s.es then
   match oW H s.k s.on s.od with
   |none=>.error s.a|some t=>match yq H V s.k s.es with
    |.error x=>.error x|.ok ys=>match nK H res V s.k s.nm ys t with
     |none=>.error s.a|some (r,W)=>if s.k=5 then
       match mO H bg res W s.bd with
       |.error x=>.error x|.ok (b,W1)=>match mO H bg res W1 s.el with
        |.error x=>.error x|.ok (c,W2)=>.ok (.mk s.k (kX s.k s.nm) (dH s.k s.on) (dJ s.k s.od) ys b c s.a r,W2)
      else if s.k=6 then
       match mO H bg res W s.bd with
       |.error x=>.error x|.ok (b,W1)=>.ok (.mk s.k (kX s.k s.nm) (dH s.k s.on) (dJ s.k s.od) ys b [] s.a r,W1)
      else .ok (.mk s.k (kX s.k s.nm) (dH s.k s.on) (dJ s.k s.od) ys [] [] s.a r,W)
  else .error s.a:=by
 obtain⟨k,nm,on,od,es,bd,el,a,dz⟩:=s;exact adY H bg res V k nm on od es bd el a dz
theorem xE{H:Hd}{bg:Bool}{res:T3}{V X:List Vd}{s y:Sm}(h:yM H bg res V s=.ok (y,X)):∃t ys r W,eu bg s.k s.es=true/\oW H s.k s.on s.od=some t/\yq H V s.k s.es=.ok ys/\nK H res V s.k s.nm ys t=some (r,W)/\
  (s.k=5/\(∃b W1 c,mO H bg res W s.bd=.ok (b,W1)/\mO H bg res W1 s.el=.ok (c,X)/\y=.mk s.k (kX s.k s.nm) (dH s.k s.on) (dJ s.k s.od) ys b c s.a r)\/
   s.k=6/\(∃b,mO H bg res W s.bd=.ok (b,X)/\y=.mk s.k (kX s.k s.nm) (dH s.k s.on) (dJ s.k s.od) ys b [] s.a r)\/
   s.k≠5/\s.k≠6/\X=W/\y=.mk s.k (kX s.k s.nm) (dH s.k s.on) (dJ s.k s.od) ys [] [] s.a r):=by
 rw[Fa]at h;split at h;rename_i hf;split at h;cases h;rename_i t ht;split at h;cases h;rename_i ys lu;split at h;cases h;rename_i r W bE;refine⟨t,ys,r,W,hf,ht,lu,bE,?_⟩;split at h;rename_i h5;split at h;cases h;rename_i b W1 hb;split at h;cases h;rename_i c W2 hc;cases h;exact .inl ⟨h5,b,W1,c,hb,hc,rfl⟩;rename_i h5;split at h;rename_i h6;split at h;cases h;rename_i b W1 hb;cases h;exact .inr (.inl ⟨h6,b,hb,rfl⟩);rename_i h6;cases h;exact .inr (.inr ⟨h5,h6,rfl,rfl⟩);cases h
theorem qk{H:Hd}{bg:Bool}{res:T3}{V X:List Vd}{s:Sm}{l:List Sm}{zs:List Sm}(h:mO H bg res V (s::l)=.ok (zs,X)):∃y W ys,yM H bg res V s=.ok (y,W)/\mO H bg res W l=.ok (ys,X)/\zs=y::ys:=by
 unfold mO at h;split at h;cases h;rename_i y W hy;split at h;cases h;rename_i ys X' hz;cases h;exact⟨y,W,ys,hy,hz,rfl⟩
theorem VT{H:Hd}{res:T3}{V W:List Vd}{k:Int}{nm:List UInt8}{es:List E}{t:T3}{r:Int}(h:nK H res V k nm es t=some (r,W)):W=V\/(k=1\/k=2)/\W=V++[⟨nm,t⟩]:=by
 unfold nK at h;split at h;rename_i c;split at h;cases h;cases h;exact .inr ⟨.inl c,rfl⟩;split at h;rename_i c;split at h;split at h;cases h;cases h;exact .inr ⟨.inr c,rfl⟩;cases h;all_goals left
 split at h;split at h;split at h<;>cases h;rfl;cases h;split at h;split at h<;>cases h;rfl;split at h;split at h<;>cases h;rfl;split at h;split at h<;>cases h;rfl;split at h;split at h<;>cases h;rfl;cases h;rfl
theorem ZY{H:Hd}{k:Int}{on:List UInt8}{od:Int}{t:T3}(h:oW H k on od=some t):WT H.rs.length t:=by
 unfold oW at h;split at h;split at h<;>cases h;exact oC _ _ _;cases h;exact VQ
theorem AI{H:Hd}{bg:Bool}{res:T3}:∀{l ys:List Sm}{V X:List Vd},(∀s∈l,∀V y W,(∀f∈V,WT H.rs.length f.ty)->yM H bg res V s=.ok (y,W)->(∀f∈W,WT H.rs.length f.ty)/\W.length<=V.length+Sm.sz s)->
  (∀f∈V,WT H.rs.length f.ty)->mO H bg res V l=.ok (ys,X)->(∀f∈X,WT H.rs.length f.ty)/\X.length<=V.length+Sm.eH l
 |[],ys,V,X,_,hV,h=>by unfold mO at h;cases h;exact⟨hV,by simp[Sm.eH]⟩|s::l,ys,V,X,hp,hV,h=>by
  obtain⟨y,W,zs,h1,h2,rfl⟩:=qk h;obtain⟨a1,a2⟩:=hp s aa4 V y W hV h1;obtain⟨b1,b2⟩:=AI (λs hs=>hp s (abg _ hs)) a1 h2;exact⟨b1,by simp only[Sm.eH];omega⟩
theorem NO{H:Hd}{bg:Bool}{res:T3}(s:Sm):∀V y W,(∀f∈V,WT H.rs.length f.ty)->yM H bg res V s=.ok (y,W)->(∀f∈W,WT H.rs.length f.ty)/\W.length<=V.length+Sm.sz s:=by
 induction s using Sm.zY with
 |_ s vQ rO=>
  intro V y X hV h;obtain⟨t,ys,r,W,hf,ht,lu,bE,hh⟩:=xE h;have hW:(∀f∈W,WT H.rs.length f.ty)/\W.length<=V.length+1:=by
   rcases VT bE with e|⟨_,e⟩;subst e;exact⟨hV,by omega⟩;subst e;refine⟨λf hf=>?_,by simp⟩;rcases abI.1 hf with h|h;exact hV f h;rw[ady.1 h];exact ZY ht
  have hz:=Sm.uD s;rcases hh with⟨_,b,W1,c,hb,hc,_⟩|⟨_,b,hb,_⟩|⟨_,_,rfl,_⟩;obtain⟨a1,a2⟩:=AI vQ hW.1 hb;obtain⟨b1,b2⟩:=AI rO a1 hc;exact⟨b1,by omega⟩;obtain⟨a1,a2⟩:=AI vQ hW.1 hb;exact⟨a1,by omega⟩;exact⟨hW.1,by omega⟩
theorem VU{H:Hd}{bg:Bool}{res:T3}{l ys:List Sm}{V X:List Vd}(hV:∀f∈V,WT H.rs.length f.ty)(h:mO H bg res V l=.ok (ys,X)):(∀f∈X,WT H.rs.length f.ty)/\X.length<=V.length+Sm.eH l:=
 AI (λs _=>NO s) hV h
theorem VX{H:Hd}{V:List Vd}{e y:E}(h:uS H V e=.ok y):y.k=e.k:=by
 obtain⟨ks,t,r,_,_,_,rfl⟩:=qF h;rfl
theorem VY{H:Hd}{V:List Vd}{bg:Bool}{k:Int}{l ys:List E}(h:oQ H V l=.ok ys)(hf:eu bg k l=true):eu bg k ys=true:=by
 have hl:=nD h;unfold eu at hf ⊢;rw[hl];match l,hl,hf,h with
 |[],hl,hf,_=>rw[List.length_nil]at hl;rw[List.eq_nil_of_length_eq_zero hl];exact hf|[e],hl,hf,h=>
  obtain⟨y,zs,h1,_,h2,rfl⟩:=kY h;unfold oQ at h2;cases h2;simpa [VX h1] using hf
 |[e,e2],hl,hf,h=>
  obtain⟨y,zs,h1,_,h2,rfl⟩:=kY h;obtain⟨y2,zs2,h3,_,h4,rfl⟩:=kY h2;unfold oQ at h4;cases h4;simpa [VX h1] using hf
 |e::e2::e3::l,hl,hf,h=>
  obtain⟨y,zs,h1,_,h2,rfl⟩:=kY h;obtain⟨y2,zs2,h3,_,h4,rfl⟩:=kY h2;obtain⟨y3,zs3,h5,_,h6,rfl⟩:=kY h4;simp at hf
theorem BF{H:Hd}{V:List Vd}{k:Int}{es:List E}(h:k≠9):yq H V k es=oQ H V es:=by unfold yq;rw[if_neg h]
theorem VZ{H:Hd}{V:List Vd}{e:E}:yq H V 9 [e]=match uS H V e with|.error x=>.error x|.ok y=>.ok [y]:=by unfold yq;rfl
theorem V1{bg:Bool}{es:List E}(h:eu bg 9 es=true):∃e,es=[e]/\e.k=7:=by
 unfold eu at h;match es,h with
 |[],h=>cases h|[e],h=>exact⟨e,rfl,by simpa using h⟩|_::_::_,h=>cases h
theorem V2{H:Hd}{V:List Vd}{bg:Bool}{k:Int}{l ys:List E}(h:yq H V k l=.ok ys)(hf:eu bg k l=true):eu bg k ys=true:=by
 by_cases h9:k=9;subst h9;obtain⟨e,rfl,he⟩:=V1 hf;rw[VZ]at h;split at h;cases h;rename_i y hy;cases h;unfold eu;simpa [VX hy] using he;rw[BF h9]at h;exact VY h hf
theorem I9{H:Hd}{V:List Vd}:∀{l ys:List E},(∀e∈l,∀y,uS H V e=.ok y->E.sz y=E.sz e)->oQ H V l=.ok ys->E.eH ys=E.eH l
 |[],ys,_,h=>by unfold oQ at h;cases h;rfl|e::l,ys,hp,h=>by
  obtain⟨y,zs,h1,_,h2,rfl⟩:=kY h;simp only[E.eH,hp e aa4 y h1,I9 (λe he=>hp e (abg _ he)) h2]
theorem V3{H:Hd}{V:List Vd}(e:E):∀y,uS H V e=.ok y->E.sz y=E.sz e:=by
 induction e using E.zY with
 |_ e ih=>
  intro y h;obtain⟨ks,t,r,_,h2,_,rfl⟩:=qF h;rw[E.vP e];simp only[E.sz,I9 ih h2]
theorem adZ{H:Hd}{V:List Vd}{l ys:List E}(h:oQ H V l=.ok ys):E.eH ys=E.eH l:=I9 (λe _=>V3 e) h
theorem ad0{H:Hd}{V:List Vd}{bg:Bool}{k:Int}{l ys:List E}(h:yq H V k l=.ok ys)(hf:eu bg k l=true):E.eH ys=E.eH l:=by
 by_cases h9:k=9;subst h9;obtain⟨e,rfl,he⟩:=V1 hf;rw[VZ]at h;split at h;cases h;rename_i y hy;cases h;simp only[E.eH,V3 e y hy];rw[BF h9]at h;exact adZ h
theorem AJ{H:Hd}{bg:Bool}{res:T3}:∀{l ys:List Sm}{V X:List Vd},(∀s∈l,∀V y W,yM H bg res V s=.ok (y,W)->Sm.sz y<=Sm.sz s)->mO H bg res V l=.ok (ys,X)->Sm.eH ys<=Sm.eH l
 |[],ys,V,X,_,h=>by unfold mO at h;cases h;exact aaH _|s::l,ys,V,X,hp,h=>by
  obtain⟨y,W,zs,h1,h2,rfl⟩:=qk h;have a:=hp s aa4 V y W h1;have b:=AJ (λs hs=>hp s (abg _ hs)) h2;simp only[Sm.eH];omega
theorem ad1{H:Hd}{bg:Bool}{res:T3}(s:Sm):∀V y W,yM H bg res V s=.ok (y,W)->Sm.sz y<=Sm.sz s:=by
 induction s using Sm.zY with
 |_ s vQ rO=>
  intro V y X h;obtain⟨t,ys,r,W,hf,ht,lu,bE,hh⟩:=xE h;have e:=ad0 lu hf;have hz:=Sm.uD s;rcases hh with⟨h5,b,W1,c,hb,hc,rfl⟩|⟨h6,b,hb,rfl⟩|⟨h5,h6,rfl,rfl⟩;have b2:=AJ vQ hb;have c2:=AJ rO hc;simp only[Sm.sz];omega;have b2:=AJ vQ hb;simp only[Sm.sz,Sm.eH];omega;simp only[Sm.sz,Sm.eH];omega
theorem ad2{H:Hd}{bg:Bool}{res:T3}{l ys:List Sm}{V X:List Vd}(h:mO H bg res V l=.ok (ys,X)):Sm.eH ys<=Sm.eH l:=AJ (λs _=>ad1 s) h
theorem Hv{H:Hd}{n:Nat}:∀{ss:List Sg}{fs:List Fc}{bs:List Bd},ue H ss fs=.ok bs->(∀f∈fs,Sm.eH f.body<=n)->∀b∈bs,Sm.eH b.code<=n
 |[],fs,bs,h,_=>by unfold ue at h;cases h;simp|_::_,[],bs,h,_=>by unfold ue at h;cases h;simp|s::ss,f::fs,bs,h,hp=>by
  unfold ue at h;split at h;cases h;rename_i c W hc;split at h;cases h;rename_i l kH;cases h;intro b hb;rcases abY.1 hb with e|e;subst e;have:=ad2 hc;have:=hp f aa4;simp only;omega;exact Hv kH (λf hf=>hp f (abg _ hf)) b e
theorem Lt{H:Hd}(hH:H.ok){n:Nat}:∀{ss:List Sg}{fs:List Fc}{bs:List Bd},ue H ss fs=.ok bs->(∀s∈ss,∀f∈s.ps,WT H.rs.length f.ty)->(∀s∈ss,s.ps.length<=n)->(∀f∈fs,Sm.eH f.body<=n)->∀b∈bs,b.vars.length<=n+n
 |[],fs,bs,h,_,_,_=>by unfold ue at h;cases h;simp|_::_,[],bs,h,_,_,_=>by unfold ue at h;cases h;simp|s::ss,f::fs,bs,h,hs,hp,hq=>by
  unfold ue at h;split at h;cases h;rename_i c W hc;split at h;cases h;rename_i l kH;cases h;intro b hb;rcases abY.1 hb with e|e;subst e;have:=(VU (hs s aa4) hc).2;have:=hp s aa4;have:=hq f aa4;simp only;omega;exact Lt hH kH (λs h=>hs s (abg _ h)) (λs h=>hp s (abg _ h)) (λf h=>hq f (abg _ h)) b e
end jX
namespace jX
open Ax Go V7 jw
theorem BG{k n:Int}{nm on:List UInt8}{od:Int}{ks:List E}{a:Int}:E.sz (Em k n nm on od ks a)=1+E.eH ks:=rfl
theorem ru:E.eH []=0:=rfl
theorem lM{e:E}:E.eH [e]=E.sz e:=by simp[E.eH]
theorem Ja{e f:E}:E.eH [e,f]=E.sz e+E.sz f:=by simp[E.eH]
theorem PL:∀l r:List E,E.eH (l++r)=E.eH l+E.eH r
 |[],r=>by simp[E.eH]|e::l,r=>by
  have:=PL l r;simp only[acw,E.eH];omega
theorem PM:∀l r:List Sm,Sm.eH (l++r)=Sm.eH l+Sm.eH r
 |[],r=>by simp[Sm.eH]|e::l,r=>by
  have:=PM l r;simp only[acw,Sm.eH];omega
theorem oD:Sm.eH []=0:=rfl
theorem ZZ{e:Sm}:Sm.eH [e]=Sm.sz e:=by simp[Sm.eH]
theorem Fe{k:Int}{nm on:List UInt8}{od:Int}{es:List E}{bd el:List Sm}{a dz:Int}:Sm.sz (.mk k nm on od es bd el a dz)=1+E.eH es+Sm.eH bd+Sm.eH el:=rfl
theorem jm{q:RQ}:(bK q).at_=q.at_+1:=rfl
theorem Z0{q:RQ}{d:Int}:(xy q d).at_=q.at_:=rfl
theorem Z1{q:RQ}{d:Int}:(xy q d).fe=q.fe:=rfl
theorem ry{T:List Tk}{q r:RQ}(w:vM T q r)(f:r.fe=0):q.at_+1<=r.at_:=by
 rcases w with w|⟨_,w⟩;exact absurd f w;exact w
theorem Lu(T:List Tk):∀f:Nat,(∀n q e r,js T f n q=some (e,r)->r.fe=0->E.sz e+q.at_<=r.at_)/\(∀n a q e r,pC T f n a q=some (e,r)->r.fe=0->E.sz e+q.at_<=r.at_+E.sz a)/\
  (∀q e r,qz T f q=some (e,r)->r.fe=0->E.sz e+q.at_<=r.at_)/\(∀a q e r,kM T f a q=some (e,r)->r.fe=0->E.sz e+q.at_<=r.at_+E.sz a)/\(∀q e r,oz T f q=some (e,r)->r.fe=0->E.sz e+q.at_<=r.at_)/\
  (∀q e r,qA T f q=some (e,r)->r.fe=0->E.sz e+q.at_<=r.at_)/\(∀a q e r,qB T f a q=some (e,r)->r.fe=0->E.sz e+q.at_<=r.at_)/\(∀q e r,wm T f q=some (e,r)->r.fe=0->E.eH e+q.at_<=r.at_)/\
  (∀l q e r,uC T f l q=some (e,r)->r.fe=0->E.eH e+q.at_<=r.at_+E.eH l)
 |0=>by simp[js,pC,qz,kM,oz,qA,qB,wm,uC]|f+1=>by
  obtain⟨hE,hS,hU,hB,hI,hF,hN,hA,hM⟩:=Lu T f;obtain⟨gE,gS,gU,gB,gI,gF,gN,gA,gM⟩:=AG T f;refine⟨λn q e r h fr=>?_,λn a q e r h fr=>?_,λq e r h fr=>?_,λa q e r h fr=>?_,λq e r h fr=>?_,λq e r h fr=>?_,λa q e r h fr=>?_,λq e r h fr=>?_,λl q e r h fr=>?_⟩;unfold js at h;split at h;exact hU _ _ _ h fr;obtain⟨⟨x1,x2⟩,h1,h2⟩:=aap.1 h;have f2:=(gS _ _ _ _ _ h2).Cp fr;have:=hE _ _ _ _ h1 f2;have:=hS _ _ _ _ _ h2 fr
  (try dsimp only at *);omega
  unfold pC at h;split at h;rename_i c;obtain⟨⟨x1,x2⟩,h1,h2⟩:=aap.1 h;have f2:=(gS _ _ _ _ _ h2).Cp fr;have a1:=hE _ _ _ _ h1 f2;have a2:=hS _ _ _ _ _ h2 fr;rw[BG,Ja]at a2;rw[jm]at a1
  (try dsimp only at *);omega
  cases h;omega;unfold qz at h;split at h;obtain⟨⟨x1,x2⟩,h1,h2⟩:=aap.1 h;cases h2;rw[Z1]at fr;have a1:=hE _ _ _ _ h1 fr;have a2:=ry kN ((gE _ _ _ _ h1).Cp fr);rw[BG,lM,Z0]
  (try dsimp only at *);omega
  obtain⟨⟨x1,x2⟩,h1,h2⟩:=aap.1 h;have f2:=(gB _ _ _ _ h2).Cp fr;have:=hF _ _ _ h1 f2;have:=hB _ _ _ _ h2 fr
  (try dsimp only at *);omega
  unfold kM at h;split at h;rename_i c;have a1:=hB _ _ _ _ h fr;rw[BG,lM]at a1;have a2:=(iK (T:=T) (q:=bK q)).le;rw[jm]at a2;omega;split at h;obtain⟨⟨x1,x2⟩,h1,h2⟩:=aap.1 h;have f2:=(gB _ _ _ _ h2).Cp fr;have f3:=(eN (T:=T) (q:=x2) (s:=[93])).Cp f2;have a1:=hE _ _ _ _ h1 f3;have a2:=ry kN ((gE _ _ _ _ h1).Cp f3);have a3:=hB _ _ _ _ h2 fr;have a4:=(eN (T:=T) (q:=x2) (s:=[93])).le;rw[BG,Ja]at a3
  (try dsimp only at *);omega
  cases h;omega;unfold oz at h;obtain⟨⟨x1,x2⟩,h1,h2⟩:=aap.1 h;cases h2;have f3:=(eN (T:=T) (q:=x2) (s:=[41])).Cp fr;have a1:=hE _ _ _ _ h1 f3;have a2:=ry kN ((gE _ _ _ _ h1).Cp f3);have a4:=(eN (T:=T) (q:=x2) (s:=[41])).le
  (try dsimp only at *);omega
  unfold qA at h;split at h;cases h;rw[BG,ru,jm];omega;split at h;cases h;rw[BG,ru,jm];omega;split at h;cases h;have:=(oA (T:=T) (q:=bK q)).le;rw[jm]at this;rw[BG,ru];omega;split at h;have:=hN _ _ _ _ h fr;rw[jm]at this;omega;split at h;obtain⟨⟨x1,x2⟩,h1,h2⟩:=aap.1 h;cases h2;have a1:=hI _ _ _ h1 fr;rw[jm]at a1;rw[BG,lM]
  (try dsimp only at *);omega
  split at h;cases h;have a1:=((fm (T:=T) (q:=bK q) (s:=[40])).trans (eN (s:=[41]))).le;rw[jm]at a1;rw[BG,ru];omega;split at h;exact hI _ _ _ h fr;split at h;obtain⟨⟨x1,x2⟩,h1,h2⟩:=aap.1 h;cases h2;have a1:=hA _ _ _ h1 fr;have a2:=ry pE ((gA _ _ _ h1).Cp fr);rw[BG]
  (try dsimp only at *);omega
  cases h;have a2:=ry pE fr;rw[BG,ru];omega;unfold qB at h;split at h;obtain⟨⟨x1,x2⟩,h1,h2⟩:=aap.1 h;cases h2;have a1:=hI _ _ _ h1 fr;have a2:=((oA (T:=T) (q:=bK q)).trans (bn (s:=[93]))).le;rw[jm]at a2;rw[BG,lM]
  (try dsimp only at *);omega
  cases h;have a2:=ry pE fr;rw[BG,ru];omega;unfold wm at h;split at h;cases h;have a1:=((fm (T:=T) (q:=q) (s:=[40])).trans (eN (s:=[41]))).le;rw[ru];omega;obtain⟨⟨x1,x2⟩,h1,h2⟩:=aap.1 h;have f2:=(gM _ _ _ _ h2).Cp fr;have a1:=hE _ _ _ _ h1 f2;have a2:=(fm (T:=T) (q:=q) (s:=[40])).le;have a3:=hM _ _ _ _ h2 fr;rw[lM]at a3
  (try dsimp only at *);omega
  unfold uC at h;split at h;obtain⟨⟨x1,x2⟩,h1,h2⟩:=aap.1 h;have f2:=(gM _ _ _ _ h2).Cp fr;have a1:=hE _ _ _ _ h1 f2;rw[jm]at a1;have a3:=hM _ _ _ _ h2 fr;rw[PL,lM]at a3
  (try dsimp only at *);omega
  cases h;have a1:=(eN (T:=T) (q:=q) (s:=[41])).le;omega
theorem mH{T:List Tk}{f n:Nat}{q r:RQ}{e:E}(h:js T f n q=some (e,r))(fr:r.fe=0):E.sz e+q.at_<=r.at_:=(Lu T f).1 _ _ _ _ h fr
theorem NP{T:List Tk}{f:Nat}{a:Int}{q r:RQ}{s:Sm}(h:tV T f a q=some (s,r))(fr:r.fe=0):Sm.sz s+q.at_<=r.at_:=by
 unfold tV at h;obtain⟨⟨x1,x2⟩,h1,h2⟩:=aap.1 h;dsimp only at h2;split at h2;obtain⟨⟨y1,y2⟩,h3,h4⟩:=aap.1 h2;cases h4;have f1:=(bn (T:=T) (q:=y2) (s:=[59])).Cp fr;have w:=ry kj fr;have a3:=mH h3 f1;have f3:=(jd h3).Cp f1;have w2:=ry kj f3;have f4:=bn.Cp f3;by_cases c:x1.k=4\/x1.k=5\/x1.k=6;rw[if_pos c]at w2 f4;have a1:=mH h1 f4;rw[if_pos c]at a3;by_cases c4:x1.k=4;rw[if_pos c4,Fe,lM,oD];(try dsimp only at *);omega;rw[if_neg c4,Fe,Ja,oD];(try dsimp only at *);omega;rw[if_neg c]at f4;exact absurd f4 (kW (by decide));cases h2;have f1:=(bn).Cp fr;have w:=ry kj fr;by_cases c:iC T x2 [59]=true/\x1.k≠7;rw[if_pos c]at f1;exact absurd f1 (kW (by decide));rw[if_neg c]at f1 w;have a1:=mH h1 f1;rw[Fe,lM,oD,if_neg c];(try dsimp only at *);omega
theorem Ff(T:List Tk):∀f:Nat,(∀q s r,wo T f q=some (s,r)->r.fe=0->Sm.sz s+q.at_<=r.at_)/\(∀q s r,ki T f q=some (s,r)->r.fe=0->Sm.eH s+q.at_<=r.at_)/\
  (∀l q s r,pD T f l q=some (s,r)->r.fe=0->Sm.eH s+q.at_<=r.at_+Sm.eH l)
 |0=>by simp[wo,ki,pD]|f+1=>by
  obtain⟨hS,hB,hL⟩:=Ff T f;obtain⟨gS,gB,gL⟩:=sC T f;refine⟨λq s r h fr=>?_,λq s r h fr=>?_,λl q s r h fr=>?_⟩;unfold wo at h;split at h;cases h;have:=((jh (T:=T) (q:=bK q)).trans (bn (s:=[59]))).le;rw[jm]at this;rw[Fe,ru,oD];omega;split at h;obtain⟨⟨x1,x2⟩,h1,h2⟩:=aap.1 h;cases h2;have f1:=bn.Cp fr;have a1:=mH h1 f1;have a2:=((jh (T:=T) (q:=bK q)).trans (bn (s:=[61]))).le;have a3:=(bn (T:=T) (q:=x2) (s:=[59])).le;rw[jm]at a2;rw[Fe,lM,oD];(try dsimp only at *);omega;split at h;obtain⟨⟨x1,x2⟩,h1,h2⟩:=aap.1 h;obtain⟨⟨y1,y2⟩,h3,h4⟩:=aap.1 h2;dsimp only at h4;split at h4;rename_i d;obtain⟨⟨z1,z2⟩,h5,h6⟩:=aap.1 h4;cases h6;have f1:=(gB _ _ _ h5).1.Cp fr;have f2:y2.fe=0:=f1;have f3:=(gB _ _ _ h3).1.Cp f2;have a1:=mH h1 f3;have a2:=hB _ _ _ h3 f2;have a3:=hB _ _ _ h5 fr;rw[jm]at a1 a3;rw[Fe,lM];(try dsimp only at *);omega;cases h4;have f3:=(gB _ _ _ h3).1.Cp fr;have a1:=mH h1 f3;have a2:=hB _ _ _ h3 fr;rw[jm]at a1;rw[Fe,lM,oD];(try dsimp only at *);omega;split at h;obtain⟨⟨x1,x2⟩,h1,h2⟩:=aap.1 h;obtain⟨⟨y1,y2⟩,h3,h4⟩:=aap.1 h2;cases h4;have f3:=(gB _ _ _ h3).1.Cp fr;have a1:=mH h1 f3;have a2:=hB _ _ _ h3 fr;rw[jm]at a1;rw[Fe,lM,oD];(try dsimp only at *);omega;split at h;split at h;cases h;have a2:=(bn (T:=T) (q:=bK q) (s:=[59])).le;rw[jm]at a2;rw[Fe,ru,oD];omega;obtain⟨⟨x1,x2⟩,h1,h2⟩:=aap.1 h;cases h2;have f1:=bn.Cp fr;have a1:=mH h1 f1;have a3:=(bn (T:=T) (q:=x2) (s:=[59])).le;rw[jm]at a1;rw[Fe,lM,oD];(try dsimp only at *);omega;split at h;obtain⟨⟨x1,x2⟩,h1,h2⟩:=aap.1 h;cases h2;have f1:=bn.Cp fr;have a1:=mH h1 f1;have a3:=(bn (T:=T) (q:=x2) (s:=[59])).le;rw[jm]at a1;rw[Fe,lM,oD];(try dsimp only at *);omega;exact NP h fr;unfold ki at h;have a1:=hL _ _ _ _ h fr;have a2:=(fm (T:=T) (q:=q) (s:=[123])).le;rw[oD]at a1;omega;unfold pD at h;split at h;obtain⟨⟨x1,x2⟩,h1,h2⟩:=aap.1 h;have f1:=(gL _ _ _ _ h2).Cp fr;have a1:=hS _ _ _ h1 f1;have a2:=hL _ _ _ _ h2 fr;rw[PM,ZZ]at a2
  (try dsimp only at *);omega
  cases h;have a2:=(eN (T:=T) (q:=q) (s:=[125])).le;omega
theorem Fg{T:List Tk}{f:Nat}{q r:RQ}{s:List Sm}(h:ki T f q=some (s,r))(fr:r.fe=0):Sm.eH s+q.at_<=r.at_:=(Ff T f).2.1 _ _ _ h fr
theorem Ru{T:List Tk}{f:Nat}{q r:RQ}{s:Fc}(h:xz T f q=some (s,r))(fr:r.fe=0):Sm.eH s.body<=r.at_:=by
 unfold xz at h;obtain⟨⟨x1,x2⟩,h1,h2⟩:=aap.1 h;dsimp only at h2;split at h2;obtain⟨⟨y1,y2⟩,h3,h4⟩:=aap.1 h2;cases h4;have:=Fg h3 fr
 (try dsimp only at *);omega
 obtain⟨⟨y1,y2⟩,h3,h4⟩:=aap.1 h2;cases h4;have:=Fg h3 fr
 (try dsimp only at *);omega
theorem pG{T:List Tk}:∀(f:Nat)(p:Pg)(q:RQ)(s:Pg)(r:RQ),qj T f p q=some (s,r)->q.at_<=T.length->(q.fe=0->∀g∈p.funcs,Sm.eH g.body<=T.length)->r.fe=0->∀g∈s.funcs,Sm.eH g.body<=T.length
 |0,_,_,_,_,h,_,_=>by simp[qj]at h|f+1,p,q,s,r,h,hq,hp=>by
  unfold qj at h;split at h;rename_i c;split at h;exact pG f _ _ _ _ h (jD.ub hq) λe=>absurd e (kW (by decide));split at h;rename_i d;obtain⟨⟨x1,x2⟩,h1,h2⟩:=aap.1 h;exact pG f _ _ _ _ h2 ((Cs h1).1.ub (bu d).2) λe=>hp c.1;split at h;rename_i d;exact pG f _ _ _ _ h ((jh.trans bn).ub (bu d).2) λe=>hp c.1;split at h;rename_i d;obtain⟨⟨x1,x2⟩,h1,h2⟩:=aap.1 h;have hu:=(Hr h1).1.ub (bu d).2;exact pG f _ _ _ _ h2 hu λe g hg=>by
   rcases abI.1 hg with hg|hg;exact hp c.1 g hg;rw[ady.1 hg];have:=Ru h1 e
   (try dsimp only at *);omega
  exact pG f _ _ _ _ h (jD.ub hq) λe=>absurd e (kW (by decide));cases h;exact λe=>hp e
theorem Rv{T:List Tk}{f:Nat}{x:Pg×Int×Int}(h:vK T f=some x):∀g∈x.1.funcs,Sm.eH g.body<=T.length:=by
 unfold vK at h;obtain⟨⟨p,r⟩,h1,h2⟩:=aap.1 h;dsimp only at h2;split at h2;rename_i c;cases h2;exact pG f _ _ _ _ h1 (Nat.zero_le _) (λ_ g hg=>by cases hg) c;cases h2;intro g hg;cases hg
end jX
namespace jX
open Ax Go V7 jw
def tE(a b:Option Int):Option Int:=match a with
 |some x=>some x|none=>b
theorem uE{a:Option Int}:tE a none=a:=by cases a<;>rfl
theorem pH{a b c:Option Int}:tE (tE a b) c=tE a (tE b c):=by cases a<;>rfl
mutual
def Jb(su:List Bool):E->Option Int
 |.mk k _ _ _ _ aK a _ dz=>tE (pI su aK) (if k=4/\0<=dz/\su[dz.toNat]?=some false then some a else none)
def pI(su:List Bool):List E->Option Int
 |[]=>none|e::l=>tE (Jb su e) (pI su l)
end
mutual
def xF:List Bool->Sm->List Bool×Option Int
 |su,.mk k _ _ _ es bd el _ dz=>
  if k=1 then (su.set dz.toNat false,pI su es)
  else if k=2\/k=3 then (if 0<=dz then su.set dz.toNat true else su,pI su es)
  else if k=7 then (su.map λ_=>true,pI su es)
  else if k=6 then (su,tE (pI su es) (kB su bd).2)
  else if k=5 then (List.zipWith (λa b=>a&&b) (kB su bd).1 (kB su el).1,tE (pI su es) (tE (kB su bd).2 (kB su el).2))
  else (su,pI su es)
def kB:List Bool->List Sm->List Bool×Option Int
 |su,[]=>(su,none)
 |su,s::l=>((kB (xF su s).1 l).1,tE (xF su s).2 (kB (xF su s).1 l).2)
end
theorem Z2(su:List Bool)(e:E):Jb su e=tE (pI su e.aK) (if e.k=4/\0<=e.dz/\su[e.dz.toNat]?=some false then some e.a else none):=by
 obtain⟨k,n,nm,on,od,aK,a,ty,dz⟩:=e
 (conv=>lhs;unfold Jb)<;>rfl
theorem Hw(su:List Bool)(e:E)(l:List E):pI su (e::l)=tE (Jb su e) (pI su l):=by
 (conv=>lhs;unfold pI)<;>rfl
theorem Z3(su:List Bool)(s:Sm):xF su s =
  if s.k=1 then (su.set s.dz.toNat false,pI su s.es)
  else if s.k=2\/s.k=3 then (if 0<=s.dz then su.set s.dz.toNat true else su,pI su s.es)
  else if s.k=7 then (su.map λ_=>true,pI su s.es)
  else if s.k=6 then (su,tE (pI su s.es) (kB su s.bd).2)
  else if s.k=5 then (List.zipWith (λa b=>a&&b) (kB su s.bd).1 (kB su s.el).1,tE (pI su s.es) (tE (kB su s.bd).2 (kB su s.el).2))
  else (su,pI su s.es):=by
 obtain⟨k,nm,on,od,es,bd,el,a,dz⟩:=s
 (conv=>lhs;unfold xF)<;>rfl
theorem Rw(su:List Bool)(s:Sm)(l:List Sm):kB su (s::l)=((kB (xF su s).1 l).1,tE (xF su s).2 (kB (xF su s).1 l).2):=by
 (conv=>lhs;unfold kB)<;>rfl
theorem V4(su:List Bool):kB su []=(su,none):=by unfold kB;rfl
mutual
theorem Lv:∀(su:List Bool)(s:Sm),(xF su s).1.length=su.length
 |su,.mk k nm on od es bd el a dz=>by
  unfold xF;split;simp;split;split<;>simp;split;simp;split
  rfl
  split;simp[xG su bd,xG su el]
  rfl
theorem xG:∀(su:List Bool)(l:List Sm),(kB su l).1.length=su.length
 |su,[]=>by unfold kB;rfl|su,s::l=>by
  unfold kB;simp only;rw[xG (xF su s).1 l,Lv su s]
end
mutual
def Lw(n:Nat):E->Prop
 |.mk k _ _ _ _ aK _ _ dz=>(k=4->dz<n)/\BH n aK
def BH(n:Nat):List E->Prop
 |[]=>True|e::l=>Lw n e/\BH n l
end
mutual
def Jc(n:Nat):Sm->Prop
 |.mk k _ _ _ es bd el _ dz=>BH n es/\(k=1\/k=2->0<=dz/\dz<n)/\(k=3->dz<n)/\vR n bd/\vR n el
def vR(n:Nat):List Sm->Prop
 |[]=>True|s::l=>Jc n s/\vR n l
end
theorem Dt(n:Nat)(e:E):Lw n e↔(e.k=4->e.dz<n)/\BH n e.aK:=by
 obtain⟨k,_,nm,on,od,aK,a,ty,dz⟩:=e;unfold Lw;exact Iff.rfl
theorem yu(n:Nat)(s:Sm):Jc n s↔BH n s.es/\(s.k=1\/s.k=2->0<=s.dz/\s.dz<n)/\(s.k=3->s.dz<n)/\vR n s.bd/\vR n s.el:=by
 obtain⟨k,nm,on,od,es,bd,el,a,dz⟩:=s;unfold Jc;exact Iff.rfl
theorem oE(n:Nat):∀l:List E,BH n l↔∀e∈l,Lw n e
 |[]=>by simp[BH]|e::l=>by simp[BH,oE n l]
theorem uF(n:Nat):∀l:List Sm,vR n l↔∀e∈l,Jc n e
 |[]=>by simp[vR]|e::l=>by simp[vR,uF n l]
theorem Rx{n m:Nat}(h:n<=m)(e:E):Lw n e->Lw m e:=by
 induction e using E.zY with
 |_ e ih=>
  rw[Dt,Dt,oE,oE];exact λ⟨h1,h2⟩=>⟨λhk=>by have:=h1 hk;omega,λx hx=>ih x hx (h2 x hx)⟩
theorem yw{n m:Nat}(h:n<=m)(l:List E):BH n l->BH m l:=by
 rw[oE,oE];exact λh2 x hx=>Rx h x (h2 x hx)
theorem Hx{n m:Nat}(h:n<=m)(s:Sm):Jc n s->Jc m s:=by
 induction s using Sm.zY with
 |_ s vQ rO=>
  rw[yu,yu];rintro⟨h1,h2,h3,h4,h5⟩;rw[uF]at h4 h5 ⊢;refine⟨yw h _ h1,λhk=>?_,λhk=>?_,λx hx=>vQ x hx (h4 x hx),?_⟩;have:=h2 hk;omega;have:=h3 hk;omega;rw[uF];exact λx hx=>rO x hx (h5 x hx)
theorem Ry{n m:Nat}(h:n<=m)(l:List Sm):vR n l->vR m l:=by
 rw[uF,uF];exact λh2 x hx=>Hx h x (h2 x hx)
theorem AK{s:List UInt8}:∀{l:List Vd}{i k:Nat}{t:T3},iw s i l=some (k,t)->k<i+l.length
 |[],_,_,_,h=>by cases h|f::l,i,k,t,h=>by
  unfold iw at h;split at h;cases h;simp;have:=AK h;simp only[abq];omega
theorem V5{H:Hd}{V:List Vd}{s:List UInt8}{t:T3}{r:Int}(h:rq H V s=some (t,r)):r<V.length:=by
 unfold rq at h;split at h;rename_i e;cases h;have:=AK e;omega;split at h;cases h;omega;cases h
theorem PN{H:Hd}{V:List Vd}(e:E):∀y,uS H V e=.ok y->Lw V.length y:=by
 induction e using E.zY with
 |_ e ih=>
  intro y h;obtain⟨ks,t,r,_,h2,h3,rfl⟩:=qF h;rw[Dt];refine⟨λhk=>?_,?_⟩;have hk:e.k=4:=hk;show r<_;unfold mR at h3;rw[if_neg (by omega),if_neg (by omega),if_neg (by omega),if_pos hk]at h3;exact V5 h3;show BH _ ks;rw[oE];exact jM h2 ih
theorem AL{H:Hd}{bg:Bool}{res:T3}:∀{l ys:List Sm}{V X:List Vd},(∀s∈l,∀V y W,yM H bg res V s=.ok (y,W)->V.length<=W.length/\Jc W.length y)->mO H bg res V l=.ok (ys,X)->V.length<=X.length/\vR X.length ys
 |[],ys,V,X,_,h=>by
  unfold mO at h;cases h;exact⟨aaH _,by simp[vR]⟩
 |s::l,ys,V,X,hp,h=>by
  obtain⟨y,W,zs,h1,h2,rfl⟩:=qk h;obtain⟨a1,a2⟩:=hp s aa4 V y W h1;obtain⟨b1,b2⟩:=AL (λt ht=>hp t (abg _ ht)) h2;refine⟨by omega,?_⟩;unfold vR;exact⟨Hx b1 _ a2,b2⟩
theorem aiJ{H:Hd}{res:T3}{V W:List Vd}{k:Int}{nm:List UInt8}{es:List E}{t:T3}{r:Int}(h:nK H res V k nm es t=some (r,W)):(k=1\/k=2->r=V.length)/\(k=3->r<V.length):=by
 unfold nK at h;split at h;rename_i c;split at h;cases h;cases h;exact⟨λ_=>rfl,λh=>by omega⟩;rename_i n1;split at h;rename_i c;split at h;split at h;cases h;cases h;exact⟨λ_=>rfl,λh=>by omega⟩;cases h;rename_i n2;split at h;rename_i c;split at h;rename_i u r' e;split at h;cases h;exact⟨λh=>by omega,λ_=>V5 e⟩;cases h;cases h;rename_i n3;exact⟨λh=>by omega,λh=>by omega⟩
theorem ad3{H:Hd}{V:List Vd}{k:Int}{es ys:List E}(h:yq H V k es=.ok ys):BH V.length ys:=by
 unfold yq at h;rw[oE];split at h;split at h;rename_i e l;cases hx:uS H V e with
 |error a=>rw[hx]at h;cases h|ok y=>
  rw[hx]at h;cases h;intro z hz;rw[ady.1 hz];exact PN e y hx
 cases h;simp;exact jM h λe _ y hy=>PN e y hy
theorem Z4{H:Hd}{bg:Bool}{res:T3}(s:Sm):∀V y X,yM H bg res V s=.ok (y,X)->V.length<=X.length/\Jc X.length y:=by
 induction s using Sm.zY with
 |_ s vQ rO=>
  intro V y X h;obtain⟨t,ys,r,W,hf,ht,lu,bE,hh⟩:=xE h;have qU:=ad3 lu;have hVW:V.length<=W.length:=by
   rcases VT bE with e|⟨_,e⟩;rw[e];exact aaH _;rw[e];simp
  have hr:=aiJ bE;have Ge:s.k=1\/s.k=2->0<=r/\r<(W.length:Int):=λhk=>by
   rcases VT bE with e|⟨_,e⟩;have h1:=hr.1 hk;have:W.length=V.length+1:=by
    unfold nK at bE;rcases hk with hk|hk;rw[if_pos hk]at bE;split at bE;cases bE;cases bE;simp;rw[if_neg (by omega),if_pos hk]at bE;split at bE;split at bE;cases bE;cases bE;simp;cases bE
   omega;have h1:=hr.1 hk;rw[e,h1];simp;omega
  have hr3:s.k=3->r<(W.length:Int):=λhk=>by have:=hr.2 hk;omega
  rcases hh with⟨h5,b,W1,c,hb,hc,rfl⟩|⟨h6,b,hb,rfl⟩|⟨h5,h6,rfl,rfl⟩;obtain⟨a1,a2⟩:=AL (λx hx V y W hw=>vQ x hx V y W hw) hb;obtain⟨b1,b2⟩:=AL (λx hx V y W hw=>rO x hx V y W hw) hc;refine⟨by omega,(yu _ _).2 ⟨yw (by omega) _ qU,λhk=>?_,λhk=>?_,Ry b1 _ a2,b2⟩⟩;have hk:s.k=1\/s.k=2:=hk;omega;have hk:s.k=3:=hk;omega;obtain⟨a1,a2⟩:=AL (λx hx V y W hw=>vQ x hx V y W hw) hb;refine⟨by omega,(yu _ _).2 ⟨yw (by omega) _ qU,λhk=>?_,λhk=>?_,a2,by simp[Sm.el,vR]⟩⟩;have hk:s.k=1\/s.k=2:=hk;omega;have hk:s.k=3:=hk;omega;exact⟨hVW,(yu _ _).2 ⟨yw hVW _ qU,Ge,hr3,by simp[Sm.bd,vR],by simp[Sm.el,vR]⟩⟩
theorem Z6{H:Hd}{bg:Bool}{res:T3}{l ys:List Sm}{V X:List Vd}(h:mO H bg res V l=.ok (ys,X)):V.length<=X.length/\vR X.length ys:=
 AL (λs _ V y W=>Z4 s V y W) h
def su0(g:Sg)(b:Bd):List Bool:=aaO g.ps.length true++aaO (b.vars.length-g.ps.length) false
def Gj:List Sg->List Bd->Option Int
 |s::ss,b::bs=>tE (kB (su0 s b) b.code).2 (Gj ss bs)|_,_=>none
theorem Lx{H:Hd}:∀{ss:List Sg}{fs:List Fc}{bs:List Bd},ue H ss fs=.ok bs->∀(k:Nat)(h1:k<ss.length)(h2:k<bs.length),ss[k].ps.length<=bs[k].vars.length/\vR bs[k].vars.length bs[k].code
 |[],_,bs,h,k,h1,_=>by simp at h1|s::ss,[],bs,h,k,_,h2=>by
  unfold ue at h;cases h;simp at h2
 |s::ss,f::fs,bs,h,k,h1,h2=>by
  unfold ue at h;split at h;cases h;rename_i c W hb;split at h;cases h;rename_i l hl;cases h;match k with
  |0=>exact Z6 hb|k+1=>
   have:=Lx hl k (by simpa using h1) (by simpa using h2);simpa using this
end jX
