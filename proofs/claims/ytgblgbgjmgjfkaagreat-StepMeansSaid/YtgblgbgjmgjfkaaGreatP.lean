/- Part of a proof. -/
import Derived.Test.YtgblgbgjmgjfkaaGreatA6

open List renaming findIdx?_eq_some_iff_getElem->ah9,getElem?_eq_none->aeQ,sizeOf_lt_of_mem->aok,length_cons->aeo,mem_cons->aev,mem_cons_of_mem->aee,mem_cons_self->aeb,mem_append->aed,mem_singleton->agx,cons_append->aer,replicate->acp
open Option renaming bind_eq_some_iff->ack
open Nat renaming le_refl->acO,lt_of_le_of_lt->aou
open Int renaming le_refl->ani
open Bool renaming and_eq_true->Ee,or_eq_true->aet
namespace V7
open Ax Go
def cJ:AV->Bool
 |.ju _ _=>false|_=>true
variable{v:AV}{s:Nat}{p:List AV->Bool}{g:Type}{l:List (List UInt8)}
theorem bT(h:cJ v=true)(j:bf v=true):v.ai=v:=by cases v<;>simp_all [cJ,bf,AV.ai]
@[simp]theorem G5(v:AV):cJ v.ai=true:=by cases v<;>simp[cJ,AV.ai]
def gH(s:Nat)(p:List AV->Bool)(v:AV):Bool:=cJ v&&cN s v&&(aY v).all p
theorem jJ(h:gH s p v=true):cN s v=true:=by simp_all [gH,Ee]
theorem lR(h:gH s p v=true):∀r∈aY v,p r=true:=by simp_all [gH,Ee,List.all_eq_true]
theorem kY(h:gH s p v=true):v.ai=v:=by
 have H:=kL (jJ h);simp_all [gH,Ee,bT]
theorem m9{d:List AV->g}{e:g->List AV}(h:gH s p v=true)(U:∀r,p r=true->r=e (d r)):aY v=((aY v).map d).map e:=by
 rw[List.map_map];conv=>lhs;rw[<-List.map_id (aY v)]
 grind [List.map_congr_left,lR]
def sS(n:Int):Bool:=decide (-9223372036854775808<=n)&&decide (n<=9223372036854775807)
structure T3 where
 b:Int
 r:Int
 d:Int
 deriving DecidableEq
abbrev T0:T3:=⟨0,0,0⟩
@[simp]def T3.cells(t:T3):List AV:=[.int .i64 t.b,.int .i64 t.r,.int .i64 t.d]
def G6(r:List AV):Bool:=match r with | [.int .i64 a,.int .i64 b,.int .i64 c]=>sS a&&sS b&&sS c|_=>false
def dT(r:List AV):T3:=match r with | [.int .i64 a,.int .i64 b,.int .i64 c]=>⟨a,b,c⟩|_=>T0
theorem JY(r:List AV)(h:G6 r=true):r=(dT r).cells:=by
 unfold G6 at h;split at h
 rfl
 cases h
def Ar(v:AV):Bool:=gH 3 G6 v
def dn(v:AV):List T3:=(aY v).map dT
theorem lE(h:Ar v=true):aY v=(dn v).map T3.cells:=m9 h JY
theorem oN(h:Ar v=true):v.ai=v:=kY h
@[simp]theorem abQ(v:AV):dn v.ai=dn v:=by simp[dn]
@[simp]theorem TE(h:Ar v=true):cN 3 v=true:=jJ h
@[simp]theorem pz(h:Ar v=true):bf v=true:=kL (TE h)
def VM(r:List AV):Bool:=match r with | [.str _]=>true|_=>false
def dSt(r:List AV):List UInt8:=match r with | [.str s]=>s|_=>[]
def Dc(v:AV):Bool:=gH 1 VM v
def oh(v:AV):List (List UInt8):=(aY v).map dSt
theorem abR(r:List AV)(h:VM r=true):r=[.str (dSt r)]:=by
 unfold VM at h;split at h
 rfl
 cases h
theorem abS(h:Dc v=true):aY v=(oh v).map λs=>[.str s]:=m9 h abR
theorem QJ(h:Dc v=true):v.ai=v:=kY h
@[simp]theorem rV(v:AV):oh v.ai=oh v:=by simp[oh]
@[simp]theorem VN(h:Dc v=true):cN 1 v=true:=jJ h
@[simp]theorem VO(h:Dc v=true):bf v=true:=kL (VN h)
def FO{g:Type}(p:g->Bool)(l:List g)(k:Nat):Prop:=∀j (h:j<l.length),j<k->p l[j]=false
theorem B9{p:g->Bool}{l:List g}:FO p l 0:=λ_ _ h=>au h (by omega)
theorem Ca{p:g->Bool}{l:List g}{k:Nat}(h:FO p l k)(H:k<l.length)(m:p l[k]=false):FO p l (k+1):=by
 intro j J X;rcases Nat.lt_or_ge j k with U|U;exact h j J U
 grind
def NK(l:List (List UInt8))(s:List UInt8):Int:=match l.findIdx? λx=>decide (x=s) with
 |some k=>k|none=>-1
theorem agf{s:List UInt8}{k:Nat}(h:FO (λx=>decide (x=s)) l k)(H:k<l.length)(e:l[k]=s):NK l s=k:=by
 have:l.findIdx? (λx=>decide (x=s))=some k:=by
  rw[ah9];refine⟨H,by grind,λj X=>?_⟩;have:=h j (by omega) X
  grind
 unfold NK;rw[this]
theorem XW{s:List UInt8}(h:FO (λx=>decide (x=s)) l l.length):NK l s = -1:=by
 have:l.findIdx? (λx=>decide (x=s))=none:=by
  rw[List.findIdx?_eq_none_iff];intro x H;obtain⟨j,X,rfl⟩:=List.mem_iff_getElem.1 H;exact h j X X
 unfold NK;rw[this]
theorem VP(l:List (List UInt8))(s:List UInt8):NK l s = -1\/∃k:Nat,NK l s=k/\k<l.length:=by
 unfold NK;cases e:l.findIdx? λx=>decide (x=s) with
 |none=>grind|some k=>exact .inr ⟨k,rfl,(ah9.1 e).1⟩
def dw(l:List (List UInt8))(s:List UInt8)(d:Int):T3×Bool:=
 if d<0\/3<d then (T0,false) else
 if s=[105,110,116] then (⟨1,0,d⟩,true) else
 if s=[98,111,111,108] then (⟨2,0,d⟩,true) else
 if NK l s<0 then (T0,false) else (⟨3,NK l s,d⟩,true)
def mh(t:T3):Bool:=decide (t.b=3)||decide (0<t.d)
structure PD where
 name:List UInt8
 on:List UInt8
 od:Int
 at_:Int
def PD.cells(p:PD):List AV:=[.str p.name,.str p.on,.int .i64 p.od,.int .i64 p.at_]
def VQ(r:List AV):Bool:=match r with | [.str _,.str _,.int .i64 d,.int .i64 a]=>sS d&&sS a|_=>false
def dP(r:List AV):PD:=match r with | [.str n,.str o,.int .i64 d,.int .i64 a]=>⟨n,o,d,a⟩|_=>⟨[],[],0,0⟩
theorem abT(r:List AV)(h:VQ r=true):r=(dP r).cells:=by
 unfold VQ at h;split at h
 rfl
 cases h
def HJ(v:AV):Bool:=gH 4 VQ v
def nK(v:AV):List PD:=(aY v).map dP
theorem agh(h:HJ v=true):aY v=(nK v).map PD.cells:=m9 h abT
theorem Et(h:HJ v=true):v.ai=v:=kY h
@[simp]theorem aqz(v:AV):nK v.ai=nK v:=by simp[nK]
@[simp]theorem ak5(h:HJ v=true):cN 4 v=true:=jJ h
@[simp]theorem JZ(h:HJ v=true):bf v=true:=kL (ak5 h)
structure CR where
 name:List UInt8
 cF:AV
 at_:Int
def CR.cells(r:CR):List AV:=[.str r.name,r.cF,.int .i64 r.at_]
def Mj(r:List AV):Bool:=match r with | [.str _,f,.int .i64 a]=>HJ f&&sS a|_=>false
def dCR(r:List AV):CR:=match r with | [.str s,f,.int .i64 a]=>⟨s,f,a⟩|_=>⟨[],.aF,0⟩
theorem abU(r:List AV)(h:Mj r=true):r=(dCR r).cells:=by
 unfold Mj at h;split at h
 rfl
 cases h
def J0(v:AV):Bool:=gH 3 Mj v
def eE(v:AV):List CR:=(aY v).map dCR
theorem QK(h:J0 v=true):aY v=(eE v).map CR.cells:=m9 h abU
theorem XX(h:J0 v=true):∀r∈eE v,HJ r.cF=true:=by
 intro r H;obtain⟨x,l,rfl⟩:=List.mem_map.1 H;have:=lR h x l;unfold Mj at this;unfold dCR
 grind
theorem QL(h:J0 v=true):v.ai=v:=kY h
@[simp]theorem an2(v:AV):eE v.ai=eE v:=by simp[eE]
@[simp]theorem agi(h:J0 v=true):cN 3 v=true:=jJ h
@[simp]theorem VR(h:J0 v=true):bf v=true:=kL (agi h)
structure FN where
 name:List UInt8
 params:AV
 bR:Bool
 on:List UInt8
 od:Int
 body:AV
 at_:Int
def FN.cells(f:FN):List AV:=[.str f.name,f.params,.bool f.bR,.str f.on,.int .i64 f.od,f.body,.int .i64 f.at_]
def Ml(r:List AV):Bool:=match r with | [.str _,p,.bool _,.str _,.int .i64 d,b,.int .i64 a]=>HJ p&&cJ b&&bf b&&sS d&&sS a|_=>false
def dFN(r:List AV):FN:=match r with | [.str n,p,.bool h,.str o,.int .i64 d,b,.int .i64 a]=>⟨n,p,h,o,d,b,a⟩|_=>⟨[],.aF,false,[],0,.aF,0⟩
theorem abV(r:List AV)(h:Ml r=true):r=(dFN r).cells:=by
 unfold Ml at h;split at h
 rfl
 cases h
def J1(v:AV):Bool:=gH 7 Ml v
def gT(v:AV):List FN:=(aY v).map dFN
theorem abW(h:J1 v=true):aY v=(gT v).map FN.cells:=m9 h abV
theorem XY(h:J1 v=true):∀r∈gT v,HJ r.params=true/\cJ r.body=true/\bf r.body=true:=by
 intro r H;obtain⟨x,l,rfl⟩:=List.mem_map.1 H;have:=lR h x l;unfold Ml at this;unfold dFN
 grind
theorem QM(h:J1 v=true):v.ai=v:=kY h
@[simp]theorem an3(v:AV):gT v.ai=gT v:=by simp[gT]
@[simp]theorem agj(h:J1 v=true):cN 7 v=true:=jJ h
@[simp]theorem VS(h:J1 v=true):bf v=true:=kL (agj h)
structure GD where
 aU:AV
 az:AV
 funcs:AV
def GD.cells(p:GD):List AV:=[p.aU,p.az,p.funcs]
structure GD.ok (p:GD):Prop where
 aU:J0 p.aU=true
 az:HJ p.az=true
 funcs:J1 p.funcs=true
def rW(l:List CR):List (List UInt8):=l.map (·.name)
def NN(rs:List (List UInt8))(p:PD):List AV:=.str p.name::(dw rs p.on p.od).1.cells
def gQ(rs:List (List UInt8))(l:List PD):List (List AV):=l.map (NN rs)
def TF(a b:Option Int):Option Int:=match a with|some x=>some x|none=>b
def yE(rs:List (List UInt8))(I:List PD)(p:PD):Option Int:=if I.any (λq=>decide (q.name=p.name)) || !(dw rs p.on p.od).2 then some p.at_ else none
def eL{g:Type}(iy:List g->g->Option Int)(l:List g):Nat->Option Int
 |0=>none|k+1=>TF (eL iy l k) (match l[k]? with|some x=>iy (l.take k) x|none=>none)
def Dd(a:Option Int):List AV:=match a with|some x=>[.int .i64 3,.int .i64 x]|none=>[.int .i64 0,.int .i64 0]
end V7
namespace iQ
open Ax Go V7
structure Tk where
 k:Int
 t:List UInt8
 n:Int
 a:Int
def Tk.cells(x:Tk):List AV:=[.int .i64 x.k,.str x.t,.int .i64 x.n,.int .i64 x.a]
abbrev Tk0:Tk:=⟨0,[],0,0⟩
structure TL (l:AV)(T:List Tk):Prop where
 sz:cN 4 l=true
 rows:aY l=T.map Tk.cells
 len:T.length<1000000000
theorem TL.sl{l:AV}{T:List Tk}(h:TL l T):bf l=true:=kL h.sz
structure RQ where
 at_:Nat
 op:Int
 fe:Int
 fa:Int
def RQ.bO(l:AV)(q:RQ):dJ:=.rows 0 5 [[l,.int .i64 q.at_,.int .i64 q.op,.int .i64 q.fe,.int .i64 q.fa]]
def gD(T:List Tk)(q:RQ):Tk:=T.getD q.at_ Tk0
def kO(T:List Tk)(q:RQ)(e:Int):RQ:=if q.fe=0 then ⟨q.at_,q.op,e,(gD T q).a⟩ else q
def DI(s:List UInt8):Int:=match s with|c::_=>if 97<=c.toNat/\c.toNat<=122 then 3 else 4 | []=>4
def jF(T:List Tk)(q:RQ)(s:List UInt8):Bool:=decide (q.fe=0)&&decide ((gD T q).k=DI s)&&decide ((gD T q).t=s)
def cx(q:RQ):RQ:=⟨q.at_+1,q.op,q.fe,q.fa⟩
def eF(T:List Tk)(q:RQ)(s:List UInt8):RQ:=if jF T q s then cx q else kO T q 2
def Bc(q:RQ)(d:Int):RQ:=⟨q.at_,IntKind.i64.wrap (q.op+d),q.fe,q.fa⟩
def lS(T:List Tk)(q:RQ)(s:List UInt8):RQ:=if jF T q s&&decide (50<=q.op) then kO T q 4 else Bc (eF T q s) 1
def qV(T:List Tk)(q:RQ)(s:List UInt8):RQ:=Bc (eF T q s) (-1)
def ff(T:List Tk)(q:RQ):List UInt8×RQ:=if q.fe=0/\(gD T q).k=1 then ((gD T q).t,cx q) else ([],kO T q 2)
def zx(T:List Tk)(q:RQ)(s:List UInt8):Nat->RQ
 |0=>q|k+1=>eF T (zx T q s k) s
def QN(T:List Tk):Nat->Nat->RQ->Nat×RQ
 |0,d,q=>(d,q)
 |k+1,d,q=>if jF T q [91] then QN T k (d+1) (cx q) else (d,q)
def ofN(T:List Tk)(q:RQ):List UInt8×RQ:=if jF T q [105,110,116]||jF T q [98,111,111,108] then ((gD T q).t,cx q) else ff T q
def De(T:List Tk)(q:RQ):(List UInt8×Int)×RQ:=
 if jF T (QN T 3 0 q).2 [91] then (([],0),kO T (QN T 3 0 q).2 4)
 else (((ofN T (QN T 3 0 q).2).1,((QN T 3 0 q).1:Int)),zx T (ofN T (QN T 3 0 q).2).2 [93] (QN T 3 0 q).1)
def aM(sz:Nat)(rows:List (List AV)):AV:=(cq sz rows).ai
inductive E where
 |mk (k n:Int) (nm on:List UInt8) (od:Int) (aN:List E) (a:Int) (ty:T3) (ref:Int)
def E.k:E->Int|.mk k _ _ _ _ _ _ _ _=>k
def E.n:E->Int|.mk _ n _ _ _ _ _ _ _=>n
def E.nm:E->List UInt8|.mk _ _ nm _ _ _ _ _ _=>nm
def E.on:E->List UInt8|.mk _ _ _ on _ _ _ _ _=>on
def E.od:E->Int|.mk _ _ _ _ od _ _ _ _=>od
def E.aN:E->List E|.mk _ _ _ _ _ aN _ _ _=>aN
def E.a:E->Int|.mk _ _ _ _ _ _ a _ _=>a
def E.ty:E->T3|.mk _ _ _ _ _ _ _ ty _=>ty
def E.ref:E->Int|.mk _ _ _ _ _ _ _ _ ref=>ref
mutual
def E.aI:E->List AV
 |.mk k n nm on od aN a ty ref=>[.int .i64 k,.int .i64 n,.str nm,.str on,.int .i64 od,aM 11 (E.rows aN),.int .i64 a,.int .i64 ty.b,.int .i64 ty.r,.int .i64 ty.d,.int .i64 ref]
def E.rows:List E->List (List AV)
 |[]=>[]
 |e::l=>e.aI::E.rows l
end
def Em(k n:Int)(N O:List UInt8)(o:Int)(g:List E)(a:Int):E:=.mk k n N O o g a T0 0
def bG(l:List E):AV:=aM 11 (E.rows l)
inductive Sm where
 |mk (k:Int) (nm on:List UInt8) (od:Int) (es:List E) (bd el:List Sm) (a ref:Int)
def Sm.k:Sm->Int|.mk k _ _ _ _ _ _ _ _=>k
def Sm.nm:Sm->List UInt8|.mk _ nm _ _ _ _ _ _ _=>nm
def Sm.on:Sm->List UInt8|.mk _ _ on _ _ _ _ _ _=>on
def Sm.od:Sm->Int|.mk _ _ _ od _ _ _ _ _=>od
def Sm.es:Sm->List E|.mk _ _ _ _ es _ _ _ _=>es
def Sm.bd:Sm->List Sm|.mk _ _ _ _ _ bd _ _ _=>bd
def Sm.el:Sm->List Sm|.mk _ _ _ _ _ _ el _ _=>el
def Sm.a:Sm->Int|.mk _ _ _ _ _ _ _ a _=>a
def Sm.ref:Sm->Int|.mk _ _ _ _ _ _ _ _ ref=>ref
mutual
def Sm.aI:Sm->List AV
 |.mk k nm on od es bd el a ref=>[.int .i64 k,.str nm,.str on,.int .i64 od,bG es,aM 9 (Sm.rows bd),aM 9 (Sm.rows el),.int .i64 a,.int .i64 ref]
def Sm.rows:List Sm->List (List AV)
 |[]=>[]
 |s::l=>s.aI::Sm.rows l
end
def bZ(l:List Sm):AV:=aM 9 (Sm.rows l)
structure Rc where
 name:List UInt8
 cF:List PD
 a:Int
def Rc.aI(r:Rc):List AV:=[.str r.name,aM 4 (r.cF.map PD.cells),.int .i64 r.a]
structure Fc where
 name:List UInt8
 params:List PD
 bR:Bool
 on:List UInt8
 od:Int
 body:List Sm
 a:Int
def Fc.aI(f:Fc):List AV:=[.str f.name,aM 4 (f.params.map PD.cells),.bool f.bR,.str f.on,.int .i64 f.od,bZ f.body,.int .i64 f.a]
structure Pg where
 aU:List Rc
 az:List PD
 funcs:List Fc
def Pg.aI(p:Pg):List AV:=[aM 3 (p.aU.map Rc.aI),aM 4 (p.az.map PD.cells),aM 7 (p.funcs.map Fc.aI)]
variable{l:List Sm}{sz s:Nat}{r:List (List AV)}
@[simp]theorem bL:bf (aM sz r)=true:=by simp[aM]
@[simp]theorem bn:aY (aM sz r)=r:=by simp[aM]
@[simp]theorem bU:(aM sz r).ai=aM sz r:=by
 unfold aM cq;split<;>simp[AV.ai]
@[simp]theorem vu:(aM s r).cM=true:=jI bL
@[simp]theorem FQ:(aM s r).aH=true:=eC bL
@[simp]theorem ck{l:List E}:bf (bG l)=true:=bL
@[simp]theorem bY{l:List E}:(bG l).ai=bG l:=bU
@[simp]theorem aqB{l:List E}:(bG l).cM=true:=vu
@[simp]theorem aqC{l:List E}:(bG l).aH=true:=FQ
@[simp]theorem cQ:bf (bZ l)=true:=bL
@[simp]theorem bQ:(bZ l).ai=bZ l:=bU
@[simp]theorem aqD:(bZ l).cM=true:=vu
@[simp]theorem aqE:(bZ l).aH=true:=FQ
@[simp]theorem aqF:aM s []=.aF:=rfl
@[simp]theorem XZ{r:List AV}{l:List (List AV)}:aM s (r::l)=.dV s (r::l):=rfl
theorem jq:∀l:List E,E.rows l=l.map E.aI
 |[]=>by simp[E.rows]|e::l=>by simp[E.rows,jq l]
theorem jQ:∀l:List Sm,Sm.rows l=l.map Sm.aI
 |[]=>by simp[Sm.rows]|e::l=>by simp[Sm.rows,jQ l]
theorem uT:bG []=.aF:=by simp[bG,E.rows,aM,sQ,AV.ai]
theorem E.aQ(e:E):e.aI=[.int .i64 e.k,.int .i64 e.n,.str e.nm,.str e.on,.int .i64 e.od,bG e.aN,.int .i64 e.a,.int .i64 e.ty.b,.int .i64 e.ty.r,.int .i64 e.ty.d,.int .i64 e.ref]:=by
 cases e;simp[E.aI,E.k,E.n,E.nm,E.on,E.od,E.aN,E.a,E.ty,E.ref,bG]
theorem Sm.aQ(s:Sm):s.aI=[.int .i64 s.k,.str s.nm,.str s.on,.int .i64 s.od,bG s.es,bZ s.bd,bZ s.el,.int .i64 s.a,.int .i64 s.ref]:=by
 cases s;simp[Sm.aI,Sm.k,Sm.nm,Sm.on,Sm.od,Sm.es,Sm.bd,Sm.el,Sm.a,Sm.ref,bZ]
def fK:Nat->List (List UInt8×Int)
 |0=>[([124,124],24)]
 |1=>[([38,38],23)]
 |2=>[([60],19),([60,61],20),([61,61],21),([33,61],22)]
 |3=>[([43],14),([45],15)]
 |_=>[([42],16),([47],17),([37],18)]
def iR:List (List UInt8×Int)->List UInt8->Int
 |[],_=>0|(s,k)::r,t=>if s=t then k else iR r t
def zy(n:Nat)(c:Tk):Int:=if c.k=4 then iR (fK n) c.t else 0
mutual
def kP(T:List Tk):Nat->Nat->RQ->Option (E×RQ)
 |0,_,_=>none|f+1,n,q=>if n=5 then ua T f q else (kP T f (n+1) q).bind λx=>rX T f n x.1 x.2
def rX(T:List Tk):Nat->Nat->E->RQ->Option (E×RQ)
 |0,_,_,_=>none|f+1,n,a,q=>if q.fe=0/\zy n (gD T q)≠0 then
   (kP T f (n+1) (cx q)).bind λx=>rX T f n (Em (zy n (gD T q)) 0 [] [] 0 [a,x.1] (gD T q).a) x.2
  else some (a,q)
def ua(T:List Tk):Nat->RQ->Option (E×RQ)
 |0,_=>none|f+1,q=>if jF T q [45]||jF T q [33] then
   (kP T f 5 (lS T q (gD T q).t)).bind λx=>some (Em (if jF T q [45] then 12 else 13) 0 [] [] 0 [x.1] (gD T q).a,Bc x.2 (-1))
  else (uc T f q).bind λx=>mP T f x.1 x.2
def mP(T:List Tk):Nat->E->RQ->Option (E×RQ)
 |0,_,_=>none|f+1,a,q=>if jF T q [46] then mP T f (Em 5 0 (ff T (cx q)).1 [] 0 [a] (gD T q).a) (ff T (cx q)).2
  else if jF T q [91] then (kP T f 0 (lS T q [91])).bind λx=>mP T f (Em 6 0 [] [] 0 [a,x.1] (gD T q).a) (qV T x.2 [93])
  else some (a,q)
def qW(T:List Tk):Nat->RQ->Option (E×RQ)
 |0,_=>none|f+1,q=>(kP T f 0 (lS T q [40])).bind λx=>some (x.1,qV T x.2 [41])
def uc(T:List Tk):Nat->RQ->Option (E×RQ)
 |0,_=>none|f+1,q=>
  if q.fe=0/\(gD T q).k=2 then some (Em 1 (gD T q).n [] [] 0 [] (gD T q).a,cx q)
  else if jF T q [116,114,117,101]||jF T q [102,97,108,115,101] then some (Em 2 (if (gD T q).t=[116,114,117,101] then 1 else 0) [] [] 0 [] (gD T q).a,cx q)
  else if jF T q [110,117,108,108] then some (Em 3 0 [] (De T (cx q)).1.1 (De T (cx q)).1.2 [] (gD T q).a,(De T (cx q)).2)
  else if jF T q [110,101,119] then ud T f (gD T q).a (cx q)
  else if jF T q [108,101,110] then (qW T f (cx q)).bind λx=>some (Em 10 0 [] [] 0 [x.1] (gD T q).a,x.2)
  else if jF T q [114,101,97,100] then some (Em 11 0 [] [] 0 [] (gD T q).a,qV T (lS T (cx q) [40]) [41])
  else if jF T q [40] then qW T f q
  else if jF T (ff T q).2 [40] then (Af T f (ff T q).2).bind λx=>some (Em 7 0 (ff T q).1 [] 0 x.1 (gD T q).a,x.2)
  else some (Em 4 0 (ff T q).1 [] 0 [] (gD T q).a,(ff T q).2)
def ud(T:List Tk):Nat->Int->RQ->Option (E×RQ)
 |0,_,_=>none|f+1,a,q=>if jF T q [91] then
   (qW T f (eF T (De T (cx q)).2 [93])).bind λx=>some (Em 9 0 [] (De T (cx q)).1.1 (De T (cx q)).1.2 [x.1] a,x.2)
  else some (Em 8 0 [] (ff T q).1 0 [] a,(ff T q).2)
def Af(T:List Tk):Nat->RQ->Option (List E×RQ)
 |0,_=>none|f+1,q=>if jF T (lS T q [40]) [41] then some ([],qV T (lS T q [40]) [41])
  else (kP T f 0 (lS T q [40])).bind λx=>yF T f [x.1] x.2
def yF(T:List Tk):Nat->List E->RQ->Option (List E×RQ)
 |0,_,_=>none|f+1,l,q=>if jF T q [44] then (kP T f 0 (cx q)).bind λx=>yF T f (l++[x.1]) x.2
  else some (l,qV T q [41])
end
def xW(T:List Tk)(f:Nat)(a:Int)(q:RQ):Option (Sm×RQ):=
 (kP T f 0 q).bind λx=>if jF T x.2 [61] then
   (kP T f 0 (eF T (if x.1.k=4\/x.1.k=5\/x.1.k=6 then x.2 else kO T x.2 2) [61])).bind λy=>
    some (if x.1.k=4 then .mk 3 x.1.nm [] 0 [y.1] [] [] a 0 else .mk 4 [] [] 0 [x.1,y.1] [] [] a 0,eF T y.2 [59])
  else some (.mk 9 [] [] 0 [x.1] [] [] a 0,eF T (if jF T x.2 [59]=true/\x.1.k≠7 then kO T x.2 2 else x.2) [59])
def fh(T:List Tk)(q:RQ):PD×RQ:=
 (⟨(ff T q).1,(De T (eF T (ff T q).2 [58])).1.1,(De T (eF T (ff T q).2 [58])).1.2,(gD T q).a⟩,(De T (eF T (ff T q).2 [58])).2)
mutual
def Ag(T:List Tk):Nat->RQ->Option (Sm×RQ)
 |0,_=>none|f+1,q=>
  if jF T q [118,97,114] then
   some (.mk 1 (fh T (cx q)).1.name (fh T (cx q)).1.on (fh T (cx q)).1.od [] [] [] (gD T q).a 0,eF T (fh T (cx q)).2 [59])
  else if jF T q [108,101,116] then (kP T f 0 (eF T (fh T (cx q)).2 [61])).bind λx=>
   some (.mk 2 (fh T (cx q)).1.name (fh T (cx q)).1.on (fh T (cx q)).1.od [x.1] [] [] (gD T q).a 0,eF T x.2 [59])
  else if jF T q [105,102] then (kP T f 0 (cx q)).bind λx=>(mj T f x.2).bind λy=>
   if jF T y.2 [101,108,115,101] then (mj T f (cx y.2)).bind λz=>some (.mk 5 [] [] 0 [x.1] y.1 z.1 (gD T q).a 0,z.2)
   else some (.mk 5 [] [] 0 [x.1] y.1 [] (gD T q).a 0,y.2)
  else if jF T q [119,104,105,108,101] then (kP T f 0 (cx q)).bind λx=>(mj T f x.2).bind λy=>
   some (.mk 6 [] [] 0 [x.1] y.1 [] (gD T q).a 0,y.2)
  else if jF T q [114,101,116,117,114,110] then
   if jF T (cx q) [59] then some (.mk 7 [] [] 0 [] [] [] (gD T q).a 0,eF T (cx q) [59])
   else (kP T f 0 (cx q)).bind λx=>some (.mk 7 [] [] 0 [x.1] [] [] (gD T q).a 0,eF T x.2 [59])
  else if jF T q [112,114,105,110,116] then (kP T f 0 (cx q)).bind λx=>some (.mk 8 [] [] 0 [x.1] [] [] (gD T q).a 0,eF T x.2 [59])
  else xW T f (gD T q).a q
def mj(T:List Tk):Nat->RQ->Option (List Sm×RQ)
 |0,_=>none|f+1,q=>rY T f [] (lS T q [123])
def rY(T:List Tk):Nat->List Sm->RQ->Option (List Sm×RQ)
 |0,_,_=>none|f+1,l,q=>if q.fe=0/\jF T q [125]=false then (Ag T f q).bind λx=>rY T f (l++[x.1]) x.2
  else some (l,qV T q [125])
end
def oO(T:List Tk):Nat->List PD->RQ->Option (List PD×RQ)
 |0,_,_=>none|f+1,l,q=>if q.fe=0/\jF T q [125]=false then
   if (gD T q).k=1/\l.length=8 then some (l,kO T q 4)
   else oO T f (l++[(fh T q).1]) (eF T (fh T q).2 [59])
  else some (l,q)
def uU(T:List Tk)(f:Nat)(q:RQ):Option (Rc×RQ):=
 (oO T f [] (eF T (ff T q).2 [123])).bind λx=>some (⟨(ff T q).1,x.1,(gD T q).a⟩,eF T x.2 [125])
def J2(T:List Tk)(q:RQ):RQ:=if jF T q [41] then q else if jF T (eF T q [44]) [41] then kO T (eF T q [44]) 2 else eF T q [44]
def oP(T:List Tk):Nat->List PD->RQ->Option (List PD×RQ)
 |0,_,_=>none|f+1,l,q=>if q.fe=0/\jF T q [41]=false then
   if (gD T q).k=1/\l.length=6 then some (l,kO T q 4)
   else oP T f (l++[(fh T q).1]) (J2 T (fh T q).2)
  else some (l,q)
def Be(T:List Tk)(f:Nat)(q:RQ):Option (Fc×RQ):=
 (oP T f [] (eF T (ff T q).2 [40])).bind λx=>
  if jF T (eF T x.2 [41]) [58] then
   (mj T f (De T (cx (eF T x.2 [41]))).2).bind λy=>some (⟨(ff T q).1,x.1,true,(De T (cx (eF T x.2 [41]))).1.1,(De T (cx (eF T x.2 [41]))).1.2,y.1,(gD T q).a⟩,y.2)
  else (mj T f (eF T x.2 [41])).bind λy=>some (⟨(ff T q).1,x.1,false,[],0,y.1,(gD T q).a⟩,y.2)
def ak6:List UInt8:=[114,101,99,111,114,100]
def abX:List UInt8:=[103,108,111,98,97,108]
def abY:List UInt8:=[102,117,110,99]
def tD(T:List Tk):Nat->Pg->RQ->Option (Pg×RQ)
 |0,_,_=>none|f+1,p,q=>if q.fe=0/\(gD T q).k≠0 then
   if jF T q ak6=true/\p.aU.length=12\/jF T q abX=true/\p.az.length=8\/jF T q abY=true/\p.funcs.length=16 then tD T f p (kO T q 4)
   else if jF T q ak6 then (uU T f (cx q)).bind λx=>tD T f ⟨p.aU++[x.1],p.az,p.funcs⟩ x.2
   else if jF T q abX then tD T f ⟨p.aU,p.az++[(fh T (cx q)).1],p.funcs⟩ (eF T (fh T (cx q)).2 [59])
   else if jF T q abY then (Be T f (cx q)).bind λx=>tD T f ⟨p.aU,p.az,p.funcs++[x.1]⟩ x.2
   else tD T f p (kO T q 2)
  else some (p,q)
def Ik:Pg:=⟨[],[],[]⟩
def zA(T:List Tk)(f:Nat):Option (Pg×Int×Int):=
 (tD T f Ik ⟨0,0,0,0⟩).bind λx=>some (if x.2.fe=0 then (x.1,0,0) else (Ik,x.2.fe,x.2.fa))
end iQ
namespace iQ
open Ax Go V7
structure hJ (T:List Tk)(q r:RQ):Prop where
 le:q.at_<=r.at_
 ub:q.at_<=T.length->r.at_<=T.length
 iy:q.fe≠0->r.fe=q.fe/\r.at_=q.at_
theorem hJ.refl(T:List Tk)(q:RQ):hJ T q q:=⟨acO _,id,λ_=>⟨rfl,rfl⟩⟩
theorem hJ.trans{T:List Tk}{q r s:RQ}(h:hJ T q r)(k:hJ T r s):hJ T q s:=
 ⟨Nat.le_trans h.le k.le,λu=>k.ub (h.ub u),λb=>by
  obtain⟨j,S⟩:=h.iy b;obtain⟨b1,B⟩:=k.iy (by rw[j];exact b);exact⟨b1.trans j,B.trans S⟩⟩
variable{T:List Tk}{q r:RQ}{s:List UInt8}{f:Nat}
theorem hJ.G7(h:hJ T q r)(f:r.fe=0):q.fe=0:=by
 apply Classical.byContradiction;intro g;have:=(h.iy g).1;rw[f]at this;exact g this.symm
theorem zB(h:(gD T q).k≠0):q.at_<T.length:=by
 apply Classical.byContradiction;intro g;rw[gD,List.getD,aeQ (by omega)]at h;exact h rfl
theorem X5(s:List UInt8):DI s≠0:=by
 unfold DI;split;split<;>decide
 decide
theorem cg(h:jF T q s=true):q.fe=0/\q.at_<T.length:=by
 simp only[jF,Ee,aA]at h;exact⟨h.1.1,zB (by rw[h.1.2];exact X5 s)⟩
theorem QO(h:jF T q s=true):(gD T q).t=s:=by
 simp only[jF,Ee,aA]at h;exact h.2
theorem agk(h:q.fe≠0):jF T q s=false:=by simp[jF,h]
theorem Eu{n:Nat}(h:zy n (gD T q)≠0):q.at_<T.length:=zB (by
 unfold zy at h;split at h;rename_i e;rw[e];decide;exact au rfl h)
theorem dx(h:q.fe=0)(H:q.at_<T.length):hJ T q (cx q):=⟨Nat.le_succ _,λ_=>H,λb=>au h b⟩
theorem kZ{e:Int}:hJ T q (kO T q e):=by
 unfold kO;split;rename_i h;exact⟨acO _,id,λb=>au h b⟩;exact hJ.refl T q
theorem FU{d:Int}:hJ T q (Bc q d):=⟨acO _,id,λ_=>⟨rfl,rfl⟩⟩
theorem bX:hJ T q (eF T q s):=by
 unfold eF;split;rename_i h;exact dx (cg h).1 (cg h).2;exact kZ
theorem gJ:hJ T q (lS T q s):=by
 unfold lS;split;exact kZ;exact bX.trans FU
theorem gb:hJ T q (qV T q s):=bX.trans FU
theorem jK:hJ T q (ff T q).2:=by
 unfold ff;split;rename_i h;exact dx h.1 (zB (by rw[h.2];decide));exact kZ
theorem J3{T:List Tk}{q:RQ}{s:List UInt8}:∀k,hJ T q (zx T q s k)
 |0=>hJ.refl T q|k+1=>(J3 k).trans bX
theorem J4{T:List Tk}:∀(k d:Nat)(q:RQ),hJ T q (QN T k d q).2/\(QN T k d q).1<=d+k/\d<=(QN T k d q).1
 |0,d,q=>⟨hJ.refl T q,acO _,acO _⟩
 |k+1,d,q=>by
  unfold QN;split;rename_i h;obtain⟨H,g,j⟩:=J4 (T:=T) k (d+1) (cx q);exact⟨(dx (cg h).1 (cg h).2).trans H,by omega,by omega⟩;exact⟨hJ.refl T q,by simp,acO _⟩
theorem abZ:hJ T q (ofN T q).2:=by
 unfold ofN;split;rename_i h;rw[aet]at h;rcases h with h|h<;>exact dx (cg h).1 (cg h).2;exact jK
theorem qX:hJ T q (De T q).2:=by
 unfold De;have h:=(J4 (T:=T) 3 0 q).1;split;exact h.trans kZ;exact(h.trans abZ).trans (J3 _)
theorem TH:0<=(De T q).1.2/\(De T q).1.2<=3:=by
 have h:=(J4 (T:=T) 3 0 q).2.1;unfold De;split;exact⟨ani _,by show (0:Int)<=3;decide⟩;refine⟨Int.natCast_nonneg _,?_⟩;simp only;omega
theorem kH:hJ T q (fh T q).2:=(jK.trans bX).trans qX
def mu(T:List Tk)(q:RQ):Nat:=if q.fe=0 then T.length-q.at_+1 else 0
theorem om(h:hJ T q r):mu T r<=mu T q:=by
 unfold mu;by_cases f:q.fe=0;rw[af f];split;have:=h.le;omega;omega;obtain⟨j,_⟩:=h.iy f;rw[j,U f,U f];exact acO _
def zC(T:List Tk)(q r:RQ):Prop:=r.fe≠0\/q.at_<T.length/\q.at_<r.at_
theorem J5(f:q.fe=0)(w:zC T q r):mu T r<mu T q:=by
 unfold mu;rw[af f];rcases w with w|⟨w,v⟩;rw[U w];omega;split<;>omega
theorem qY(h:hJ T q r)(w:zC T q r):mu T r<=mu T q-1:=by
 by_cases f:q.fe=0;have:=J5 f w;omega;have H:mu T q=0:=by unfold mu;rw[U f]
 have:=om h;omega
theorem wj(f:q.fe=0):0<mu T q:=by unfold mu;rw[af f];omega
theorem nh{e:Int}(U:e≠0):(kO T q e).fe≠0:=by
 unfold kO;split;exact U
 assumption
theorem oQ(h:q.at_<T.length):zC T q (cx q):=.inr ⟨h,Nat.lt_succ_self _⟩
theorem mm:zC T q (eF T q s):=by
 unfold eF;split;rename_i h;exact oQ (cg h).2;exact .inl (nh (by decide))
theorem mQ:zC T q (lS T q s):=by
 unfold lS;split;exact .inl (nh (by decide));exact mm
theorem rZ:zC T q (ff T q).2:=by
 unfold ff;split;rename_i h;exact oQ (zB (by rw[h.2];decide));exact .inl (nh (by decide))
theorem zC.trans{s:RQ}(w:zC T q r)(h:hJ T r s):zC T q s:=by
 rcases w with w|⟨w,v⟩;exact .inl (by rw[(h.iy w).1];exact w);exact .inr ⟨w,Nat.lt_of_lt_of_le v h.le⟩
theorem hJ.NO{s:RQ}(h:hJ T q r)(w:zC T r s):zC T q s:=by
 rcases w with w|⟨w,v⟩;exact .inl w;exact .inr ⟨aou h.le w,aou h.le v⟩
theorem zD:zC T q (fh T q).2:=(rZ.trans bX).trans qX
theorem Ev(T:List Tk):∀f:Nat,(∀n q e r,kP T f n q=some (e,r)->hJ T q r)/\(∀n a q e r,rX T f n a q=some (e,r)->hJ T q r)/\
  (∀q e r,ua T f q=some (e,r)->hJ T q r)/\(∀a q e r,mP T f a q=some (e,r)->hJ T q r)/\(∀q e r,qW T f q=some (e,r)->hJ T q r)/\
  (∀q e r,uc T f q=some (e,r)->hJ T q r)/\(∀a q e r,ud T f a q=some (e,r)->hJ T q r)/\(∀q e r,Af T f q=some (e,r)->hJ T q r)/\
  (∀l q e r,yF T f l q=some (e,r)->hJ T q r)
 |0=>by simp[kP,rX,ua,mP,qW,uc,ud,Af,yF]|f+1=>by
  obtain⟨j,p,v,k,m,s,t,L,o⟩:=Ev T f;refine⟨λn q e r h=>?_,λn a q e r h=>?_,λq e r h=>?_,λa q e r h=>?_,λq e r h=>?_,λq e r h=>?_,λa q e r h=>?_,λq e r h=>?_,λl q e r h=>?_⟩;unfold kP at h;split at h;exact v _ _ _ h;obtain⟨⟨x,X⟩,H,g⟩:=ack.1 h;exact(j _ _ _ _ H).trans (p _ _ _ _ _ g);unfold rX at h;split at h;rename_i c;obtain⟨⟨x,X⟩,H,g⟩:=ack.1 h;exact((dx c.1 (Eu c.2)).trans (j _ _ _ _ H)).trans (p _ _ _ _ _ g);cases h;exact hJ.refl _ _;unfold ua at h;split at h;obtain⟨⟨x,X⟩,H,g⟩:=ack.1 h;cases g;exact(gJ.trans (j _ _ _ _ H)).trans FU;obtain⟨⟨x,X⟩,H,g⟩:=ack.1 h;exact(s _ _ _ H).trans (k _ _ _ _ g);unfold mP at h;split at h;rename_i c;exact((dx (cg c).1 (cg c).2).trans jK).trans (k _ _ _ _ h);split at h;obtain⟨⟨x,X⟩,H,g⟩:=ack.1 h;exact((gJ.trans (j _ _ _ _ H)).trans gb).trans (k _ _ _ _ g);cases h;exact hJ.refl _ _;unfold qW at h;obtain⟨⟨x,X⟩,H,g⟩:=ack.1 h;cases g;exact(gJ.trans (j _ _ _ _ H)).trans gb;unfold uc at h;split at h;rename_i c;cases h;exact dx c.1 (zB (by rw[c.2];decide));split at h;rename_i c;cases h;rw[aet]at c;rcases c with c|c<;>exact dx (cg c).1 (cg c).2;split at h;rename_i c;cases h;exact(dx (cg c).1 (cg c).2).trans qX;split at h;rename_i c;exact(dx (cg c).1 (cg c).2).trans (t _ _ _ _ h);split at h;rename_i c;obtain⟨⟨x,X⟩,H,g⟩:=ack.1 h;cases g;exact(dx (cg c).1 (cg c).2).trans (m _ _ _ H);split at h;rename_i c;cases h;exact((dx (cg c).1 (cg c).2).trans gJ).trans gb;split at h;exact m _ _ _ h;split at h;obtain⟨⟨x,X⟩,H,g⟩:=ack.1 h;cases g;exact jK.trans (L _ _ _ H);cases h;exact jK;unfold ud at h;split at h;rename_i c;obtain⟨⟨x,X⟩,H,g⟩:=ack.1 h;cases g;exact(((dx (cg c).1 (cg c).2).trans qX).trans bX).trans (m _ _ _ H);cases h;exact jK;unfold Af at h;split at h;cases h;exact gJ.trans gb;obtain⟨⟨x,X⟩,H,g⟩:=ack.1 h;exact(gJ.trans (j _ _ _ _ H)).trans (o _ _ _ _ g);unfold yF at h;split at h;rename_i c;obtain⟨⟨x,X⟩,H,g⟩:=ack.1 h;exact((dx (cg c).1 (cg c).2).trans (j _ _ _ _ H)).trans (o _ _ _ _ g);cases h;exact gb
theorem ku{n:Nat}{e:E}(h:kP T f n q=some (e,r)):hJ T q r:=(Ev T f).1 _ _ _ _ h
theorem bind_some{h m:Type}{x:Option h}{g:h->Option m}(j:∃a,x=some a)(k:∀a,x=some a->∃b,g a=some b):∃b,x.bind g=some b:=by
 obtain⟨a,H⟩:=j;obtain⟨b,l⟩:=k a H;exact⟨b,by rw[H];exact l⟩
theorem QS(T:List Tk):∀f:Nat,(∀n q,n<=5->40*mu T q+12<=f+n->∃x,kP T f n q=some x)/\(∀n a q,n<5->40*mu T q+1<=f->∃x,rX T f n a q=some x)/\
  (∀q,40*mu T q+6<=f->∃x,ua T f q=some x)/\(∀a q,40*mu T q+1<=f->∃x,mP T f a q=some x)/\(∀q,40*(mu T q-1)+13<=f->∃x,qW T f q=some x)/\
  (∀q,40*mu T q+5<=f->∃x,uc T f q=some x)/\(∀a q,40*mu T q+15<=f->∃x,ud T f a q=some x)/\(∀q,40*(mu T q-1)+13<=f->∃x,Af T f q=some x)/\
  (∀l q,40*mu T q+1<=f->∃x,yF T f l q=some x)
 |0=>by
  refine⟨λn q o p=>?_,λn a q o p=>?_,λq h=>?_,λa q h=>?_,λq h=>?_,λq h=>?_,λa q h=>?_,λq h=>?_,λl q h=>?_⟩<;>omega
 |f+1=>by
  obtain⟨H,y,D,r,v,z,B,L,w⟩:=QS T f;obtain⟨g,K,M,gB,F,G,J,E,I⟩:=Ev T f;refine⟨λn q o p=>?_,λn a q o p=>?_,λq h=>?_,λa q h=>?_,λq h=>?_,λq h=>?_,λa q h=>?_,λq h=>?_,λl q h=>?_⟩;unfold kP;split;exact D _ (by omega);refine bind_some (H _ _ (by omega) (by omega)) λ⟨X,k⟩ j=>?_;try dsimp only
  have:=om (g _ _ _ _ j);exact y _ _ _ (by omega) (by omega);unfold rX;split;rename_i c;have m:=qY (dx c.1 (Eu c.2)) (oQ (Eu c.2));have m0:=wj (T:=T) c.1;refine bind_some (H _ _ (by omega) (by omega)) λ⟨X,k⟩ j=>?_;try dsimp only
  have:=om (g _ _ _ _ j);exact y _ _ _ (by omega) (by omega);exact⟨_,rfl⟩;unfold ua;split;rename_i c;rw[aet]at c;have C:q.fe=0:=by rcases c with c|c<;>exact(cg c).1
  have m:=qY (T:=T) (q:=q) (gJ (s:=(gD T q).t)) mQ;have m0:=wj (T:=T) C;exact bind_some (H _ _ (by omega) (by omega)) λx _=>⟨_,rfl⟩;refine bind_some (z _ (by omega)) λ⟨X,k⟩ j=>?_;try dsimp only
  have:=om (G _ _ _ j);exact r _ _ (by omega);unfold mP;split;rename_i c;have m:=qY ((dx (cg c).1 (cg c).2).trans jK) ((oQ (cg c).2).trans jK);have m0:=wj (T:=T) (cg c).1;exact r _ _ (by omega);split;rename_i c;have m0:=wj (T:=T) (cg c).1;have m:=qY (T:=T) (q:=q) (gJ (s:=[91])) mQ;refine bind_some (H _ _ (by omega) (by omega)) λ⟨X,k⟩ j=>?_;try dsimp only
  have N:=om ((g _ _ _ _ j).trans (gb (s:=[93])));exact r _ _ (by omega);exact⟨_,rfl⟩;unfold qW;have m:=qY (T:=T) (q:=q) (gJ (s:=[40])) mQ;exact bind_some (H _ _ (by omega) (by omega)) λx _=>⟨_,rfl⟩;unfold uc;split;exact⟨_,rfl⟩;split;exact⟨_,rfl⟩;split;exact⟨_,rfl⟩;split;rename_i c;have m:=qY (dx (cg c).1 (cg c).2) (oQ (cg c).2);have m0:=wj (T:=T) (cg c).1;exact B _ _ (by omega);split;rename_i c;have m:=qY (dx (cg c).1 (cg c).2) (oQ (cg c).2);have m0:=wj (T:=T) (cg c).1;exact bind_some (v _ (by omega)) λx _=>⟨_,rfl⟩;split;exact⟨_,rfl⟩;split;rename_i c;have m0:=wj (T:=T) (cg c).1;exact v _ (by omega);split;rename_i c;have m0:=wj (T:=T) (cg c).1;have m:=om (T:=T) (q:=q) jK;exact bind_some (L _ (by omega)) λx _=>⟨_,rfl⟩;exact⟨_,rfl⟩;unfold ud;split;rename_i c;have m:=om (((dx (cg c).1 (cg c).2).trans qX).trans (bX (s:=[93])));exact bind_some (v _ (by omega)) λx _=>⟨_,rfl⟩;exact⟨_,rfl⟩;unfold Af;split;exact⟨_,rfl⟩;have m:=qY (T:=T) (q:=q) (gJ (s:=[40])) mQ;refine bind_some (H _ _ (by omega) (by omega)) λ⟨X,k⟩ j=>?_;try dsimp only
  have:=om (g _ _ _ _ j);exact w _ _ (by omega);unfold yF;split;rename_i c;have m:=qY (dx (cg c).1 (cg c).2) (oQ (cg c).2);have m0:=wj (T:=T) (cg c).1;refine bind_some (H _ _ (by omega) (by omega)) λ⟨X,k⟩ j=>?_;try dsimp only
  have:=om (g _ _ _ _ j);exact w _ _ (by omega);exact⟨_,rfl⟩
theorem sj(h:40*mu T q+12<=f):∃x,kP T f 0 q=some x:=(QS T f).1 0 q (by omega) (by omega)
theorem TI{a:Int}{s:Sm}(h:xW T f a q=some (s,r)):hJ T q r/\zC T q r:=by
 unfold xW at h;obtain⟨⟨l,X⟩,g,H⟩:=ack.1 h;have V:=ku g;dsimp only at H;split at H;obtain⟨⟨y,n⟩,j,m⟩:=ack.1 H;cases m;have W:hJ T X (eF T (if l.k=4\/l.k=5\/l.k=6 then X else kO T X 2) [61]):=by
  refine hJ.trans ?_ bX;split;exact hJ.refl _ _;exact kZ
 have Y:=(V.trans W).trans (ku j);exact⟨Y.trans bX,Y.NO mm⟩;cases H;have W:hJ T X (if jF T X [59]=true/\l.k≠7 then kO T X 2 else X):=by
  split;exact kZ;exact hJ.refl _ _
 exact⟨(V.trans W).trans bX,(V.trans W).NO mm⟩
theorem wm(T:List Tk):∀f:Nat,(∀q s r,Ag T f q=some (s,r)->hJ T q r/\zC T q r)/\(∀q s r,mj T f q=some (s,r)->hJ T q r/\zC T q r)/\
  (∀l q s r,rY T f l q=some (s,r)->hJ T q r)
 |0=>by simp[Ag,mj,rY]|f+1=>by
  obtain⟨p,n,R⟩:=wm T f;refine⟨λq s r h=>?_,λq s r h=>?_,λl q s r h=>?_⟩;unfold Ag at h;split at h;rename_i c;cases h;have g:=(dx (cg c).1 (cg c).2).trans kH;exact⟨g.trans bX,g.NO mm⟩;split at h;rename_i c;obtain⟨⟨x,X⟩,H,j⟩:=ack.1 h;cases j;have g:=(((dx (cg c).1 (cg c).2).trans kH).trans bX).trans (ku H);exact⟨g.trans bX,g.NO mm⟩;split at h;rename_i c;obtain⟨⟨x,X⟩,H,j⟩:=ack.1 h;obtain⟨⟨y,Y⟩,m,k⟩:=ack.1 j;have V:=(dx (cg c).1 (cg c).2).trans (ku H);have g:=V.trans (n _ _ _ m).1;have w:=V.NO (n _ _ _ m).2;dsimp only at k;split at k;rename_i d;obtain⟨⟨Z,t⟩,o,z⟩:=ack.1 k;cases z;have W:=(dx (cg d).1 (cg d).2).trans (n _ _ _ o).1;exact⟨g.trans W,w.trans W⟩;cases k;exact⟨g,w⟩;split at h;rename_i c;obtain⟨⟨x,X⟩,H,j⟩:=ack.1 h;obtain⟨⟨y,Y⟩,m,k⟩:=ack.1 j;cases k;have V:=(dx (cg c).1 (cg c).2).trans (ku H);exact⟨V.trans (n _ _ _ m).1,V.NO (n _ _ _ m).2⟩;split at h;rename_i c;have V:=dx (cg c).1 (cg c).2;split at h;cases h;exact⟨V.trans bX,V.NO mm⟩;obtain⟨⟨x,X⟩,H,j⟩:=ack.1 h;cases j;have g:=V.trans (ku H);exact⟨g.trans bX,g.NO mm⟩;split at h;rename_i c;obtain⟨⟨x,X⟩,H,j⟩:=ack.1 h;cases j;have g:=(dx (cg c).1 (cg c).2).trans (ku H);exact⟨g.trans bX,g.NO mm⟩;exact TI h;unfold mj at h;have g:=R _ _ _ _ h;exact⟨gJ.trans g,mQ.trans g⟩;unfold rY at h;split at h;obtain⟨⟨x,X⟩,H,j⟩:=ack.1 h;exact(p _ _ _ H).1.trans (R _ _ _ _ j);cases h;exact gb
theorem TJ{a:Int}(h:40*mu T q+12<=f):∃x,xW T f a q=some x:=by
 unfold xW;refine bind_some (sj h) λ⟨l,X⟩ H=>?_;try dsimp only
 have m:=om (ku H);split;have W:hJ T X (eF T (if l.k=4\/l.k=5\/l.k=6 then X else kO T X 2) [61]):=by
  refine hJ.trans ?_ bX;split;exact hJ.refl _ _;exact kZ
 have N:=om W;exact bind_some (sj (by omega)) λx _=>⟨_,rfl⟩;exact⟨_,rfl⟩
theorem J6(T:List Tk):∀f:Nat,(∀q,40*mu T q+15<=f->∃x,Ag T f q=some x)/\(∀q,40*(mu T q-1)+18<=f->∃x,mj T f q=some x)/\
  (∀l q,40*mu T q+17<=f->∃x,rY T f l q=some x)
 |0=>by refine⟨λq h=>?_,λq h=>?_,λl q h=>?_⟩<;>omega|f+1=>by
  obtain⟨n,j,R⟩:=J6 T f;obtain⟨K,gB,G⟩:=wm T f;refine⟨λq h=>?_,λq h=>?_,λl q h=>?_⟩;have one:∀s,jF T q s=true->mu T (cx q)<=mu T q-1/\0<mu T q:=λs c=>⟨qY (dx (cg c).1 (cg c).2) (oQ (cg c).2),wj (cg c).1⟩;unfold Ag;split;exact⟨_,rfl⟩;split;rename_i c;have m0:=one _ c;have m:=om (T:=T) (q:=cx q) (kH.trans (bX (s:=[61])));exact bind_some (sj (by omega)) λx _=>⟨_,rfl⟩;split;rename_i c;have m0:=one _ c;refine bind_some (sj (by omega)) λ⟨X,g⟩ H=>?_;try dsimp only
  have m:=om (ku H);refine bind_some (j _ (by omega)) λ⟨y,Y⟩ k=>?_;try dsimp only
  have N:=om (gB _ _ _ k).1;split;rename_i d;have M:=om (dx (cg d).1 (cg d).2);exact bind_some (j _ (by omega)) λx _=>⟨_,rfl⟩;exact⟨_,rfl⟩;split;rename_i c;have m0:=one _ c;refine bind_some (sj (by omega)) λ⟨X,g⟩ H=>?_;try dsimp only
  have m:=om (ku H);exact bind_some (j _ (by omega)) λx _=>⟨_,rfl⟩;split;rename_i c;have m0:=one _ c;split;exact⟨_,rfl⟩;exact bind_some (sj (by omega)) λx _=>⟨_,rfl⟩;split;rename_i c;have m0:=one _ c;exact bind_some (sj (by omega)) λx _=>⟨_,rfl⟩;exact TJ (by omega);unfold mj;have m:=qY (T:=T) (q:=q) (gJ (s:=[123])) mQ;exact R _ _ (by omega);unfold rY;split;rename_i c;refine bind_some (n _ (by omega)) λ⟨X,g⟩ H=>?_;try dsimp only
  have m:=J5 c.1 (K _ _ _ H).2;exact R _ _ (by omega);exact⟨_,rfl⟩
theorem zF{s:List Sm}(h:mj T f q=some (s,r)):hJ T q r/\zC T q r:=(wm T f).2.1 _ _ _ h
theorem J7(h:40*mu T q+18<=f):∃x,mj T f q=some x:=(J6 T f).2.1 _ (by omega)
theorem G8(T:List Tk):∀(f:Nat)(l:List PD)(q:RQ)(s:List PD)(r:RQ),oO T f l q=some (s,r)->hJ T q r
 |0,_,_,_,_,h=>by simp[oO]at h|f+1,l,q,s,r,h=>by
  unfold oO at h;split at h;split at h;cases h;exact kZ;exact(kH.trans bX).trans (G8 T f _ _ _ _ h);cases h;exact hJ.refl _ _
theorem G9(T:List Tk):∀(f:Nat)(l:List PD)(q:RQ),mu T q<f->∃x,oO T f l q=some x
 |0,_,_,h=>au h (by omega)|f+1,l,q,h=>by
  unfold oO;split;rename_i c;split;exact⟨_,rfl⟩;have:=J5 c.1 ((zD (T:=T) (q:=q)).trans (bX (s:=[59])));exact G9 T f _ _ (by omega);exact⟨_,rfl⟩
theorem He{s:Rc}(h:uU T f q=some (s,r)):hJ T q r/\zC T q r:=by
 unfold uU at h;obtain⟨⟨l,X⟩,H,j⟩:=ack.1 h;cases j;have g:=(bX (T:=T) (s:=[123])).trans (G8 T f _ _ _ _ H);exact⟨(jK.trans g).trans bX,((rZ.trans g)).trans bX⟩
theorem QT(h:mu T q<f):∃x,uU T f q=some x:=by
 unfold uU;have m:=om (T:=T) (q:=q) (jK.trans (bX (s:=[123])));exact bind_some (G9 T f _ _ (by omega)) λx _=>⟨_,rfl⟩
theorem wo:hJ T q (J2 T q):=by
 unfold J2;split;exact hJ.refl _ _;split;exact bX.trans kZ;exact bX
theorem Bf(T:List Tk):∀(f:Nat)(l:List PD)(q:RQ)(s:List PD)(r:RQ),oP T f l q=some (s,r)->hJ T q r
 |0,_,_,_,_,h=>by simp[oP]at h|f+1,l,q,s,r,h=>by
  unfold oP at h;split at h;split at h;cases h;exact kZ;exact(kH.trans wo).trans (Bf T f _ _ _ _ h);cases h;exact hJ.refl _ _
theorem Hf(T:List Tk):∀(f:Nat)(l:List PD)(q:RQ),mu T q<f->∃x,oP T f l q=some x
 |0,_,_,h=>au h (by omega)|f+1,l,q,h=>by
  unfold oP;split;rename_i c;split;exact⟨_,rfl⟩;have:=J5 c.1 ((zD (T:=T) (q:=q)).trans wo);exact Hf T f _ _ (by omega);exact⟨_,rfl⟩
theorem Mm{s:Fc}(h:Be T f q=some (s,r)):hJ T q r/\zC T q r:=by
 unfold Be at h;obtain⟨⟨x,X⟩,k,H⟩:=ack.1 h;have g:=((bX (T:=T) (s:=[40])).trans (Bf T f _ _ _ _ k)).trans (bX (s:=[41]));have G:=jK.trans g;dsimp only at H;split at H;rename_i d;obtain⟨⟨y,n⟩,j,l⟩:=ack.1 H;cases l;have W:=((dx (cg d).1 (cg d).2).trans qX).trans (zF j).1;exact⟨G.trans W,(rZ.trans g).trans W⟩;obtain⟨⟨y,n⟩,j,l⟩:=ack.1 H;cases l;have W:=(zF j).1;exact⟨G.trans W,(rZ.trans g).trans W⟩
theorem X6(h:40*mu T q+18<=f):∃x,Be T f q=some x:=by
 unfold Be;have m:=om (T:=T) (q:=q) (jK.trans (bX (s:=[40])));refine bind_some (Hf T f _ _ (by omega)) λ⟨l,X⟩ H=>?_;try dsimp only
 have M:=om ((Bf T f _ _ _ _ H).trans (bX (s:=[41])));split;rename_i d;have N:=om ((dx (cg d).1 (cg d).2).trans qX);exact bind_some (J7 (by omega)) λx _=>⟨_,rfl⟩;exact bind_some (J7 (by omega)) λx _=>⟨_,rfl⟩
theorem vz(T:List Tk):∀(f:Nat)(p:Pg)(q:RQ),40*mu T q+19<=f->∃x,tD T f p q=some x
 |0,_,_,h=>au h (by omega)|f+1,p,q,h=>by
  unfold tD;split;rename_i c;have m0:=wj (T:=T) c.1;have W:=J5 c.1 (T:=T) (r:=kO T q 4) (.inl (nh (by decide)));have w:=J5 c.1 (T:=T) (r:=kO T q 2) (.inl (nh (by decide)));have m:=J5 c.1 (oQ (zB c.2));split;exact vz T f _ _ (by omega);split;refine bind_some (QT (by omega)) λ⟨l,X⟩ H=>?_;try dsimp only
  have:=om (He H).1;exact vz T f _ _ (by omega);split;have:=om (T:=T) (q:=cx q) (kH.trans (bX (s:=[59])));exact vz T f _ _ (by omega);split;refine bind_some (X6 (by omega)) λ⟨l,X⟩ H=>?_;try dsimp only
  have:=om (Mm H).1;exact vz T f _ _ (by omega);exact vz T f _ _ (by omega);exact⟨_,rfl⟩
theorem Bg(T:List Tk):∃x,zA T (40*T.length+100)=some x:=by
 unfold zA;exact bind_some (vz T _ _ _ (by simp[mu];omega)) λx _=>⟨_,rfl⟩
end iQ
namespace iQ
open Ax Go V7
def InN(T:List Tk)(N:Int):Prop:=0<=N/\∀x∈T,0<=x.a/\x.a<=N
variable{T:List Tk}{N:Int}{q:RQ}{f:Nat}
theorem NP(h:InN T N)(q:RQ):0<=(gD T q).a/\(gD T q).a<=N:=by
 by_cases H:q.at_<T.length;have:gD T q=T[q.at_]:=by simp[gD,H]
 rw[this];exact h.2 _ (List.getElem_mem H);have g:gD T q=Tk0:=by simp[gD,List.getD,aeQ (Nat.le_of_not_lt H)]
 rw[g];exact⟨ani _,h.1⟩
def NQ(N:Int)(p:PD):Prop:=0<=p.od/\p.od<=3/\0<=p.at_/\p.at_<=N
theorem J8(h:InN T N)(q:RQ):NQ N (fh T q).1:=⟨TH.1,TH.2,(NP h q).1,(NP h q).2⟩
structure Rc.In (N:Int)(r:Rc):Prop where
 a:0<=r.a/\r.a<=N
 len:r.cF.length<=9
 f:∀p∈r.cF,NQ N p
structure Fc.In (N:Int)(r:Fc):Prop where
 a:0<=r.a/\r.a<=N
 len:r.params.length<=7
 f:∀p∈r.params,NQ N p
 od:0<=r.od/\r.od<=3
structure Pg.In (N:Int)(p:Pg):Prop where
 r:p.aU.length<=12/\∀x∈p.aU,Rc.In N x
 g:p.az.length<=8/\∀x∈p.az,NQ N x
 f:p.funcs.length<=16/\∀x∈p.funcs,Fc.In N x
theorem wu{g:Type}{P:g->Prop}{l:List g}{a:g}(h:∀x∈l,P x)(H:P a):∀x∈l++[a],P x:=by
 grind
theorem QU(h:(gD T q).k≠1):(ff T q).2.fe≠0:=by
 simp_all [ff,U,nh]
theorem Cb(h:(gD T q).k≠1):(fh T q).2.fe≠0:=by
 have g:hJ T (ff T q).2 (fh T q).2:=bX.trans qX;rw[(g.iy (QU h)).1];exact QU h
theorem Mn{T:List Tk}{N:Int}(j:InN T N):∀(f:Nat)(l:List PD)(q:RQ)(s:List PD)(r:RQ),oO T f l q=some (s,r)->(∀p∈l,NQ N p)->(l.length<=8\/q.fe≠0/\l.length<=9)->
  (∀p∈s,NQ N p)/\(s.length<=8\/r.fe≠0/\s.length<=9)
 |0,_,_,_,_,h,_,_=>by simp[oO]at h|f+1,l,q,s,r,h,m,o=>by
  unfold oO at h;split at h;rename_i c;have n:l.length<=8:=by
   grind
  split at h
  grind
  rename_i c2;refine Mn j f _ _ _ _ h (wu m (J8 j q)) ?_;by_cases H:(gD T q).k=1
  grind
  refine .inr ⟨?_,by simp;omega⟩;have g:=bX (T:=T) (q:=(fh T q).2) (s:=[59]);rw[(g.iy (Cb H)).1];exact Cb H
  grind
theorem Mo{T:List Tk}{N:Int}(j:InN T N):∀(f:Nat)(l:List PD)(q:RQ)(s:List PD)(r:RQ),oP T f l q=some (s,r)->(∀p∈l,NQ N p)->(l.length<=6\/q.fe≠0/\l.length<=7)->
  (∀p∈s,NQ N p)/\(s.length<=6\/r.fe≠0/\s.length<=7)
 |0,_,_,_,_,h,_,_=>by simp[oP]at h|f+1,l,q,s,r,h,m,o=>by
  unfold oP at h;split at h;rename_i c;have n:l.length<=6:=by
   grind
  split at h
  grind
  rename_i c2;refine Mo j f _ _ _ _ h (wu m (J8 j q)) ?_;by_cases H:(gD T q).k=1
  grind
  refine .inr ⟨?_,by simp;omega⟩;have g:=wo (T:=T) (q:=(fh T q).2);rw[(g.iy (Cb H)).1];exact Cb H
  grind
theorem X7(j:InN T N){r:RQ}{s:Rc}(h:uU T f q=some (s,r)):Rc.In N s/\(r.fe=0->s.cF.length<=8):=by
 unfold uU at h;obtain⟨⟨l,X⟩,H,g⟩:=ack.1 h;cases g;obtain⟨a,b⟩:=Mn j _ _ _ _ _ H (by simp) (by simp);refine⟨⟨NP j q,by grind,a⟩,λe=>?_⟩;rcases b with b|b;exact b;exact au (bX.G7 e) b.1
theorem agl(k:InN T N){r:RQ}{s:Fc}(h:Be T f q=some (s,r)):Fc.In N s/\(r.fe=0->s.params.length<=6):=by
 unfold Be at h;obtain⟨⟨x,X⟩,n,H⟩:=ack.1 h;obtain⟨a,b⟩:=Mo k _ _ _ _ _ n (by simp) (by simp);have m:=NP k q;have I:∀r:RQ,hJ T X r->r.fe=0->x.length<=6:=λr g e=>by
  rcases b with b|b;exact b;exact au (g.G7 e) b.1
 have B:x.length<=7:=by grind
 dsimp only at H;split at H;rename_i d;obtain⟨⟨y,Y⟩,j,l⟩:=ack.1 H;cases l;exact⟨⟨m,B,a,TH⟩,I _ (((bX.trans (dx (cg d).1 (cg d).2)).trans qX).trans (zF j).1)⟩;obtain⟨⟨y,Y⟩,j,l⟩:=ack.1 H;cases l;exact⟨⟨m,B,a,ani _,by grind⟩,I _ (bX.trans (zF j).1)⟩
def Pg.few(p:Pg):Prop:=(∀x∈p.aU,x.cF.length<=8)/\∀x∈p.funcs,x.params.length<=6
theorem Cc{T:List Tk}{N:Int}(H:InN T N):∀(f:Nat)(p:Pg)(q:RQ)(s:Pg)(r:RQ),tD T f p q=some (s,r)->Pg.In N p->(q.fe=0->p.few)->Pg.In N s/\(r.fe=0->s.few)
 |0,_,_,_,_,h,_,_=>by simp[tD]at h|f+1,p,q,s,r,h,j,k=>by
  unfold tD at h;split at h;rename_i c;split at h;exact Cc H f _ _ _ _ h j λe=>au e (nh (by decide));rename_i l;split at h;rename_i d;obtain⟨⟨x,X⟩,m,n⟩:=ack.1 h;obtain⟨C,I⟩:=X7 H m;have:p.aU.length≠12:=λe=>l (.inl ⟨d,e⟩);have:=j.r.1;exact Cc H f _ _ _ _ n ⟨⟨by simp;omega,wu j.r.2 C⟩,j.g,j.f⟩ λe=>⟨wu (k c.1).1 (I e),(k c.1).2⟩;split at h;rename_i d;have:p.az.length≠8:=λe=>l (.inr (.inl ⟨d,e⟩));have:=j.g.1;exact Cc H f _ _ _ _ h ⟨j.r,⟨by simp;omega,wu j.g.2 (J8 H _)⟩,j.f⟩ λe=>k c.1;split at h;rename_i d;obtain⟨⟨x,X⟩,m,n⟩:=ack.1 h;obtain⟨C,I⟩:=agl H m;have:p.funcs.length≠16:=λe=>l (.inr (.inr ⟨d,e⟩));have:=j.f.1;exact Cc H f _ _ _ _ n ⟨j.r,j.g,⟨by simp;omega,wu j.f.2 C⟩⟩ λe=>⟨(k c.1).1,wu (k c.1).2 (I e)⟩;exact Cc H f _ _ _ _ h j λe=>au e (nh (by decide))
  grind
theorem TK:Pg.In N Ik:=⟨⟨by simp[Ik],by simp[Ik]⟩,⟨by simp[Ik],by simp[Ik]⟩,⟨by simp[Ik],by simp[Ik]⟩⟩
theorem NR:Ik.few:=⟨by simp[Ik],by simp[Ik]⟩
theorem X8(j:InN T N){x:Pg×Int×Int}(h:zA T f=some x):Pg.In N x.1/\x.1.few:=by
 grind [zA,ack,Cc,TK,NR,Option.some.injEq]
end iQ
namespace iZ
open Ax Go V7 iQ
abbrev tI:T3:=⟨1,0,0⟩
abbrev tB:T3:=⟨2,0,0⟩
structure Vd where
 nm:List UInt8
 ty:T3
 deriving DecidableEq
structure Sg where
 nm:List UInt8
 ps:List Vd
 bR:Bool
 res:T3
structure Hd where
 rs:List (List UInt8)
 bJ:List (List UInt8×List Vd)
 az:List Vd
 aW:List Sg
def o9(rs:List (List UInt8))(l:List PD):List Vd:=l.map λq=>⟨q.name,(dw rs q.on q.od).1⟩
def gR(p:Pg):List (List UInt8):=p.aU.map (·.name)
def Bh(rs:List (List UInt8))(f:Fc):Sg:=⟨f.name,o9 rs f.params,f.bR,if f.bR then (dw rs f.on f.od).1 else T0⟩
def aX(p:Pg):Hd:=⟨gR p,p.aU.map λr=>(r.name,o9 (gR p) r.cF),o9 (gR p) p.az,p.funcs.map (Bh (gR p))⟩
def jj(s:List UInt8):Nat->List Vd->Option (Nat×T3)
 |_,[]=>none|i,f::l=>if f.nm=s then some (i,f.ty) else jj s (i+1) l
def ue(H:Hd)(V:List Vd)(s:List UInt8):Option (T3×Int):=match jj s 0 V with
 |some (k,t)=>some (t,(k:Int))|none=>match jj s 0 H.az with
  |some (k,t)=>some (t,-1-(k:Int))|none=>none
def uC(s:List UInt8):Nat->List Sg->Option (Nat×Sg)
 |_,[]=>none|i,g::l=>if g.nm=s then some (i,g) else uC s (i+1) l
def jC:List Vd->List E->Bool
 |[],[]=>true|f::l,e::r=>decide (e.ty=f.ty)&&jC l r|_,_=>false
def ir(k n:Int)(m:Nat):Bool:=
 if k=1\/k=3\/k=4\/k=8\/k=11 then decide (m=0)
 else if k=2 then decide (m=0)&&(decide (n=0)||decide (n=1))
 else if k=7 then true
 else if k=5\/k=9\/k=10\/k=12\/k=13 then decide (m=1)
 else (decide (k=6)||decide (14<=k)&&decide (k<=24))&&decide (m=2)
def Ce(K:List E):T3:=match K with|e::_=>e.ty | []=>T0
def J9(K:List E):T3:=match K with|_::e::_=>e.ty|_=>T0
def uD(k n:Int):Int:=if k=1\/k=2 then n else 0
def uf(k:Int)(N:List UInt8):List UInt8:=if k=4\/k=5\/k=7 then N else []
def uh(k:Int)(O:List UInt8):List UInt8:=if k=3\/k=8\/k=9 then O else []
def uk(k:Int)(o:Int):Int:=if k=3\/k=8\/k=9 then o else 0
def Ka(b:Bool)(t:T3):Option (T3×Int):=if b then some (t,0) else none
def zG(H:Hd)(t:T3)(N:List UInt8):Option (T3×Int):=if t.b=3/\t.d=0 then match H.bJ[t.r.toNat]? with
  |some s=>match jj N 0 s.2 with
   |some (i,u)=>some (u,(i:Int))|none=>none
  |none=>none
 else none
def qZ(H:Hd)(N:List UInt8)(K:List E):Option (T3×Int):=match uC N 0 H.aW with
 |some (i,s)=>if jC s.ps K then some (s.res,(i:Int)) else none
 |none=>none
def pJ(k:Int)(a b:T3):Option (T3×Int):=
 if k=14\/k=15\/k=16\/k=17\/k=18 then Ka (decide (a=tI)&&decide (b=tI)) tI
 else if k=19\/k=20 then Ka (decide (a=tI)&&decide (b=tI)) tB
 else if k=21\/k=22 then Ka (decide (a=b)) tB
 else Ka (decide (a=tB)&&decide (b=tB)) tB
def mR(H:Hd)(V:List Vd)(k:Int)(N O:List UInt8)(o:Int)(K:List E):Option (T3×Int):=
 if k=1\/k=11 then some (tI,0)
 else if k=2 then some (tB,0)
 else if k=3 then Ka ((dw H.rs O o).2&&mh (dw H.rs O o).1) (dw H.rs O o).1
 else if k=4 then ue H V N
 else if k=5 then zG H (Ce K) N
 else if k=6 then Ka (decide (0<(Ce K).d)&&decide (J9 K=tI)) ⟨(Ce K).b,(Ce K).r,(Ce K).d-1⟩
 else if k=7 then qZ H N K
 else if k=8 then Ka ((dw H.rs O o).2&&decide ((dw H.rs O o).1.b=3)&&decide ((dw H.rs O o).1.d=0)) (dw H.rs O o).1
 else if k=9 then Ka ((dw H.rs O o).2&&decide ((dw H.rs O o).1.d<3)&&decide (Ce K=tI)) ⟨(dw H.rs O o).1.b,(dw H.rs O o).1.r,(dw H.rs O o).1.d+1⟩
 else if k=10 then Ka (decide (0<(Ce K).d)) tI
 else if k=12 then Ka (decide (Ce K=tI)) tI
 else if k=13 then Ka (decide (Ce K=tB)) tB
 else pJ k (Ce K) (J9 K)
mutual
def xX(H:Hd)(V:List Vd):E->Except Int E
 |.mk k n N O o g a _ _=>if ir k n g.length then
   match rF H V g with
   |.error x=>.error x|.ok K=>match mR H V k N O o K with
    |none=>.error a|some (t,r)=>.ok (.mk k (uD k n) (uf k N) (uh k O) (uk k o) K a t r)
  else .error a
def rF(H:Hd)(V:List Vd):List E->Except Int (List E)
 |[]=>.ok []|e::l=>match xX H V e with
  |.error x=>.error x|.ok y=>if y.ty=T0 then .error y.a else match rF H V l with
   |.error x=>.error x|.ok Y=>.ok (y::Y)
end
def fy(bR:Bool)(k:Int)(g:List E):Bool:=
 if k=1 then decide (g.length=0)
 else if k=4 then match g with | [e,_]=>decide (e.k=5)||decide (e.k=6)|_=>false
 else if k=7 then decide (g.length=1)&&bR||decide (g.length=0) && !bR
 else if k=9 then match g with | [e]=>decide (e.k=7)|_=>false
 else if k=2\/k=3\/k=5\/k=6\/k=8 then decide (g.length=1)
 else false
def pA(H:Hd)(res:T3)(V:List Vd)(k:Int)(N:List UInt8)(g:List E)(t:T3):Option (Int×List Vd):=
 if k=1 then (match jj N 0 V with|some _=>none|none=>some ((V.length:Int),V++[⟨N,t⟩]))
 else if k=2 then (if Ce g=t then match jj N 0 V with|some _=>none|none=>some ((V.length:Int),V++[⟨N,t⟩]) else none)
 else if k=3 then (match ue H V N with|some (u,r)=>if u=Ce g then some (r,V) else none|none=>none)
 else if k=4 then (if Ce g=J9 g then some (0,V) else none)
 else if k=5\/k=6 then (if Ce g=tB then some (0,V) else none)
 else if k=7 then (if g.length=0\/Ce g=res then some (0,V) else none)
 else if k=8 then (if Ce g=tI then some (0,V) else none)
 else some (0,V)
def rH(H:Hd)(k:Int)(O:List UInt8)(o:Int):Option T3:=if k=1\/k=2 then (if (dw H.rs O o).2 then some (dw H.rs O o).1 else none) else some T0
def As(H:Hd)(V:List Vd)(k:Int)(g:List E):Except Int (List E):=if k=9 then match g with
  |e::_=>match xX H V e with
   |.error x=>.error x|.ok y=>.ok [y]
  |[]=>.ok []
 else rF H V g
def nj(k:Int)(N:List UInt8):List UInt8:=if k=1\/k=2\/k=3 then N else []
def eS(k:Int)(O:List UInt8):List UInt8:=if k=1\/k=2 then O else []
def eU(k:Int)(o:Int):Int:=if k=1\/k=2 then o else 0
mutual
def Au(H:Hd)(bR:Bool)(res:T3):List Vd->Sm->Except Int (Sm×List Vd)
 |V,.mk k N O o E B l a _=>if fy bR k E then
   match rH H k O o with
   |none=>.error a|some t=>match As H V k E with
    |.error x=>.error x|.ok y=>match pA H res V k N y t with
     |none=>.error a|some (r,W)=>if k=5 then
       match nN H bR res W B with
       |.error x=>.error x|.ok (b,w)=>match nN H bR res w l with
        |.error x=>.error x|.ok (c,g)=>.ok (.mk k (nj k N) (eS k O) (eU k o) y b c a r,g)
      else if k=6 then
       match nN H bR res W B with
       |.error x=>.error x|.ok (b,w)=>.ok (.mk k (nj k N) (eS k O) (eU k o) y b [] a r,w)
      else .ok (.mk k (nj k N) (eS k O) (eU k o) y [] [] a r,W)
  else .error a
def nN(H:Hd)(bR:Bool)(res:T3):List Vd->List Sm->Except Int (List Sm×List Vd)
 |V,[]=>.ok ([],V)|V,s::l=>match Au H bR res V s with
  |.error x=>.error x|.ok (y,W)=>match nN H bR res W l with
   |.error x=>.error x|.ok (Y,X)=>.ok (y::Y,X)
end
structure Bd where
 vars:List Vd
 code:List Sm
 a:Int
def qJ(H:Hd):List Sg->List Fc->Except Int (List Bd)
 |s::ss,f::fs=>match nN H s.bR s.res s.ps f.body with
  |.error x=>.error x|.ok (c,W)=>match qJ H ss fs with
   |.error x=>.error x|.ok l=>.ok (⟨W,c,f.a⟩::l)
 |_,_=>.ok []
def Vd.aI(f:Vd):List AV:=.str f.nm::f.ty.cells
def cG(l:List Vd):AV:=aM 4 (l.map Vd.aI)
def Sg.aI(s:Sg):List AV:=[.str s.nm,cG s.ps,.bool s.bR,.int .i64 s.res.b,.int .i64 s.res.r,.int .i64 s.res.d]
def fQ(s:List UInt8×List Vd):List AV:=[.str s.1,cG s.2]
def Bd.aI(b:Bd):List AV:=[cG b.vars,bZ b.code,.int .i64 b.a]
end iZ
namespace iZ
open Ax Go V7 iQ
theorem E.Cf{P:E->Prop}(h:∀e,(∀x∈e.aN,P x)->P e)(e:E):P e:=h e λx _=>E.Cf h x
termination_by sizeOf e
decreasing_by
 have hx:x∈e.aN:=by assumption
 cases e;simp only[E.aN]at hx;have:=aok hx
 grind
theorem Sm.Cf{P:Sm->Prop}(h:∀s,(∀x∈s.bd,P x)->(∀x∈s.el,P x)->P s)(s:Sm):P s:=h s (λx _=>Sm.Cf h x) λx _=>Sm.Cf h x
termination_by sizeOf s
decreasing_by
 all_goals
  rename_i hx;cases s;simp only[Sm.bd,Sm.el]at hx;have:=aok hx
  grind
mutual
def E.sz:E->Nat
 |.mk _ _ _ _ _ aN _ _ _=>1+E.eD aN
def E.eD:List E->Nat
 |[]=>0|e::l=>E.sz e+E.eD l
end
theorem E.Kb(e:E):0<E.sz e:=by cases e;simp only[E.sz];omega
theorem E.lF:∀l:List E,l.length<=E.eD l
 |[]=>acO _|e::l=>by
  have:=E.lF l
  grind [E.Kb,E.eD,aeo]
theorem E.ri:∀{l:List E}{e:E},e∈l->E.sz e<=E.eD l
 |[],_,h=>by cases h|x::l,e,h=>by
  rcases aev.1 h with h|h
  grind [E.eD]
  have:=E.ri h;simp only[E.eD];omega
theorem E.rj(e:E):E.sz e=1+E.eD e.aN:=by cases e;rfl
def WT(n:Nat)(t:T3):Prop:=0<=t.d/\t.d<=3/\(t.b=3->0<=t.r/\t.r<n)
structure Hd.ok (H:Hd):Prop where
 rs:H.rs.length=H.bJ.length
 bJ:∀s∈H.bJ,∀f∈s.2,WT H.rs.length f.ty
 az:∀f∈H.az,WT H.rs.length f.ty
 aW:∀s∈H.aW,WT H.rs.length s.res/\∀f∈s.ps,WT H.rs.length f.ty
variable{n:Nat}{t:T3}{r:Int}{H:Hd}{V:List Vd}
theorem ab0:WT n T0:=⟨ani _,by decide,λh=>by cases h⟩
theorem agm:WT n tI:=⟨ani _,by decide,λh=>by cases h⟩
theorem ak7:WT n tB:=⟨ani _,by decide,λh=>by cases h⟩
theorem p9(l:List (List UInt8))(s:List UInt8)(d:Int):WT l.length (dw l s d).1:=by
 unfold dw;split;exact ab0;rename_i h;have m:0<=d/\d<=3:=by omega
 split;exact⟨m.1,m.2,λh=>by cases h⟩;split;exact⟨m.1,m.2,λh=>by cases h⟩;split;exact ab0;rename_i h;refine⟨m.1,m.2,λ_=>?_⟩
 grind [VP,absurd]
theorem Ew{s:List UInt8}:∀{l:List Vd}{i k:Nat}{t:T3},jj s i l=some (k,t)->∃f∈l,f.ty=t
 |[],_,_,_,h=>by cases h|f::l,i,k,t,h=>by
  unfold jj at h;split at h
  grind
  obtain⟨g,H,j⟩:=Ew h
  grind
theorem Mp{s:List UInt8}:∀{l:List Sg}{i k:Nat}{t:Sg},uC s i l=some (k,t)->t∈l
 |[],_,_,_,h=>by cases h|f::l,i,k,t,h=>by
  unfold uC at h;split at h
  grind
  exact aee _ (Mp h)
theorem Bi{b:Bool}{u:T3}(h:Ka b t=some (u,r))(X:b=true->WT n t):WT n u:=by
 cases b with
 |false=>cases h|true=>cases h;exact X rfl
theorem ak8{s:List UInt8}(l:H.ok)(I:∀f∈V,WT H.rs.length f.ty)(h:ue H V s=some (t,r)):WT H.rs.length t:=by
 unfold ue at h;split at h
 grind [Ew]
 split at h;rename_i k u e;cases h;obtain⟨f,g,j⟩:=Ew e;rw[<-j];exact l.az f g;cases h
theorem ak9{k:Int}{N O:List UInt8}{o:Int}{K:List E}(l:H.ok)(I:∀f∈V,WT H.rs.length f.ty)(q:∀e∈K,WT H.rs.length e.ty)(h:mR H V k N O o K=some (t,r)):WT H.rs.length t:=by
 have j:WT H.rs.length (Ce K):=by
  unfold Ce
  grind [aeb,ab0]
 have D:=p9 H.rs O o;unfold mR at h;by_cases c1:k=1\/k=11;rw[af c1]at h;cases h;exact agm;rw[U c1]at h;by_cases c2:k=2;rw[af c2]at h;cases h;exact ak7;rw[U c2]at h;by_cases c3:k=3;rw[af c3]at h;grind [Bi];rw[U c3]at h;by_cases c4:k=4;rw[af c4]at h;exact ak8 l I h;rw[U c4]at h;by_cases C:k=5;rw[af C]at h;unfold zG at h;split at h;split at h;rename_i s p;split at h;rename_i i u e;cases h;obtain⟨f,m,n⟩:=Ew e;rw[<-n];exact l.bJ _ (List.mem_of_getElem? p) f m;cases h;cases h;cases h;rw[U C]at h;by_cases c6:k=6;rw[af c6]at h;refine Bi h λg=>?_;simp only[Ee,aA]at g;exact⟨by grind,by have:=j.2.1;grind,j.2.2⟩;rw[U c6]at h;by_cases c7:k=7;rw[af c7]at h;unfold qZ at h;split at h;rename_i i s e;split at h;cases h;exact(l.aW s (Mp e)).1;cases h;cases h;rw[U c7]at h;by_cases c8:k=8;rw[af c8]at h;grind [Bi];rw[U c8]at h;by_cases c9:k=9;rw[af c9]at h;refine Bi h λg=>?_;simp only[Ee,aA]at g;exact⟨by have:=D.1;grind,by grind,D.2.2⟩;rw[U c9]at h;by_cases Df:k=10;rw[af Df]at h;exact Bi h λ_=>agm;rw[U Df]at h;by_cases DJ:k=12;rw[af DJ]at h;exact Bi h λ_=>agm;rw[U DJ]at h;by_cases Fo:k=13;rw[af Fo]at h;exact Bi h λ_=>ak7;rw[U Fo]at h
 grind [pJ,Bi,agm,ak7]
theorem nk{e:E}{l:List E}{Y:List E}(h:rF H V (e::l)=.ok Y):∃y z,xX H V e=.ok y/\y.ty≠T0/\rF H V l=.ok z/\Y=y::z:=by
 unfold rF at h
 grind
theorem jy{H:Hd}{V:List Vd}{P:E->Prop}:∀{l Y:List E},rF H V l=.ok Y->(∀e∈l,∀y,xX H V e=.ok y->P y)->∀y∈Y,P y
 |[],Y,h,_=>by
  grind [rF]
 |e::l,Y,h,k=>by
  obtain⟨y,Z,n,_,j,rfl⟩:=nk h;intro z m;rcases aev.1 m with g|g
  grind
  exact jy j (λe U=>k e (aee _ U)) z g
theorem qj{e y:E}(h:xX H V e=.ok y):∃K t r,ir e.k e.n e.aN.length=true/\rF H V e.aN=.ok K/\mR H V e.k e.nm e.on e.od K=some (t,r)/\y=.mk e.k (uD e.k e.n) (uf e.k e.nm) (uh e.k e.on) (uk e.k e.od) K e.a t r:=by
 obtain⟨k,n,N,O,o,g,a,T,ref⟩:=e;unfold xX at h;split at h;rename_i j;split at h;cases h;rename_i K Z;split at h;cases h;rename_i t r X;cases h;exact⟨K,t,r,j,Z,X,rfl⟩;cases h
theorem NT(l:H.ok)(I:∀f∈V,WT H.rs.length f.ty)(e:E):∀y,xX H V e=.ok y->WT H.rs.length y.ty:=by
 induction e using E.Cf with
 |_ e k=>
  intro y h;obtain⟨K,t,r,_,g,j,rfl⟩:=qj h;exact ak9 l I (jy g k) j
theorem nH{H:Hd}{V:List Vd}:∀{l Y:List E},rF H V l=.ok Y->Y.length=l.length
 |[],Y,h=>by grind [rF]|e::l,Y,h=>by
  obtain⟨y,z,_,_,g,rfl⟩:=nk h;simp[nH g]
end iZ
namespace iZ
open Ax Go V7 iQ
mutual
def Sm.sz:Sm->Nat
 |.mk _ _ _ _ es bd el _ _=>1+E.eD es+Sm.eD bd+Sm.eD el
def Sm.eD:List Sm->Nat
 |[]=>0|s::l=>Sm.sz s+Sm.eD l
end
theorem Sm.Kb(s:Sm):0<Sm.sz s:=by cases s;simp only[Sm.sz];omega
theorem Sm.lF:∀l:List Sm,l.length<=Sm.eD l
 |[]=>acO _|e::l=>by
  have:=Sm.lF l;have:=Sm.Kb e;simp only[Sm.eD,aeo];omega
theorem Sm.ri:∀{l:List Sm}{e:Sm},e∈l->Sm.sz e<=Sm.eD l
 |[],_,h=>by cases h|x::l,e,h=>by
  rcases aev.1 h with h|h;subst h;simp only[Sm.eD];omega;have:=Sm.ri h;simp only[Sm.eD];omega
theorem Sm.wz(s:Sm):Sm.sz s=1+E.eD s.es+Sm.eD s.bd+Sm.eD s.el:=by cases s;rfl
theorem ala(H:Hd)(bR:Bool)(res:T3)(V:List Vd)(k:Int)(N O:List UInt8)(o:Int)(g:List E)(B l:List Sm)(a ref:Int):Au H bR res V (.mk k N O o g B l a ref)=if fy bR k g then
   match rH H k O o with
   |none=>.error a|some t=>match As H V k g with
    |.error x=>.error x|.ok y=>match pA H res V k N y t with
     |none=>.error a|some (r,W)=>if k=5 then
       match nN H bR res W B with
       |.error x=>.error x|.ok (b,w)=>match nN H bR res w l with
        |.error x=>.error x|.ok (c,h)=>.ok (.mk k (nj k N) (eS k O) (eU k o) y b c a r,h)
      else if k=6 then
       match nN H bR res W B with
       |.error x=>.error x|.ok (b,w)=>.ok (.mk k (nj k N) (eS k O) (eU k o) y b [] a r,w)
      else .ok (.mk k (nj k N) (eS k O) (eU k o) y [] [] a r,W)
  else .error a:=by
 (conv=>lhs;unfold Au)<;>rfl
theorem Kc(H:Hd)(bR:Bool)(res:T3)(V:List Vd)(s:Sm):Au H bR res V s=if fy bR s.k s.es then
   match rH H s.k s.on s.od with
   |none=>.error s.a|some t=>match As H V s.k s.es with
    |.error x=>.error x|.ok y=>match pA H res V s.k s.nm y t with
     |none=>.error s.a|some (r,W)=>if s.k=5 then
       match nN H bR res W s.bd with
       |.error x=>.error x|.ok (b,w)=>match nN H bR res w s.el with
        |.error x=>.error x|.ok (c,g)=>.ok (.mk s.k (nj s.k s.nm) (eS s.k s.on) (eU s.k s.od) y b c s.a r,g)
      else if s.k=6 then
       match nN H bR res W s.bd with
       |.error x=>.error x|.ok (b,w)=>.ok (.mk s.k (nj s.k s.nm) (eS s.k s.on) (eU s.k s.od) y b [] s.a r,w)
      else .ok (.mk s.k (nj s.k s.nm) (eS s.k s.on) (eU s.k s.od) y [] [] s.a r,W)
  else .error s.a:=by
 obtain⟨k,N,O,o,E,B,l,a,ref⟩:=s;exact ala H bR res V k N O o E B l a ref
variable{H:Hd}{bR:Bool}{res:T3}{V X:List Vd}{l:List Sm}{k:Int}{g Y:List E}
theorem xY{s y:Sm}(h:Au H bR res V s=.ok (y,X)):∃t Y r W,fy bR s.k s.es=true/\rH H s.k s.on s.od=some t/\As H V s.k s.es=.ok Y/\pA H res V s.k s.nm Y t=some (r,W)/\
  (s.k=5/\(∃b w c,nN H bR res W s.bd=.ok (b,w)/\nN H bR res w s.el=.ok (c,X)/\y=.mk s.k (nj s.k s.nm) (eS s.k s.on) (eU s.k s.od) Y b c s.a r)\/
   s.k=6/\(∃b,nN H bR res W s.bd=.ok (b,X)/\y=.mk s.k (nj s.k s.nm) (eS s.k s.on) (eU s.k s.od) Y b [] s.a r)\/
   s.k≠5/\s.k≠6/\X=W/\y=.mk s.k (nj s.k s.nm) (eS s.k s.on) (eU s.k s.od) Y [] [] s.a r):=by
 rw[Kc]at h;split at h;rename_i m;split at h;cases h;rename_i t n;split at h;cases h;rename_i Y L;split at h;cases h;rename_i r W J;refine⟨t,Y,r,W,m,n,L,J,?_⟩;split at h;rename_i g;split at h;cases h;rename_i b w l;split at h;cases h;rename_i c o j;cases h;exact .inl ⟨g,b,w,c,l,j,rfl⟩;rename_i g;split at h;rename_i z;split at h;cases h;rename_i b w l;cases h;exact .inr (.inl ⟨z,b,l,rfl⟩);rename_i z;cases h;exact .inr (.inr ⟨g,z,rfl,rfl⟩);cases h
theorem pK{s:Sm}{z:List Sm}(h:nN H bR res V (s::l)=.ok (z,X)):∃y W Y,Au H bR res V s=.ok (y,W)/\nN H bR res W l=.ok (Y,X)/\z=y::Y:=by
 unfold nN at h;split at h;cases h;rename_i y W k;split at h;cases h;rename_i Y B g;cases h;exact⟨y,W,Y,k,g,rfl⟩
theorem ab1{W:List Vd}{N:List UInt8}{t:T3}{r:Int}(h:pA H res V k N g t=some (r,W)):W=V\/(k=1\/k=2)/\W=V++[⟨N,t⟩]:=by
 unfold pA at h;split at h;rename_i c;split at h;cases h;cases h;exact .inr ⟨.inl c,rfl⟩;split at h;rename_i c;split at h;split at h;cases h;cases h;exact .inr ⟨.inr c,rfl⟩;cases h;all_goals left
 split at h;split at h;split at h<;>cases h;rfl;cases h;split at h;split at h<;>cases h;rfl;split at h;split at h<;>cases h;rfl;split at h;split at h<;>cases h;rfl;split at h;split at h<;>cases h;rfl;cases h;rfl
theorem agn{O:List UInt8}{o:Int}{t:T3}(h:rH H k O o=some t):WT H.rs.length t:=by
 unfold rH at h;split at h;split at h<;>cases h;exact p9 _ _ _;cases h;exact ab0
theorem Ey{H:Hd}{bR:Bool}{res:T3}:∀{l Y:List Sm}{V X:List Vd},(∀s∈l,∀V y W,(∀f∈V,WT H.rs.length f.ty)->Au H bR res V s=.ok (y,W)->(∀f∈W,WT H.rs.length f.ty)/\W.length<=V.length+Sm.sz s)->
  (∀f∈V,WT H.rs.length f.ty)->nN H bR res V l=.ok (Y,X)->(∀f∈X,WT H.rs.length f.ty)/\X.length<=V.length+Sm.eD l
 |[],Y,V,X,_,I,h=>by unfold nN at h;cases h;exact⟨I,by simp[Sm.eD]⟩|s::l,Y,V,X,j,I,h=>by
  obtain⟨y,W,z,k,m,rfl⟩:=pK h;obtain⟨g,S⟩:=j s aeb V y W I k;obtain⟨B,o⟩:=Ey (λs n=>j s (aee _ n)) g m;exact⟨B,by simp only[Sm.eD];omega⟩
theorem TM(s:Sm):∀V y W,(∀f∈V,WT H.rs.length f.ty)->Au H bR res V s=.ok (y,W)->(∀f∈W,WT H.rs.length f.ty)/\W.length<=V.length+Sm.sz s:=by
 induction s using Sm.Cf with
 |_ s x T=>
  intro V y X I h;obtain⟨t,Y,r,W,g,m,L,J,M⟩:=xY h;have D:(∀f∈W,WT H.rs.length f.ty)/\W.length<=V.length+1:=by
   rcases ab1 J with e|⟨_,e⟩;subst e;exact⟨I,by omega⟩;subst e;refine⟨λf g=>?_,by simp⟩;rcases aed.1 g with h|h;exact I f h;rw[agx.1 h];exact agn m
  have o:=Sm.wz s;rcases M with⟨_,b,w,c,l,k,_⟩|⟨_,b,l,_⟩|⟨_,_,rfl,_⟩;obtain⟨j,S⟩:=Ey x D.1 l;obtain⟨B,n⟩:=Ey T j k;exact⟨B,by omega⟩;obtain⟨j,S⟩:=Ey x D.1 l;exact⟨j,by omega⟩;exact⟨D.1,by omega⟩
theorem ab2{y:List Sm}(I:∀f∈V,WT H.rs.length f.ty)(h:nN H bR res V l=.ok (y,X)):(∀f∈X,WT H.rs.length f.ty)/\X.length<=V.length+Sm.eD l:=
 Ey (λs _=>TM s) I h
theorem ab3{e y:E}(h:xX H V e=.ok y):y.k=e.k:=by
 obtain⟨K,t,r,_,_,_,rfl⟩:=qj h;rfl
theorem ab4{l:List E}(h:rF H V l=.ok Y)(g:fy bR k l=true):fy bR k Y=true:=by
 have j:=nH h;unfold fy at g ⊢;rw[j];match l,j,g,h with
 |[],j,g,_=>rw[List.length_nil]at j;rw[List.eq_nil_of_length_eq_zero j];exact g|[e],j,g,h=>
  obtain⟨y,Z,n,_,m,rfl⟩:=nk h;unfold rF at m;cases m;simpa [ab3 n] using g
 |[e,q],j,g,h=>
  obtain⟨y,Z,n,_,m,rfl⟩:=nk h;obtain⟨r,z,p,_,o,rfl⟩:=nk m;unfold rF at o;cases o;simpa [ab3 n] using g
 |e::q::t::l,j,g,h=>
  obtain⟨y,Z,n,_,m,rfl⟩:=nk h;obtain⟨r,z,p,_,o,rfl⟩:=nk m;obtain⟨x,s,v,_,w,rfl⟩:=nk o;simp at g
theorem DK(h:k≠9):As H V k g=rF H V g:=by unfold As;rw[U h]
theorem VT{e:E}:As H V 9 [e]=match xX H V e with|.error x=>.error x|.ok y=>.ok [y]:=by unfold As;rfl
theorem TN(h:fy bR 9 g=true):∃e,g=[e]/\e.k=7:=by
 unfold fy at h;match g,h with
 |[],h=>cases h|[e],h=>exact⟨e,rfl,by simpa using h⟩|_::_::_,h=>cases h
theorem QV{l:List E}(h:As H V k l=.ok Y)(g:fy bR k l=true):fy bR k Y=true:=by
 by_cases p:k=9;subst p;obtain⟨e,rfl,U⟩:=TN g;rw[VT]at h;split at h;cases h;rename_i y j;cases h;unfold fy;simpa [ab3 j] using U;rw[DK p]at h;exact ab4 h g
theorem NU{H:Hd}{V:List Vd}:∀{l Y:List E},(∀e∈l,∀y,xX H V e=.ok y->E.sz y=E.sz e)->rF H V l=.ok Y->E.eD Y=E.eD l
 |[],Y,_,h=>by unfold rF at h;cases h;rfl|e::l,Y,j,h=>by
  obtain⟨y,z,g,_,k,rfl⟩:=nk h;simp only[E.eD,j e aeb y g,NU (λe U=>j e (aee _ U)) k]
theorem ab5(e:E):∀y,xX H V e=.ok y->E.sz y=E.sz e:=by
 induction e using E.Cf with
 |_ e I=>
  intro y h;obtain⟨K,t,r,_,g,_,rfl⟩:=qj h;rw[E.rj e];simp only[E.sz,NU I g]
theorem alb{l y:List E}(h:rF H V l=.ok y):E.eD y=E.eD l:=NU (λe _=>ab5 e) h
theorem alc{l:List E}(h:As H V k l=.ok Y)(g:fy bR k l=true):E.eD Y=E.eD l:=by
 by_cases p:k=9;subst p;obtain⟨e,rfl,U⟩:=TN g;rw[VT]at h;split at h;cases h;rename_i y j;cases h;simp only[E.eD,ab5 e y j];rw[DK p]at h;exact alb h
theorem Ez{H:Hd}{bR:Bool}{res:T3}:∀{l Y:List Sm}{V X:List Vd},(∀s∈l,∀V y W,Au H bR res V s=.ok (y,W)->Sm.sz y<=Sm.sz s)->nN H bR res V l=.ok (Y,X)->Sm.eD Y<=Sm.eD l
 |[],Y,V,X,_,h=>by unfold nN at h;cases h;exact acO _|s::l,Y,V,X,j,h=>by
  obtain⟨y,W,z,g,k,rfl⟩:=pK h;have a:=j s aeb V y W g;have b:=Ez (λs m=>j s (aee _ m)) k;simp only[Sm.eD];omega
theorem ald(s:Sm):∀V y W,Au H bR res V s=.ok (y,W)->Sm.sz y<=Sm.sz s:=by
 induction s using Sm.Cf with
 |_ s x T=>
  intro V y X h;obtain⟨t,Y,r,W,k,m,L,J,M⟩:=xY h;have e:=alc L k;have n:=Sm.wz s;rcases M with⟨g,b,w,c,l,j,rfl⟩|⟨z,b,l,rfl⟩|⟨g,z,rfl,rfl⟩;have B:=Ez x l;have c2:=Ez T j;simp only[Sm.sz];omega;have B:=Ez x l;simp only[Sm.sz,Sm.eD];omega;simp only[Sm.sz,Sm.eD];omega
theorem ale{y:List Sm}(h:nN H bR res V l=.ok (y,X)):Sm.eD y<=Sm.eD l:=Ez (λs _=>ald s) h
theorem zH{H:Hd}:∀{S:List Sg}{fs:List Fc}{bs:List Bd},S.length=fs.length->qJ H S fs=.ok bs->bs.length=fs.length
 |[],[],bs,_,h=>by unfold qJ at h;cases h;rfl|s::S,f::fs,bs,g,h=>by
  unfold qJ at h;split at h;cases h;split at h;cases h;rename_i l N;cases h;simp[zH (by simpa using g) N]
 |[],_::_,_,g,_=>by cases g|_::_,[],_,g,_=>by cases g
theorem FX{H:Hd}{n:Nat}:∀{S:List Sg}{fs:List Fc}{bs:List Bd},qJ H S fs=.ok bs->(∀f∈fs,Sm.eD f.body<=n)->∀b∈bs,Sm.eD b.code<=n
 |[],fs,bs,h,_=>by unfold qJ at h;cases h;simp|_::_,[],bs,h,_=>by unfold qJ at h;cases h;simp|s::S,f::fs,bs,h,j=>by
  unfold qJ at h;split at h;cases h;rename_i c W k;split at h;cases h;rename_i l N;cases h;intro b g;rcases aev.1 g with e|e;subst e;have:=ale k;have:=j f aeb;simp only;omega;exact FX N (λf m=>j f (aee _ m)) b e
theorem QW{H:Hd}(m:H.ok){n:Nat}:∀{S:List Sg}{fs:List Fc}{bs:List Bd},qJ H S fs=.ok bs->(∀s∈S,∀f∈s.ps,WT H.rs.length f.ty)->(∀s∈S,s.ps.length<=n)->(∀f∈fs,Sm.eD f.body<=n)->∀b∈bs,b.vars.length<=n+n
 |[],fs,bs,h,_,_,_=>by unfold qJ at h;cases h;simp|_::_,[],bs,h,_,_,_=>by unfold qJ at h;cases h;simp|s::S,f::fs,bs,h,k,j,g=>by
  unfold qJ at h;split at h;cases h;rename_i c W p;split at h;cases h;rename_i l N;cases h;intro b o;rcases aev.1 o with e|e;subst e;have:=(ab2 (k s aeb) p).2;have:=j s aeb;have:=g f aeb;simp only;omega;exact QW m N (λs h=>k s (aee _ h)) (λs h=>j s (aee _ h)) (λf h=>g f (aee _ h)) b e
end iZ
namespace iZ
open Ax Go V7 iQ
variable{a:Int}{e:E}{f:Nat}{q r:RQ}{T:List Tk}
theorem FY{k n:Int}{N O:List UInt8}{o:Int}{K:List E}:E.sz (Em k n N O o K a)=1+E.eD K:=rfl
theorem uV:E.eD []=0:=rfl
theorem jb:E.eD [e]=E.sz e:=by simp[E.eD]
theorem NW{f:E}:E.eD [e,f]=E.sz e+E.sz f:=by simp[E.eD]
theorem VU:∀l r:List E,E.eD (l++r)=E.eD l+E.eD r
 |[],r=>by simp[E.eD]|e::l,r=>by
  have:=VU l r;simp only[aer,E.eD];omega
theorem VX:∀l r:List Sm,Sm.eD (l++r)=Sm.eD l+Sm.eD r
 |[],r=>by simp[Sm.eD]|e::l,r=>by
  have:=VX l r;simp only[aer,Sm.eD];omega
theorem rm:Sm.eD []=0:=rfl
theorem ago{e:Sm}:Sm.eD [e]=Sm.sz e:=by simp[Sm.eD]
theorem Ke{k:Int}{N O:List UInt8}{o:Int}{g:List E}{B l:List Sm}{ref:Int}:Sm.sz (.mk k N O o g B l a ref)=1+E.eD g+Sm.eD B+Sm.eD l:=rfl
theorem kM:(cx q).at_=q.at_+1:=rfl
theorem agp{d:Int}:(Bc q d).at_=q.at_:=rfl
theorem agq{d:Int}:(Bc q d).fe=q.fe:=rfl
theorem uW(w:zC T q r)(f:r.fe=0):q.at_+1<=r.at_:=by
 rcases w with w|⟨_,w⟩;exact au f w;exact w
theorem QX(T:List Tk):∀f:Nat,(∀n q e r,kP T f n q=some (e,r)->r.fe=0->E.sz e+q.at_<=r.at_)/\(∀n a q e r,rX T f n a q=some (e,r)->r.fe=0->E.sz e+q.at_<=r.at_+E.sz a)/\
  (∀q e r,ua T f q=some (e,r)->r.fe=0->E.sz e+q.at_<=r.at_)/\(∀a q e r,mP T f a q=some (e,r)->r.fe=0->E.sz e+q.at_<=r.at_+E.sz a)/\(∀q e r,qW T f q=some (e,r)->r.fe=0->E.sz e+q.at_<=r.at_)/\
  (∀q e r,uc T f q=some (e,r)->r.fe=0->E.sz e+q.at_<=r.at_)/\(∀a q e r,ud T f a q=some (e,r)->r.fe=0->E.sz e+q.at_<=r.at_)/\(∀q e r,Af T f q=some (e,r)->r.fe=0->E.eD e+q.at_<=r.at_)/\
  (∀l q e r,yF T f l q=some (e,r)->r.fe=0->E.eD e+q.at_<=r.at_+E.eD l)
 |0=>by simp[kP,rX,ua,mP,qW,uc,ud,Af,yF]|f+1=>by
  obtain⟨k,w,D,p,t,B,C,L,v⟩:=QX T f;obtain⟨G,K,O,gB,M,J,N,z,I⟩:=Ev T f;refine⟨λn q e r h fr=>?_,λn a q e r h fr=>?_,λq e r h fr=>?_,λa q e r h fr=>?_,λq e r h fr=>?_,λq e r h fr=>?_,λa q e r h fr=>?_,λq e r h fr=>?_,λl q e r h fr=>?_⟩;unfold kP at h;split at h;exact D _ _ _ h fr;obtain⟨⟨x,X⟩,g,H⟩:=ack.1 h;have F:=(K _ _ _ _ _ H).G7 fr;have:=k _ _ _ _ g F;have:=w _ _ _ _ _ H fr
  (try dsimp only at *);omega
  unfold rX at h;split at h;rename_i c;obtain⟨⟨x,X⟩,g,H⟩:=ack.1 h;have F:=(K _ _ _ _ _ H).G7 fr;have j:=k _ _ _ _ g F;have S:=w _ _ _ _ _ H fr;rw[FY,NW]at S;rw[kM]at j
  (try dsimp only at *);omega
  cases h;omega;unfold ua at h;split at h;obtain⟨⟨x,X⟩,g,H⟩:=ack.1 h;cases H;rw[agq]at fr;have j:=k _ _ _ _ g fr;have S:=uW mQ ((G _ _ _ _ g).G7 fr);rw[FY,jb,agp]
  (try dsimp only at *);omega
  obtain⟨⟨x,X⟩,g,H⟩:=ack.1 h;have F:=(gB _ _ _ _ H).G7 fr;have:=B _ _ _ g F;have:=p _ _ _ _ H fr
  (try dsimp only at *);omega
  unfold mP at h;split at h;rename_i c;have j:=p _ _ _ _ h fr;rw[FY,jb]at j;have S:=(jK (T:=T) (q:=cx q)).le;rw[kM]at S;omega;split at h;obtain⟨⟨x,X⟩,g,H⟩:=ack.1 h;have F:=(gB _ _ _ _ H).G7 fr;have o:=(gb (T:=T) (q:=X) (s:=[93])).G7 F;have j:=k _ _ _ _ g o;have S:=uW mQ ((G _ _ _ _ g).G7 o);have m:=p _ _ _ _ H fr;have y:=(gb (T:=T) (q:=X) (s:=[93])).le;rw[FY,NW]at m
  (try dsimp only at *);omega
  cases h;omega;unfold qW at h;obtain⟨⟨x,X⟩,g,H⟩:=ack.1 h;cases H;have o:=(gb (T:=T) (q:=X) (s:=[41])).G7 fr;have j:=k _ _ _ _ g o;have S:=uW mQ ((G _ _ _ _ g).G7 o);have y:=(gb (T:=T) (q:=X) (s:=[41])).le
  (try dsimp only at *);omega
  unfold uc at h;split at h;cases h;rw[FY,uV,kM];omega;split at h;cases h;rw[FY,uV,kM];omega;split at h;cases h;have:=(qX (T:=T) (q:=cx q)).le;rw[kM]at this;rw[FY,uV];omega;split at h;have:=C _ _ _ _ h fr;rw[kM]at this;omega;split at h;obtain⟨⟨x,X⟩,g,H⟩:=ack.1 h;cases H;have j:=t _ _ _ g fr;rw[kM]at j;rw[FY,jb]
  (try dsimp only at *);omega
  split at h;cases h;have j:=((gJ (T:=T) (q:=cx q) (s:=[40])).trans (gb (s:=[41]))).le;rw[kM]at j;rw[FY,uV];omega;split at h;exact t _ _ _ h fr;split at h;obtain⟨⟨x,X⟩,g,H⟩:=ack.1 h;cases H;have j:=L _ _ _ g fr;have S:=uW rZ ((z _ _ _ g).G7 fr);rw[FY]
  (try dsimp only at *);omega
  cases h;have S:=uW rZ fr;rw[FY,uV];omega;unfold ud at h;split at h;obtain⟨⟨x,X⟩,g,H⟩:=ack.1 h;cases H;have j:=t _ _ _ g fr;have S:=((qX (T:=T) (q:=cx q)).trans (bX (s:=[93]))).le;rw[kM]at S;rw[FY,jb]
  (try dsimp only at *);omega
  cases h;have S:=uW rZ fr;rw[FY,uV];omega;unfold Af at h;split at h;cases h;have j:=((gJ (T:=T) (q:=q) (s:=[40])).trans (gb (s:=[41]))).le;rw[uV];omega;obtain⟨⟨x,X⟩,g,H⟩:=ack.1 h;have F:=(I _ _ _ _ H).G7 fr;have j:=k _ _ _ _ g F;have S:=(gJ (T:=T) (q:=q) (s:=[40])).le;have m:=v _ _ _ _ H fr;rw[jb]at m
  (try dsimp only at *);omega
  unfold yF at h;split at h;obtain⟨⟨x,X⟩,g,H⟩:=ack.1 h;have F:=(I _ _ _ _ H).G7 fr;have j:=k _ _ _ _ g F;rw[kM]at j;have m:=v _ _ _ _ H fr;rw[VU,jb]at m
  (try dsimp only at *);omega
  cases h;have j:=(gb (T:=T) (q:=q) (s:=[41])).le;omega
theorem oR{n:Nat}(h:kP T f n q=some (e,r))(fr:r.fe=0):E.sz e+q.at_<=r.at_:=(QX T f).1 _ _ _ _ h fr
theorem TO{s:Sm}(h:xW T f a q=some (s,r))(fr:r.fe=0):Sm.sz s+q.at_<=r.at_:=by
 unfold xW at h;obtain⟨⟨l,X⟩,j,H⟩:=ack.1 h;dsimp only at H;split at H;obtain⟨⟨t,Y⟩,m,p⟩:=ack.1 H;cases p;have F:=(bX (T:=T) (q:=Y) (s:=[59])).G7 fr;have w:=uW mm fr;have o:=oR m F;have g:=(ku m).G7 F;have W:=uW mm g;have y:=bX.G7 g;by_cases c:l.k=4\/l.k=5\/l.k=6;rw[af c]at W y;have n:=oR j y;rw[af c]at o;by_cases c4:l.k=4;rw[af c4,Ke,jb,rm];(try dsimp only at *);omega;rw[U c4,Ke,NW,rm];(try dsimp only at *);omega;rw[U c]at y;exact au y (nh (by decide));cases H;have F:=(bX).G7 fr;have w:=uW mm fr;by_cases c:jF T X [59]=true/\l.k≠7;rw[af c]at F;exact au F (nh (by decide));rw[U c]at F w;have n:=oR j F;rw[Ke,jb,rm,U c];(try dsimp only at *);omega
theorem Kf(T:List Tk):∀f:Nat,(∀q s r,Ag T f q=some (s,r)->r.fe=0->Sm.sz s+q.at_<=r.at_)/\(∀q s r,mj T f q=some (s,r)->r.fe=0->Sm.eD s+q.at_<=r.at_)/\
  (∀l q s r,rY T f l q=some (s,r)->r.fe=0->Sm.eD s+q.at_<=r.at_+Sm.eD l)
 |0=>by simp[Ag,mj,rY]|f+1=>by
  obtain⟨v,p,R⟩:=Kf T f;obtain⟨K,gB,G⟩:=wm T f;refine⟨λq s r h fr=>?_,λq s r h fr=>?_,λl q s r h fr=>?_⟩;unfold Ag at h;split at h;cases h;have:=((kH (T:=T) (q:=cx q)).trans (bX (s:=[59]))).le;rw[kM]at this;rw[Ke,uV,rm];omega;split at h;obtain⟨⟨x,X⟩,H,g⟩:=ack.1 h;cases g;have F:=bX.G7 fr;have j:=oR H F;have S:=((kH (T:=T) (q:=cx q)).trans (bX (s:=[61]))).le;have o:=(bX (T:=T) (q:=X) (s:=[59])).le;rw[kM]at S;rw[Ke,jb,rm];(try dsimp only at *);omega;split at h;obtain⟨⟨x,X⟩,H,g⟩:=ack.1 h;obtain⟨⟨Y,y⟩,k,m⟩:=ack.1 g;dsimp only at m;split at m;rename_i d;obtain⟨⟨Z,w⟩,V,z⟩:=ack.1 m;cases z;have F:=(gB _ _ _ V).1.G7 fr;have t:y.fe=0:=F;have n:=(gB _ _ _ k).1.G7 t;have j:=oR H n;have S:=p _ _ _ k t;have o:=p _ _ _ V fr;rw[kM]at j o;rw[Ke,jb];(try dsimp only at *);omega;cases m;have n:=(gB _ _ _ k).1.G7 fr;have j:=oR H n;have S:=p _ _ _ k fr;rw[kM]at j;rw[Ke,jb,rm];(try dsimp only at *);omega;split at h;obtain⟨⟨x,X⟩,H,g⟩:=ack.1 h;obtain⟨⟨Y,y⟩,k,m⟩:=ack.1 g;cases m;have n:=(gB _ _ _ k).1.G7 fr;have j:=oR H n;have S:=p _ _ _ k fr;rw[kM]at j;rw[Ke,jb,rm];(try dsimp only at *);omega;split at h;split at h;cases h;have S:=(bX (T:=T) (q:=cx q) (s:=[59])).le;rw[kM]at S;rw[Ke,uV,rm];omega;obtain⟨⟨x,X⟩,H,g⟩:=ack.1 h;cases g;have F:=bX.G7 fr;have j:=oR H F;have o:=(bX (T:=T) (q:=X) (s:=[59])).le;rw[kM]at j;rw[Ke,jb,rm];(try dsimp only at *);omega;split at h;obtain⟨⟨x,X⟩,H,g⟩:=ack.1 h;cases g;have F:=bX.G7 fr;have j:=oR H F;have o:=(bX (T:=T) (q:=X) (s:=[59])).le;rw[kM]at j;rw[Ke,jb,rm];(try dsimp only at *);omega;exact TO h fr;unfold mj at h;have j:=R _ _ _ _ h fr;have S:=(gJ (T:=T) (q:=q) (s:=[123])).le;rw[rm]at j;omega;unfold rY at h;split at h;obtain⟨⟨x,X⟩,H,g⟩:=ack.1 h;have F:=(G _ _ _ _ g).G7 fr;have j:=v _ _ _ H F;have S:=R _ _ _ _ g fr;rw[VX,ago]at S
  (try dsimp only at *);omega
  cases h;have S:=(gb (T:=T) (q:=q) (s:=[125])).le;omega
theorem Kg{s:List Sm}(h:mj T f q=some (s,r))(fr:r.fe=0):Sm.eD s+q.at_<=r.at_:=(Kf T f).2.1 _ _ _ h fr
theorem X9{s:Fc}(h:Be T f q=some (s,r))(fr:r.fe=0):Sm.eD s.body<=r.at_:=by
 unfold Be at h;obtain⟨⟨x,X⟩,g,H⟩:=ack.1 h;dsimp only at H;split at H;obtain⟨⟨y,n⟩,j,l⟩:=ack.1 H;cases l;have:=Kg j fr
 (try dsimp only at *);omega
 obtain⟨⟨y,n⟩,j,l⟩:=ack.1 H;cases l;have:=Kg j fr
 (try dsimp only at *);omega
theorem sq{T:List Tk}:∀(f:Nat)(p:Pg)(q:RQ)(s:Pg)(r:RQ),tD T f p q=some (s,r)->q.at_<=T.length->(q.fe=0->∀g∈p.funcs,Sm.eD g.body<=T.length)->r.fe=0->∀g∈s.funcs,Sm.eD g.body<=T.length
 |0,_,_,_,_,h,_,_=>by simp[tD]at h|f+1,p,q,s,r,h,l,j=>by
  unfold tD at h;split at h;rename_i c;split at h;exact sq f _ _ _ _ h (kZ.ub l) λe=>au e (nh (by decide));split at h;rename_i d;obtain⟨⟨x,X⟩,H,k⟩:=ack.1 h;exact sq f _ _ _ _ k ((He H).1.ub (cg d).2) λe=>j c.1;split at h;rename_i d;exact sq f _ _ _ _ h ((kH.trans bX).ub (cg d).2) λe=>j c.1;split at h;rename_i d;obtain⟨⟨x,X⟩,H,k⟩:=ack.1 h;have m:=(Mm H).1.ub (cg d).2;exact sq f _ _ _ _ k m λe g O=>by
   rcases aed.1 O with O|O;exact j c.1 g O;rw[agx.1 O];have:=X9 H e
   (try dsimp only at *);omega
  exact sq f _ _ _ _ h (kZ.ub l) λe=>au e (nh (by decide));cases h;exact λe=>j e
theorem Ya{x:Pg×Int×Int}(h:zA T f=some x):∀g∈x.1.funcs,Sm.eD g.body<=T.length:=by
 unfold zA at h;obtain⟨⟨p,r⟩,j,H⟩:=ack.1 h;dsimp only at H;split at H;rename_i c;cases H;exact sq f _ _ _ _ j (Nat.zero_le _) (λ_ g O=>by cases O) c;cases H;intro g O;cases O
end iZ
namespace iZ
open Ax Go V7 iQ
def xz(a b:Option Int):Option Int:=match a with
 |some x=>some x|none=>b
theorem yG{a:Option Int}:xz a none=a:=by cases a<;>rfl
theorem sw{a b c:Option Int}:xz (xz a b) c=xz a (xz b c):=by cases a<;>rfl
mutual
def NX(s:List Bool):E->Option Int
 |.mk k _ _ _ _ g a _ ref=>xz (sx s g) (if k=4/\0<=ref/\s[ref.toNat]?=some false then some a else none)
def sx(s:List Bool):List E->Option Int
 |[]=>none|e::l=>xz (NX s e) (sx s l)
end
mutual
def Bj:List Bool->Sm->List Bool×Option Int
 |s,.mk k _ _ _ E B l _ ref=>
  if k=1 then (s.set ref.toNat false,sx s E)
  else if k=2\/k=3 then (if 0<=ref then s.set ref.toNat true else s,sx s E)
  else if k=7 then (s.map λ_=>true,sx s E)
  else if k=6 then (s,xz (sx s E) (mE s B).2)
  else if k=5 then (List.zipWith (λa b=>a&&b) (mE s B).1 (mE s l).1,xz (sx s E) (xz (mE s B).2 (mE s l).2))
  else (s,sx s E)
def mE:List Bool->List Sm->List Bool×Option Int
 |S,[]=>(S,none)
 |S,s::l=>((mE (Bj S s).1 l).1,xz (Bj S s).2 (mE (Bj S s).1 l).2)
end
theorem agr(s:List Bool)(e:E):NX s e=xz (sx s e.aN) (if e.k=4/\0<=e.ref/\s[e.ref.toNat]?=some false then some e.a else none):=by
 obtain⟨k,n,N,O,o,g,a,T,ref⟩:=e
 (conv=>lhs;unfold NX)<;>rfl
theorem Mq(s:List Bool)(e:E)(l:List E):sx s (e::l)=xz (NX s e) (sx s l):=by
 (conv=>lhs;unfold sx)<;>rfl
theorem ags(S:List Bool)(s:Sm):Bj S s =
  if s.k=1 then (S.set s.ref.toNat false,sx S s.es)
  else if s.k=2\/s.k=3 then (if 0<=s.ref then S.set s.ref.toNat true else S,sx S s.es)
  else if s.k=7 then (S.map λ_=>true,sx S s.es)
  else if s.k=6 then (S,xz (sx S s.es) (mE S s.bd).2)
  else if s.k=5 then (List.zipWith (λa b=>a&&b) (mE S s.bd).1 (mE S s.el).1,xz (sx S s.es) (xz (mE S s.bd).2 (mE S s.el).2))
  else (S,sx S s.es):=by
 obtain⟨k,N,O,o,E,B,l,a,ref⟩:=s
 (conv=>lhs;unfold Bj)<;>rfl
theorem Yb(S:List Bool)(s:Sm)(l:List Sm):mE S (s::l)=((mE (Bj S s).1 l).1,xz (Bj S s).2 (mE (Bj S s).1 l).2):=by
 (conv=>lhs;unfold mE)<;>rfl
theorem ab6(s:List Bool):mE s []=(s,none):=by unfold mE;rfl
mutual
theorem QY:∀(S:List Bool)(s:Sm),(Bj S s).1.length=S.length
 |S,.mk k N O o E B l a ref=>by
  unfold Bj;split;simp;split;split<;>simp;split;simp;split
  rfl
  split;simp[Bk S B,Bk S l]
  rfl
theorem Bk:∀(S:List Bool)(l:List Sm),(mE S l).1.length=S.length
 |S,[]=>by unfold mE;rfl|S,s::l=>by
  unfold mE;simp only;rw[Bk (Bj S s).1 l,QY S s]
end
mutual
def CN(n:Nat):E->Prop
 |.mk k _ _ _ _ g _ _ ref=>(k=4->ref<n)/\zJ n g
def zJ(n:Nat):List E->Prop
 |[]=>True|e::l=>CN n e/\zJ n l
end
mutual
def HK(n:Nat):Sm->Prop
 |.mk k _ _ _ E B l _ ref=>zJ n E/\(k=1\/k=2->0<=ref/\ref<n)/\(k=3->ref<n)/\rq n B/\rq n l
def rq(n:Nat):List Sm->Prop
 |[]=>True|s::l=>HK n s/\rq n l
end
theorem xB(n:Nat)(e:E):CN n e↔(e.k=4->e.ref<n)/\zJ n e.aN:=by
 obtain⟨k,_,N,O,o,g,a,ty,ref⟩:=e;unfold CN;exact Iff.rfl
theorem xC(n:Nat)(s:Sm):HK n s↔zJ n s.es/\(s.k=1\/s.k=2->0<=s.ref/\s.ref<n)/\(s.k=3->s.ref<n)/\rq n s.bd/\rq n s.el:=by
 obtain⟨k,N,O,o,E,B,l,a,ref⟩:=s;unfold HK;exact Iff.rfl
theorem mo(n:Nat):∀l:List E,zJ n l↔∀e∈l,CN n e
 |[]=>by simp[zJ]|e::l=>by simp[zJ,mo n l]
theorem wA(n:Nat):∀l:List Sm,rq n l↔∀e∈l,HK n e
 |[]=>by simp[rq]|e::l=>by simp[rq,wA n l]
variable{n m:Nat}{H:Hd}{V:List Vd}{res:T3}{bR:Bool}
theorem Yc(h:n<=m)(e:E):CN n e->CN m e:=by
 induction e using E.Cf with
 |_ e I=>
  rw[xB,xB,mo,mo];exact λ⟨H,g⟩=>⟨λj=>by have:=H j;omega,λx l=>I x l (g x l)⟩
theorem Cg(h:n<=m)(l:List E):zJ n l->zJ m l:=by
 rw[mo,mo];exact λH x g=>Yc h x (H x g)
theorem Mr(h:n<=m)(s:Sm):HK n s->HK m s:=by
 induction s using Sm.Cf with
 |_ s X T=>
  rw[xC,xC];rintro⟨g,k,o,H,V⟩;rw[wA]at H V ⊢;refine⟨Cg h _ g,λj=>?_,λj=>?_,λx l=>X x l (H x l),?_⟩;have:=k j;omega;have:=o j;omega;rw[wA];exact λx l=>T x l (V x l)
theorem Yd(h:n<=m)(l:List Sm):rq n l->rq m l:=by
 rw[wA,wA];exact λH x g=>Mr h x (H x g)
theorem Ch{s:List UInt8}:∀{l:List Vd}{i k:Nat}{t:T3},jj s i l=some (k,t)->k<i+l.length
 |[],_,_,_,h=>by cases h|f::l,i,k,t,h=>by
  unfold jj at h;split at h;cases h;simp;have:=Ch h;simp only[aeo];omega
theorem ab7{s:List UInt8}{t:T3}{r:Int}(h:ue H V s=some (t,r)):r<V.length:=by
 unfold ue at h;split at h;rename_i e;cases h;have:=Ch e;omega;split at h;cases h;omega;cases h
theorem VZ(e:E):∀y,xX H V e=.ok y->CN V.length y:=by
 induction e using E.Cf with
 |_ e I=>
  intro y h;obtain⟨K,t,r,_,l,j,rfl⟩:=qj h;rw[xB];refine⟨λg=>?_,?_⟩;have g:e.k=4:=g;show r<_;unfold mR at j;rw[U (by omega),U (by omega),U (by omega),af g]at j;exact ab7 j;show zJ _ K;rw[mo];exact jy l I
theorem EA{H:Hd}{bR:Bool}{res:T3}:∀{l Y:List Sm}{V X:List Vd},(∀s∈l,∀V y W,Au H bR res V s=.ok (y,W)->V.length<=W.length/\HK W.length y)->nN H bR res V l=.ok (Y,X)->V.length<=X.length/\rq X.length Y
 |[],Y,V,X,_,h=>by
  unfold nN at h;cases h;exact⟨acO _,by simp[rq]⟩
 |s::l,Y,V,X,j,h=>by
  obtain⟨y,W,z,k,m,rfl⟩:=pK h;obtain⟨o,S⟩:=j s aeb V y W k;obtain⟨B,g⟩:=EA (λt n=>j t (aee _ n)) m;refine⟨by omega,?_⟩;unfold rq;exact⟨Mr B _ S,g⟩
theorem aqG{W:List Vd}{k:Int}{N:List UInt8}{g:List E}{t:T3}{r:Int}(h:pA H res V k N g t=some (r,W)):(k=1\/k=2->r=V.length)/\(k=3->r<V.length):=by
 unfold pA at h;split at h;rename_i c;split at h;cases h;cases h;exact⟨λ_=>rfl,λh=>by omega⟩;rename_i n;split at h;rename_i c;split at h;split at h;cases h;cases h;exact⟨λ_=>rfl,λh=>by omega⟩;cases h;rename_i j;split at h;rename_i c;split at h;rename_i u R e;split at h;cases h;exact⟨λh=>by omega,λ_=>ab7 e⟩;cases h;cases h;rename_i l;exact⟨λh=>by omega,λh=>by omega⟩
theorem alf{k:Int}{j Y:List E}(h:As H V k j=.ok Y):zJ V.length Y:=by
 unfold As at h;rw[mo];split at h;split at h;rename_i e l;cases g:xX H V e with
 |error a=>rw[g]at h;cases h|ok y=>
  rw[g]at h;cases h;intro z n;rw[agx.1 n];exact VZ e y g
 cases h;simp;exact jy h λe _ y m=>VZ e y m
theorem agt(s:Sm):∀V y X,Au H bR res V s=.ok (y,X)->V.length<=X.length/\HK X.length y:=by
 induction s using Sm.Cf with
 |_ s v T=>
  intro V y X h;obtain⟨t,Y,r,W,K,N,L,J,G⟩:=xY h;have M:=alf L;have g:V.length<=W.length:=by
   rcases ab1 J with e|⟨_,e⟩;rw[e];exact acO _;rw[e];simp
  have o:=aqG J;have w:s.k=1\/s.k=2->0<=r/\r<(W.length:Int):=λj=>by
   rcases ab1 J with e|⟨_,e⟩;have q:=o.1 j;have:W.length=V.length+1:=by
    unfold pA at J;rcases j with j|j;rw[af j]at J;split at J;cases J;cases J;simp;rw[U (by omega),af j]at J;split at J;split at J;cases J;cases J;simp;cases J
   omega;have q:=o.1 j;rw[e,q];simp;omega
  have p:s.k=3->r<(W.length:Int):=λj=>by have:=o.2 j;omega
  rcases G with⟨D,b,I,c,n,F,rfl⟩|⟨E,b,n,rfl⟩|⟨D,E,rfl,rfl⟩;obtain⟨z,S⟩:=EA (λx m V y W l=>v x m V y W l) n;obtain⟨B,C⟩:=EA (λx m V y W l=>T x m V y W l) F;refine⟨by omega,(xC _ _).2 ⟨Cg (by omega) _ M,λj=>?_,λj=>?_,Yd B _ S,C⟩⟩;have j:s.k=1\/s.k=2:=j;omega;have j:s.k=3:=j;omega;obtain⟨z,S⟩:=EA (λx m V y W l=>v x m V y W l) n;refine⟨by omega,(xC _ _).2 ⟨Cg (by omega) _ M,λj=>?_,λj=>?_,S,by simp[Sm.el,rq]⟩⟩;have j:s.k=1\/s.k=2:=j;omega;have j:s.k=3:=j;omega;exact⟨g,(xC _ _).2 ⟨Cg g _ M,w,p,by simp[Sm.bd,rq],by simp[Sm.el,rq]⟩⟩
theorem agu{l Y:List Sm}{X:List Vd}(h:nN H bR res V l=.ok (Y,X)):V.length<=X.length/\rq X.length Y:=
 EA (λs _ V y W=>agt s V y W) h
def su0(g:Sg)(b:Bd):List Bool:=acp g.ps.length true++acp (b.vars.length-g.ps.length) false
def Lq:List Sg->List Bd->Option Int
 |s::S,b::bs=>xz (mE (su0 s b) b.code).2 (Lq S bs)|_,_=>none
theorem EB{H:Hd}:∀{S:List Sg}{fs:List Fc}{bs:List Bd},qJ H S fs=.ok bs->∀(k:Nat)(g:k<S.length)(j:k<bs.length),S[k].ps.length<=bs[k].vars.length/\rq bs[k].vars.length bs[k].code
 |[],_,bs,h,k,g,_=>by simp at g|s::S,[],bs,h,k,_,j=>by
  unfold qJ at h;cases h;simp at j
 |s::S,f::fs,bs,h,k,g,j=>by
  unfold qJ at h;split at h;cases h;rename_i c W m;split at h;cases h;rename_i l n;cases h;match k with
  |0=>exact agu m|k+1=>
   have:=EB n k (by simpa using g) (by simpa using j);simpa using this
end iZ
