/- Part of a proof. -/
import Derived.Test.YtpnadocbfbbboaaGreatA6

open List renaming findIdx?_eq_some_iff_getElem->adx,getElem?_eq_none->adi,mem_append->abw,mem_singleton->aem,sizeOf_lt_of_mem->ahU,length_cons->abr,mem_cons->ac1,mem_cons_self->acz,mem_cons_of_mem->ac0,cons_append->acA,replicate->aak
open Option renaming bind_eq_some_iff->aai
open Nat renaming le_refl->aau,lt_of_le_of_lt->aiy
open Int renaming le_refl->ahh
open Bool renaming and_eq_true->aac,or_eq_true->acJ
namespace V7
open Ax Go
def iQ:AV->Bool
 |.k8 _ _=>false|_=>true
variable{v:AV}{sz:Nat}{p:List AV->Bool}{α:Type}{l:List (List UInt8)}{s:List UInt8}
theorem jt(h:iQ v=true)(hs:aN v=true):v.ai=v:=by cases v<;>simp_all [iQ,aN,AV.ai]
@[simp]theorem KN(v:AV):iQ v.ai=true:=by cases v<;>simp[iQ,AV.ai]
def mq(sz:Nat)(p:List AV->Bool)(v:AV):Bool:=iQ v&&cJ sz v&&(bt v).all p
theorem rQ(h:mq sz p v=true):cJ sz v=true:=by simp only[mq,aac]at h;exact h.1.2
theorem zF(h:mq sz p v=true):∀r∈bt v,p r=true:=by simp only[mq,aac,List.all_eq_true]at h;exact h.2
theorem yx(h:mq sz p v=true):v.ai=v:=by
 have h2:=pW (rQ h);simp only[mq,aac]at h;exact jt h.1.1 h2
theorem AB{d:List AV->α}{e:α->List AV}(h:mq sz p v=true)(he:∀r,p r=true->r=e (d r)):bt v=((bt v).map d).map e:=by
 rw[List.map_map];conv=>lhs;rw[<-List.map_id (bt v)]
 exact List.map_congr_left λr hr=>he r (zF h r hr)
def VO(n:Int):Bool:=decide (-9223372036854775808<=n)&&decide (n<=9223372036854775807)
structure T3 where
 b:Int
 r:Int
 d:Int
 deriving DecidableEq
abbrev T0:T3:=⟨0,0,0⟩
@[simp]def T3.cells(t:T3):List AV:=[.int .i64 t.b,.int .i64 t.r,.int .i64 t.d]
def agx(r:List AV):Bool:=match r with | [.int .i64 a,.int .i64 b,.int .i64 c]=>VO a&&VO b&&VO c|_=>false
def dT(r:List AV):T3:=match r with | [.int .i64 a,.int .i64 b,.int .i64 c]=>⟨a,b,c⟩|_=>T0
def agy(v:AV):Bool:=mq 3 agx v
def dTs(v:AV):List T3:=(bt v).map dT
@[simp]theorem agz(v:AV):dTs v.ai=dTs v:=by simp[dTs]
@[simp]theorem abU(h:agy v=true):cJ 3 v=true:=rQ h
@[simp]theorem ala(h:agy v=true):aN v=true:=pW (abU h)
def ON(r:List AV):Bool:=match r with | [.str _]=>true|_=>false
def dSt(r:List AV):List UInt8:=match r with | [.str s]=>s|_=>[]
def qT(v:AV):Bool:=mq 1 ON v
def eU(v:AV):List (List UInt8):=(bt v).map dSt
theorem Up(r:List AV)(h:ON r=true):r=[.str (dSt r)]:=by
 unfold ON at h;split at h
 rfl
 cases h
theorem KO(h:qT v=true):bt v=(eU v).map λs=>[.str s]:=AB h Up
theorem xI(h:qT v=true):v.ai=v:=yx h
@[simp]theorem mI(v:AV):eU v.ai=eU v:=by simp[eU]
@[simp]theorem OO(h:qT v=true):cJ 1 v=true:=rQ h
@[simp]theorem yy(h:qT v=true):aN v=true:=pW (OO h)
def C5{α:Type}(p:α->Bool)(l:List α)(k:Nat):Prop:=∀j (h:j<l.length),j<k->p l[j]=false
theorem rR{p:α->Bool}{l:List α}:C5 p l 0:=λ_ _ h=>aU h (by omega)
theorem rS{p:α->Bool}{l:List α}{k:Nat}(h:C5 p l k)(h1:k<l.length)(hp:p l[k]=false):C5 p l (k+1):=by
 intro j j1 hj;rcases Nat.lt_or_ge j k with wF|wF;exact h j j1 wF;have:j=k:=by omega
 subst this;exact hp
def wQ(l:List (List UInt8))(s:List UInt8):Int:=match l.findIdx? λx=>decide (x=s) with
 |some k=>k|none=>-1
theorem IN{k:Nat}(h:C5 (λx=>decide (x=s)) l k)(hk:k<l.length)(e:l[k]=s):wQ l s=k:=by
 have:l.findIdx? (λx=>decide (x=s))=some k:=by
  rw[adx];refine⟨hk,by simpa using e,λj hj=>?_⟩;have:=h j (by omega) hj;simpa using this
 unfold wQ;rw[this]
theorem BP(h:C5 (λx=>decide (x=s)) l l.length):wQ l s = -1:=by
 have:l.findIdx? (λx=>decide (x=s))=none:=by
  rw[List.findIdx?_eq_none_iff];intro x hx;obtain⟨j,hj,rfl⟩:=List.mem_iff_getElem.1 hx;exact h j hj hj
 unfold wQ;rw[this]
theorem OP(l:List (List UInt8))(s:List UInt8):wQ l s = -1\/∃k:Nat,wQ l s=k/\k<l.length:=by
 unfold wQ;cases e:l.findIdx? λx=>decide (x=s) with
 |none=>exact .inl rfl|some k=>exact .inr ⟨k,rfl,(adx.1 e).1⟩
def cB(l:List (List UInt8))(s:List UInt8)(d:Int):T3×Bool:=
 if d<0\/3<d then (T0,false) else
 if s=[105,110,116] then (⟨1,0,d⟩,true) else
 if s=[98,111,111,108] then (⟨2,0,d⟩,true) else
 if wQ l s<0 then (T0,false) else (⟨3,wQ l s,d⟩,true)
def BQ(t:T3):Bool:=decide (t.b=3)||decide (0<t.d)
structure PD where
 name:List UInt8
 on:List UInt8
 od:Int
 at_:Int
def PD.cells(p:PD):List AV:=[.str p.name,.str p.on,.int .i64 p.od,.int .i64 p.at_]
def OQ(r:List AV):Bool:=match r with | [.str _,.str _,.int .i64 d,.int .i64 a]=>VO d&&VO a|_=>false
def dP(r:List AV):PD:=match r with | [.str n,.str o,.int .i64 d,.int .i64 a]=>⟨n,o,d,a⟩|_=>⟨[],[],0,0⟩
theorem Uq(r:List AV)(h:OQ r=true):r=(dP r).cells:=by
 unfold OQ at h;split at h
 rfl
 cases h
def BR(v:AV):Bool:=mq 4 OQ v
def jg(v:AV):List PD:=(bt v).map dP
theorem OR(h:BR v=true):bt v=(jg v).map PD.cells:=AB h Uq
theorem pY(h:BR v=true):v.ai=v:=yx h
@[simp]theorem agA(v:AV):jg v.ai=jg v:=by simp[jg]
@[simp]theorem abV(h:BR v=true):cJ 4 v=true:=rQ h
@[simp]theorem uu(h:BR v=true):aN v=true:=pW (abV h)
structure CR where
 name:List UInt8
 jo:AV
 at_:Int
def CR.cells(r:CR):List AV:=[.str r.name,r.jo,.int .i64 r.at_]
def Hr(r:List AV):Bool:=match r with | [.str _,f,.int .i64 a]=>BR f&&VO a|_=>false
def dCR(r:List AV):CR:=match r with | [.str s,f,.int .i64 a]=>⟨s,f,a⟩|_=>⟨[],.af,0⟩
theorem Ur(r:List AV)(h:Hr r=true):r=(dCR r).cells:=by
 unfold Hr at h;split at h
 rfl
 cases h
def Cy(v:AV):Bool:=mq 3 Hr v
def cx(v:AV):List CR:=(bt v).map dCR
theorem E4(h:Cy v=true):bt v=(cx v).map CR.cells:=AB h Ur
theorem BS(h:Cy v=true):∀r∈cx v,BR r.jo=true:=by
 intro r hr;obtain⟨x,hx,rfl⟩:=List.mem_map.1 hr;have:=zF h x hx;unfold Hr at this;unfold dCR;split at this;simp only[aac]at this;exact this.1;cases this
theorem AD(h:Cy v=true):v.ai=v:=yx h
@[simp]theorem aej(v:AV):cx v.ai=cx v:=by simp[cx]
@[simp]theorem XI(h:Cy v=true):cJ 3 v=true:=rQ h
@[simp]theorem Dv(h:Cy v=true):aN v=true:=pW (XI h)
structure FN where
 name:List UInt8
 params:AV
 cP:Bool
 on:List UInt8
 od:Int
 body:AV
 at_:Int
def FN.cells(f:FN):List AV:=[.str f.name,f.params,.bool f.cP,.str f.on,.int .i64 f.od,f.body,.int .i64 f.at_]
def Hs(r:List AV):Bool:=match r with | [.str _,p,.bool _,.str _,.int .i64 d,b,.int .i64 a]=>BR p&&iQ b&&aN b&&VO d&&VO a|_=>false
def dFN(r:List AV):FN:=match r with | [.str n,p,.bool h,.str o,.int .i64 d,b,.int .i64 a]=>⟨n,p,h,o,d,b,a⟩|_=>⟨[],.af,false,[],0,.af,0⟩
theorem Us(r:List AV)(h:Hs r=true):r=(dFN r).cells:=by
 unfold Hs at h;split at h
 rfl
 cases h
def Cz(v:AV):Bool:=mq 7 Hs v
def eu(v:AV):List FN:=(bt v).map dFN
theorem KP(h:Cz v=true):bt v=(eu v).map FN.cells:=AB h Us
theorem Ht(h:Cz v=true):∀r∈eu v,BR r.params=true/\iQ r.body=true/\aN r.body=true:=by
 intro r hr;obtain⟨x,hx,rfl⟩:=List.mem_map.1 hr;have:=zF h x hx;unfold Hs at this;unfold dFN;split at this;simp only[aac]at this;exact⟨this.1.1.1.1,this.1.1.1.2,this.1.1.2⟩;cases this
theorem AE(h:Cz v=true):v.ai=v:=yx h
@[simp]theorem aek(v:AV):eu v.ai=eu v:=by simp[eu]
@[simp]theorem XJ(h:Cz v=true):cJ 7 v=true:=rQ h
@[simp]theorem Dw(h:Cz v=true):aN v=true:=pW (XJ h)
structure GD where
 bJ:AV
 aI:AV
 funcs:AV
def GD.cells(p:GD):List AV:=[p.bJ,p.aI,p.funcs]
structure GD.ok (p:GD):Prop where
 bJ:Cy p.bJ=true
 aI:BR p.aI=true
 funcs:Cz p.funcs=true
def jh(l:List CR):List (List UInt8):=l.map (·.name)
def BT(rs:List (List UInt8))(p:PD):List AV:=.str p.name::(cB rs p.on p.od).1.cells
def dY(rs:List (List UInt8))(l:List PD):List (List AV):=l.map (BT rs)
def xJ(a b:Option Int):Option Int:=match a with|some x=>some x|none=>b
def pE(rs:List (List UInt8))(before:List PD)(p:PD):Option Int:=if before.any (λq=>decide (q.name=p.name)) || !(cB rs p.on p.od).2 then some p.at_ else none
def dy{α:Type}(nB:List α->α->Option Int)(l:List α):Nat->Option Int
 |0=>none|k+1=>xJ (dy nB l k) (match l[k]? with|some x=>nB (l.take k) x|none=>none)
def zf(a:Option Int):List AV:=match a with|some x=>[.int .i64 3,.int .i64 x]|none=>[.int .i64 0,.int .i64 0]
end V7
namespace kN
open Ax Go V7
structure Tk where
 k:Int
 t:List UInt8
 n:Int
 a:Int
def Tk.cells(x:Tk):List AV:=[.int .i64 x.k,.str x.t,.int .i64 x.n,.int .i64 x.a]
abbrev Tk0:Tk:=⟨0,[],0,0⟩
structure TL (l:AV)(T:List Tk):Prop where
 sz:cJ 4 l=true
 rows:bt l=T.map Tk.cells
 len:T.length<1000000000
theorem TL.sl{l:AV}{T:List Tk}(h:TL l T):aN l=true:=pW h.sz
structure RQ where
 at_:Nat
 op:Int
 fe:Int
 fa:Int
def RQ.aX(l:AV)(q:RQ):dA:=.rows 0 5 [[l,.int .i64 q.at_,.int .i64 q.op,.int .i64 q.fe,.int .i64 q.fa]]
def gh(T:List Tk)(q:RQ):Tk:=T.getD q.at_ Tk0
def jN(T:List Tk)(q:RQ)(e:Int):RQ:=if q.fe=0 then ⟨q.at_,q.op,e,(gh T q).a⟩ else q
def zG(s:List UInt8):Int:=match s with|c::_=>if 97<=c.toNat/\c.toNat<=122 then 3 else 4 | []=>4
def iZ(T:List Tk)(q:RQ)(s:List UInt8):Bool:=decide (q.fe=0)&&decide ((gh T q).k=zG s)&&decide ((gh T q).t=s)
def cv(q:RQ):RQ:=⟨q.at_+1,q.op,q.fe,q.fa⟩
def dZ(T:List Tk)(q:RQ)(s:List UInt8):RQ:=if iZ T q s then cv q else jN T q 2
def xK(q:RQ)(d:Int):RQ:=⟨q.at_,IntKind.i64.wrap (q.op+d),q.fe,q.fa⟩
def ki(T:List Tk)(q:RQ)(s:List UInt8):RQ:=if iZ T q s&&decide (50<=q.op) then jN T q 4 else xK (dZ T q s) 1
def mJ(T:List Tk)(q:RQ)(s:List UInt8):RQ:=xK (dZ T q s) (-1)
def eW(T:List Tk)(q:RQ):List UInt8×RQ:=if q.fe=0/\(gh T q).k=1 then ((gh T q).t,cv q) else ([],jN T q 2)
def vZ(T:List Tk)(q:RQ)(s:List UInt8):Nat->RQ
 |0=>q|k+1=>dZ T (vZ T q s k) s
def KQ(T:List Tk):Nat->Nat->RQ->Nat×RQ
 |0,d,q=>(d,q)
 |k+1,d,q=>if iZ T q [91] then KQ T k (d+1) (cv q) else (d,q)
def ofN(T:List Tk)(q:RQ):List UInt8×RQ:=if iZ T q [105,110,116]||iZ T q [98,111,111,108] then ((gh T q).t,cv q) else eW T q
def zg(T:List Tk)(q:RQ):(List UInt8×Int)×RQ:=
 if iZ T (KQ T 3 0 q).2 [91] then (([],0),jN T (KQ T 3 0 q).2 4)
 else (((ofN T (KQ T 3 0 q).2).1,((KQ T 3 0 q).1:Int)),vZ T (ofN T (KQ T 3 0 q).2).2 [93] (KQ T 3 0 q).1)
def aJ(sz:Nat)(rows:List (List AV)):AV:=(bK sz rows).ai
inductive E where
 |mk (k n:Int) (nm on:List UInt8) (od:Int) (aG:List E) (a:Int) (ty:T3) (ref:Int)
def E.k:E->Int|.mk k _ _ _ _ _ _ _ _=>k
def E.n:E->Int|.mk _ n _ _ _ _ _ _ _=>n
def E.nm:E->List UInt8|.mk _ _ nm _ _ _ _ _ _=>nm
def E.on:E->List UInt8|.mk _ _ _ on _ _ _ _ _=>on
def E.od:E->Int|.mk _ _ _ _ od _ _ _ _=>od
def E.aG:E->List E|.mk _ _ _ _ _ aG _ _ _=>aG
def E.a:E->Int|.mk _ _ _ _ _ _ a _ _=>a
def E.ty:E->T3|.mk _ _ _ _ _ _ _ ty _=>ty
def E.ref:E->Int|.mk _ _ _ _ _ _ _ _ ref=>ref
mutual
def E.aF:E->List AV
 |.mk k n nm on od aG a ty ref=>[.int .i64 k,.int .i64 n,.str nm,.str on,.int .i64 od,aJ 11 (E.rows aG),.int .i64 a,.int .i64 ty.b,.int .i64 ty.r,.int .i64 ty.d,.int .i64 ref]
def E.rows:List E->List (List AV)
 |[]=>[]
 |e::l=>e.aF::E.rows l
end
def Em(k n:Int)(nm on:List UInt8)(od:Int)(aG:List E)(a:Int):E:=.mk k n nm on od aG a T0 0
def aT(l:List E):AV:=aJ 11 (E.rows l)
inductive Sm where
 |mk (k:Int) (nm on:List UInt8) (od:Int) (es:List E) (bd el:List Sm) (a ref:Int)
def Sm.k:Sm->Int|.mk k _ _ _ _ _ _ _ _=>k
def Sm.nm:Sm->List UInt8|.mk _ nm _ _ _ _ _ _ _=>nm
def Sm.on:Sm->List UInt8|.mk _ _ on _ _ _ _ _ _=>on
def Sm.od:Sm->Int|.mk _ _ _ od _ _ _ _ _=>od
def Sm.es:Sm->List E|.mk _ _ _ _ es _ _ _ _=>es
def Sm.bd:Sm->List Sm|.mk _ _ _ _ _ bd _ _ _=>bd
def Sm.el:Sm->List Sm|.mk _ _ _ _ _ _ el _ _=>el
def Sm.a:Sm->Int|.mk _ _ _ _ _ _ _ a _=>a
def Sm.ref:Sm->Int|.mk _ _ _ _ _ _ _ _ ref=>ref
mutual
def Sm.aF:Sm->List AV
 |.mk k nm on od es bd el a ref=>[.int .i64 k,.str nm,.str on,.int .i64 od,aT es,aJ 9 (Sm.rows bd),aJ 9 (Sm.rows el),.int .i64 a,.int .i64 ref]
def Sm.rows:List Sm->List (List AV)
 |[]=>[]
 |s::l=>s.aF::Sm.rows l
end
def bp(l:List Sm):AV:=aJ 9 (Sm.rows l)
structure Rc where
 name:List UInt8
 jo:List PD
 a:Int
def Rc.aF(r:Rc):List AV:=[.str r.name,aJ 4 (r.jo.map PD.cells),.int .i64 r.a]
structure Fc where
 name:List UInt8
 params:List PD
 cP:Bool
 on:List UInt8
 od:Int
 body:List Sm
 a:Int
def Fc.aF(f:Fc):List AV:=[.str f.name,aJ 4 (f.params.map PD.cells),.bool f.cP,.str f.on,.int .i64 f.od,bp f.body,.int .i64 f.a]
structure Pg where
 bJ:List Rc
 aI:List PD
 funcs:List Fc
def Pg.aF(p:Pg):List AV:=[aJ 3 (p.bJ.map Rc.aF),aJ 4 (p.aI.map PD.cells),aJ 7 (p.funcs.map Fc.aF)]
variable{l:List Sm}{sz:Nat}{r:List (List AV)}
@[simp]theorem bI:aN (aJ sz r)=true:=by simp[aJ]
@[simp]theorem aW:bt (aJ sz r)=r:=by simp[aJ]
@[simp]theorem bU:(aJ sz r).ai=aJ sz r:=by
 unfold aJ bK;split<;>simp[AV.ai]
@[simp]theorem Hu:(aJ sz r).dj=true:=cy bI
@[simp]theorem Hv:(aJ sz r).aB=true:=cI bI
@[simp]theorem bz{l:List E}:aN (aT l)=true:=bI
@[simp]theorem bu{l:List E}:(aT l).ai=aT l:=bU
@[simp]theorem agC{l:List E}:(aT l).dj=true:=Hu
@[simp]theorem agD{l:List E}:(aT l).aB=true:=Hv
@[simp]theorem bL:aN (bp l)=true:=bI
@[simp]theorem bq:(bp l).ai=bp l:=bU
@[simp]theorem agE:(bp l).dj=true:=Hu
@[simp]theorem agF:(bp l).aB=true:=Hv
@[simp]theorem agG:aJ sz []=.af:=rfl
@[simp]theorem ael{r:List AV}{l:List (List AV)}:aJ sz (r::l)=.eE sz (r::l):=rfl
theorem iC:∀l:List E,E.rows l=l.map E.aF
 |[]=>by simp[E.rows]|e::l=>by simp[E.rows,iC l]
theorem kV:∀l:List Sm,Sm.rows l=l.map Sm.aF
 |[]=>by simp[Sm.rows]|e::l=>by simp[Sm.rows,kV l]
theorem rq:aT []=.af:=by simp[aT,E.rows,aJ,kq,AV.ai]
theorem E.aE(e:E):e.aF=[.int .i64 e.k,.int .i64 e.n,.str e.nm,.str e.on,.int .i64 e.od,aT e.aG,.int .i64 e.a,.int .i64 e.ty.b,.int .i64 e.ty.r,.int .i64 e.ty.d,.int .i64 e.ref]:=by
 cases e;simp[E.aF,E.k,E.n,E.nm,E.on,E.od,E.aG,E.a,E.ty,E.ref,aT]
theorem Sm.aE(s:Sm):s.aF=[.int .i64 s.k,.str s.nm,.str s.on,.int .i64 s.od,aT s.es,bp s.bd,bp s.el,.int .i64 s.a,.int .i64 s.ref]:=by
 cases s;simp[Sm.aF,Sm.k,Sm.nm,Sm.on,Sm.od,Sm.es,Sm.bd,Sm.el,Sm.a,Sm.ref,bp]
def fz:Nat->List (List UInt8×Int)
 |0=>[([124,124],24)]
 |1=>[([38,38],23)]
 |2=>[([60],19),([60,61],20),([61,61],21),([33,61],22)]
 |3=>[([43],14),([45],15)]
 |_=>[([42],16),([47],17),([37],18)]
def iA:List (List UInt8×Int)->List UInt8->Int
 |[],_=>0|(s,k)::r,t=>if s=t then k else iA r t
def v7(n:Nat)(c:Tk):Int:=if c.k=4 then iA (fz n) c.t else 0
mutual
def jO(T:List Tk):Nat->Nat->RQ->Option (E×RQ)
 |0,_,_=>none|f+1,n,q=>if n=5 then qJ T f q else (jO T f (n+1) q).bind λx=>pF T f n x.1 x.2
def pF(T:List Tk):Nat->Nat->E->RQ->Option (E×RQ)
 |0,_,_,_=>none|f+1,n,a,q=>if q.fe=0/\v7 n (gh T q)≠0 then
   (jO T f (n+1) (cv q)).bind λx=>pF T f n (Em (v7 n (gh T q)) 0 [] [] 0 [a,x.1] (gh T q).a) x.2
  else some (a,q)
def qJ(T:List Tk):Nat->RQ->Option (E×RQ)
 |0,_=>none|f+1,q=>if iZ T q [45]||iZ T q [33] then
   (jO T f 5 (ki T q (gh T q).t)).bind λx=>some (Em (if iZ T q [45] then 12 else 13) 0 [] [] 0 [x.1] (gh T q).a,xK x.2 (-1))
  else (qK T f q).bind λx=>kW T f x.1 x.2
def kW(T:List Tk):Nat->E->RQ->Option (E×RQ)
 |0,_,_=>none|f+1,a,q=>if iZ T q [46] then kW T f (Em 5 0 (eW T (cv q)).1 [] 0 [a] (gh T q).a) (eW T (cv q)).2
  else if iZ T q [91] then (jO T f 0 (ki T q [91])).bind λx=>kW T f (Em 6 0 [] [] 0 [a,x.1] (gh T q).a) (mJ T x.2 [93])
  else some (a,q)
def oo(T:List Tk):Nat->RQ->Option (E×RQ)
 |0,_=>none|f+1,q=>(jO T f 0 (ki T q [40])).bind λx=>some (x.1,mJ T x.2 [41])
def qK(T:List Tk):Nat->RQ->Option (E×RQ)
 |0,_=>none|f+1,q=>
  if q.fe=0/\(gh T q).k=2 then some (Em 1 (gh T q).n [] [] 0 [] (gh T q).a,cv q)
  else if iZ T q [116,114,117,101]||iZ T q [102,97,108,115,101] then some (Em 2 (if (gh T q).t=[116,114,117,101] then 1 else 0) [] [] 0 [] (gh T q).a,cv q)
  else if iZ T q [110,117,108,108] then some (Em 3 0 [] (zg T (cv q)).1.1 (zg T (cv q)).1.2 [] (gh T q).a,(zg T (cv q)).2)
  else if iZ T q [110,101,119] then qL T f (gh T q).a (cv q)
  else if iZ T q [108,101,110] then (oo T f (cv q)).bind λx=>some (Em 10 0 [] [] 0 [x.1] (gh T q).a,x.2)
  else if iZ T q [114,101,97,100] then some (Em 11 0 [] [] 0 [] (gh T q).a,mJ T (ki T (cv q) [40]) [41])
  else if iZ T q [40] then oo T f q
  else if iZ T (eW T q).2 [40] then (wG T f (eW T q).2).bind λx=>some (Em 7 0 (eW T q).1 [] 0 x.1 (gh T q).a,x.2)
  else some (Em 4 0 (eW T q).1 [] 0 [] (gh T q).a,(eW T q).2)
def qL(T:List Tk):Nat->Int->RQ->Option (E×RQ)
 |0,_,_=>none|f+1,a,q=>if iZ T q [91] then
   (oo T f (dZ T (zg T (cv q)).2 [93])).bind λx=>some (Em 9 0 [] (zg T (cv q)).1.1 (zg T (cv q)).1.2 [x.1] a,x.2)
  else some (Em 8 0 [] (eW T q).1 0 [] a,(eW T q).2)
def wG(T:List Tk):Nat->RQ->Option (List E×RQ)
 |0,_=>none|f+1,q=>if iZ T (ki T q [40]) [41] then some ([],mJ T (ki T q [40]) [41])
  else (jO T f 0 (ki T q [40])).bind λx=>uZ T f [x.1] x.2
def uZ(T:List Tk):Nat->List E->RQ->Option (List E×RQ)
 |0,_,_=>none|f+1,l,q=>if iZ T q [44] then (jO T f 0 (cv q)).bind λx=>uZ T f (l++[x.1]) x.2
  else some (l,mJ T q [41])
end
def uv(T:List Tk)(f:Nat)(a:Int)(q:RQ):Option (Sm×RQ):=
 (jO T f 0 q).bind λx=>if iZ T x.2 [61] then
   (jO T f 0 (dZ T (if x.1.k=4\/x.1.k=5\/x.1.k=6 then x.2 else jN T x.2 2) [61])).bind λy=>
    some (if x.1.k=4 then .mk 3 x.1.nm [] 0 [y.1] [] [] a 0 else .mk 4 [] [] 0 [x.1,y.1] [] [] a 0,dZ T y.2 [59])
  else some (.mk 9 [] [] 0 [x.1] [] [] a 0,dZ T (if iZ T x.2 [59]=true/\x.1.k≠7 then jN T x.2 2 else x.2) [59])
def eX(T:List Tk)(q:RQ):PD×RQ:=
 (⟨(eW T q).1,(zg T (dZ T (eW T q).2 [58])).1.1,(zg T (dZ T (eW T q).2 [58])).1.2,(gh T q).a⟩,(zg T (dZ T (eW T q).2 [58])).2)
mutual
def wH(T:List Tk):Nat->RQ->Option (Sm×RQ)
 |0,_=>none|f+1,q=>
  if iZ T q [118,97,114] then
   some (.mk 1 (eX T (cv q)).1.name (eX T (cv q)).1.on (eX T (cv q)).1.od [] [] [] (gh T q).a 0,dZ T (eX T (cv q)).2 [59])
  else if iZ T q [108,101,116] then (jO T f 0 (dZ T (eX T (cv q)).2 [61])).bind λx=>
   some (.mk 2 (eX T (cv q)).1.name (eX T (cv q)).1.on (eX T (cv q)).1.od [x.1] [] [] (gh T q).a 0,dZ T x.2 [59])
  else if iZ T q [105,102] then (jO T f 0 (cv q)).bind λx=>(kH T f x.2).bind λy=>
   if iZ T y.2 [101,108,115,101] then (kH T f (cv y.2)).bind λz=>some (.mk 5 [] [] 0 [x.1] y.1 z.1 (gh T q).a 0,z.2)
   else some (.mk 5 [] [] 0 [x.1] y.1 [] (gh T q).a 0,y.2)
  else if iZ T q [119,104,105,108,101] then (jO T f 0 (cv q)).bind λx=>(kH T f x.2).bind λy=>
   some (.mk 6 [] [] 0 [x.1] y.1 [] (gh T q).a 0,y.2)
  else if iZ T q [114,101,116,117,114,110] then
   if iZ T (cv q) [59] then some (.mk 7 [] [] 0 [] [] [] (gh T q).a 0,dZ T (cv q) [59])
   else (jO T f 0 (cv q)).bind λx=>some (.mk 7 [] [] 0 [x.1] [] [] (gh T q).a 0,dZ T x.2 [59])
  else if iZ T q [112,114,105,110,116] then (jO T f 0 (cv q)).bind λx=>some (.mk 8 [] [] 0 [x.1] [] [] (gh T q).a 0,dZ T x.2 [59])
  else uv T f (gh T q).a q
def kH(T:List Tk):Nat->RQ->Option (List Sm×RQ)
 |0,_=>none|f+1,q=>pG T f [] (ki T q [123])
def pG(T:List Tk):Nat->List Sm->RQ->Option (List Sm×RQ)
 |0,_,_=>none|f+1,l,q=>if q.fe=0/\iZ T q [125]=false then (wH T f q).bind λx=>pG T f (l++[x.1]) x.2
  else some (l,mJ T q [125])
end
def mK(T:List Tk):Nat->List PD->RQ->Option (List PD×RQ)
 |0,_,_=>none|f+1,l,q=>if q.fe=0/\iZ T q [125]=false then
   if (gh T q).k=1/\l.length=8 then some (l,jN T q 4)
   else mK T f (l++[(eX T q).1]) (dZ T (eX T q).2 [59])
  else some (l,q)
def ru(T:List Tk)(f:Nat)(q:RQ):Option (Rc×RQ):=
 (mK T f [] (dZ T (eW T q).2 [123])).bind λx=>some (⟨(eW T q).1,x.1,(gh T q).a⟩,dZ T x.2 [125])
def E5(T:List Tk)(q:RQ):RQ:=if iZ T q [41] then q else if iZ T (dZ T q [44]) [41] then jN T (dZ T q [44]) 2 else dZ T q [44]
def mL(T:List Tk):Nat->List PD->RQ->Option (List PD×RQ)
 |0,_,_=>none|f+1,l,q=>if q.fe=0/\iZ T q [41]=false then
   if (gh T q).k=1/\l.length=6 then some (l,jN T q 4)
   else mL T f (l++[(eX T q).1]) (E5 T (eX T q).2)
  else some (l,q)
def xL(T:List Tk)(f:Nat)(q:RQ):Option (Fc×RQ):=
 (mL T f [] (dZ T (eW T q).2 [40])).bind λx=>
  if iZ T (dZ T x.2 [41]) [58] then
   (kH T f (zg T (cv (dZ T x.2 [41]))).2).bind λy=>some (⟨(eW T q).1,x.1,true,(zg T (cv (dZ T x.2 [41]))).1.1,(zg T (cv (dZ T x.2 [41]))).1.2,y.1,(gh T q).a⟩,y.2)
  else (kH T f (dZ T x.2 [41])).bind λy=>some (⟨(eW T q).1,x.1,false,[],0,y.1,(gh T q).a⟩,y.2)
def abW:List UInt8:=[114,101,99,111,114,100]
def Ut:List UInt8:=[103,108,111,98,97,108]
def Uu:List UInt8:=[102,117,110,99]
def qp(T:List Tk):Nat->Pg->RQ->Option (Pg×RQ)
 |0,_,_=>none|f+1,p,q=>if q.fe=0/\(gh T q).k≠0 then
   if iZ T q abW=true/\p.bJ.length=12\/iZ T q Ut=true/\p.aI.length=8\/iZ T q Uu=true/\p.funcs.length=16 then qp T f p (jN T q 4)
   else if iZ T q abW then (ru T f (cv q)).bind λx=>qp T f ⟨p.bJ++[x.1],p.aI,p.funcs⟩ x.2
   else if iZ T q Ut then qp T f ⟨p.bJ,p.aI++[(eX T (cv q)).1],p.funcs⟩ (dZ T (eX T (cv q)).2 [59])
   else if iZ T q Uu then (xL T f (cv q)).bind λx=>qp T f ⟨p.bJ,p.aI,p.funcs++[x.1]⟩ x.2
   else qp T f p (jN T q 2)
  else some (p,q)
def Dx:Pg:=⟨[],[],[]⟩
def v8(T:List Tk)(f:Nat):Option (Pg×Int×Int):=
 (qp T f Dx ⟨0,0,0,0⟩).bind λx=>some (if x.2.fe=0 then (x.1,0,0) else (Dx,x.2.fe,x.2.fa))
end kN
namespace kN
open Ax Go V7
structure gG (T:List Tk)(q r:RQ):Prop where
 le:q.at_<=r.at_
 ub:q.at_<=T.length->r.at_<=T.length
 nB:q.fe≠0->r.fe=q.fe/\r.at_=q.at_
theorem gG.refl(T:List Tk)(q:RQ):gG T q q:=⟨aau _,id,λ_=>⟨rfl,rfl⟩⟩
theorem gG.trans{T:List Tk}{q r s:RQ}(h:gG T q r)(k:gG T r s):gG T q s:=
 ⟨Nat.le_trans h.le k.le,λu=>k.ub (h.ub u),λb=>by
  obtain⟨a1,a2⟩:=h.nB b;obtain⟨b1,b2⟩:=k.nB (by rw[a1];exact b);exact⟨b1.trans a1,b2.trans a2⟩⟩
variable{T:List Tk}{q r:RQ}{s:List UInt8}{f:Nat}
theorem gG.CA(h:gG T q r)(f:r.fe=0):q.fe=0:=by
 apply Classical.byContradiction;intro hn;have:=(h.nB hn).1;rw[f]at this;exact hn this.symm
theorem v9(h:(gh T q).k≠0):q.at_<T.length:=by
 apply Classical.byContradiction;intro hn;rw[gh,List.getD,adi (by omega)]at h;exact h rfl
theorem Qv(s:List UInt8):zG s≠0:=by
 unfold zG;split;split<;>decide
 decide
theorem bZ(h:iZ T q s=true):q.fe=0/\q.at_<T.length:=by
 simp only[iZ,aac,aK]at h;exact⟨h.1.1,v9 (by rw[h.1.2];exact Qv s)⟩
theorem Hw(h:iZ T q s=true):(gh T q).t=s:=by
 simp only[iZ,aac,aK]at h;exact h.2
theorem XK(h:q.fe≠0):iZ T q s=false:=by simp[iZ,h]
theorem AF{n:Nat}(h:v7 n (gh T q)≠0):q.at_<T.length:=v9 (by
 unfold v7 at h;split at h;rename_i e;rw[e];decide;exact aU rfl h)
theorem cY(h:q.fe=0)(h2:q.at_<T.length):gG T q (cv q):=⟨Nat.le_succ _,λ_=>h2,λb=>aU h b⟩
theorem jW{e:Int}:gG T q (jN T q e):=by
 unfold jN;split;rename_i h;exact⟨aau _,id,λb=>aU h b⟩;exact gG.refl T q
theorem BU{d:Int}:gG T q (xK q d):=⟨aau _,id,λ_=>⟨rfl,rfl⟩⟩
theorem bX:gG T q (dZ T q s):=by
 unfold dZ;split;rename_i h;exact cY (bZ h).1 (bZ h).2;exact jW
theorem gm:gG T q (ki T q s):=by
 unfold ki;split;exact jW;exact bX.trans BU
theorem fT:gG T q (mJ T q s):=bX.trans BU
theorem jc:gG T q (eW T q).2:=by
 unfold eW;split;rename_i h;exact cY h.1 (v9 (by rw[h.2];decide));exact jW
theorem E6{T:List Tk}{q:RQ}{s:List UInt8}:∀k,gG T q (vZ T q s k)
 |0=>gG.refl T q|k+1=>(E6 k).trans bX
theorem E7{T:List Tk}:∀(k d:Nat)(q:RQ),gG T q (KQ T k d q).2/\(KQ T k d q).1<=d+k/\d<=(KQ T k d q).1
 |0,d,q=>⟨gG.refl T q,aau _,aau _⟩
 |k+1,d,q=>by
  unfold KQ;split;rename_i h;obtain⟨h1,h2,h3⟩:=E7 (T:=T) k (d+1) (cv q);exact⟨(cY (bZ h).1 (bZ h).2).trans h1,by omega,by omega⟩;exact⟨gG.refl T q,by simp,aau _⟩
theorem Uv:gG T q (ofN T q).2:=by
 unfold ofN;split;rename_i h;rw[acJ]at h;rcases h with h|h<;>exact cY (bZ h).1 (bZ h).2;exact jc
theorem oq:gG T q (zg T q).2:=by
 unfold zg;have h:=(E7 (T:=T) 3 0 q).1;split;exact h.trans jW;exact(h.trans Uv).trans (E6 _)
theorem MW:0<=(zg T q).1.2/\(zg T q).1.2<=3:=by
 have h:=(E7 (T:=T) 3 0 q).2.1;unfold zg;split;exact⟨ahh _,by show (0:Int)<=3;decide⟩;refine⟨Int.natCast_nonneg _,?_⟩;simp only;omega
theorem jF:gG T q (eX T q).2:=(jc.trans bX).trans oq
def mu(T:List Tk)(q:RQ):Nat:=if q.fe=0 then T.length-q.at_+1 else 0
theorem mw(h:gG T q r):mu T r<=mu T q:=by
 unfold mu;by_cases f:q.fe=0;rw[ah f];split;have:=h.le;omega;omega;obtain⟨a1,_⟩:=h.nB f;rw[a1,U f,U f];exact aau _
def wg(T:List Tk)(q r:RQ):Prop:=r.fe≠0\/q.at_<T.length/\q.at_<r.at_
theorem E8(f:q.fe=0)(w:wg T q r):mu T r<mu T q:=by
 unfold mu;rw[ah f];rcases w with w|⟨w,v⟩;rw[U w];omega;split<;>omega
theorem ot(h:gG T q r)(w:wg T q r):mu T r<=mu T q-1:=by
 by_cases f:q.fe=0;have:=E8 f w;omega;have h0:mu T q=0:=by unfold mu;rw[U f]
 have:=mw h;omega
theorem sL(f:q.fe=0):0<mu T q:=by unfold mu;rw[ah f];omega
theorem lA{e:Int}(he:e≠0):(jN T q e).fe≠0:=by
 unfold jN;split;exact he
 assumption
theorem mM(h:q.at_<T.length):wg T q (cv q):=.inr ⟨h,Nat.lt_succ_self _⟩
theorem kI:wg T q (dZ T q s):=by
 unfold dZ;split;rename_i h;exact mM (bZ h).2;exact .inl (lA (by decide))
theorem kX:wg T q (ki T q s):=by
 unfold ki;split;exact .inl (lA (by decide));exact kI
theorem pH:wg T q (eW T q).2:=by
 unfold eW;split;rename_i h;exact mM (v9 (by rw[h.2];decide));exact .inl (lA (by decide))
theorem wg.trans{s:RQ}(w:wg T q r)(h:gG T r s):wg T q s:=by
 rcases w with w|⟨w,v⟩;exact .inl (by rw[(h.nB w).1];exact w);exact .inr ⟨w,Nat.lt_of_lt_of_le v h.le⟩
theorem gG.IP{s:RQ}(h:gG T q r)(w:wg T r s):wg T q s:=by
 rcases w with w|⟨w,v⟩;exact .inl w;exact .inr ⟨aiy h.le w,aiy h.le v⟩
theorem wh:wg T q (eX T q).2:=(pH.trans bX).trans oq
theorem AG(T:List Tk):∀f:Nat,(∀n q e r,jO T f n q=some (e,r)->gG T q r)/\(∀n a q e r,pF T f n a q=some (e,r)->gG T q r)/\
  (∀q e r,qJ T f q=some (e,r)->gG T q r)/\(∀a q e r,kW T f a q=some (e,r)->gG T q r)/\(∀q e r,oo T f q=some (e,r)->gG T q r)/\
  (∀q e r,qK T f q=some (e,r)->gG T q r)/\(∀a q e r,qL T f a q=some (e,r)->gG T q r)/\(∀q e r,wG T f q=some (e,r)->gG T q r)/\
  (∀l q e r,uZ T f l q=some (e,r)->gG T q r)
 |0=>by simp[jO,pF,qJ,kW,oo,qK,qL,wG,uZ]|f+1=>by
  obtain⟨hE,hS,hU,hB,hI,hF,hN,hA,hM⟩:=AG T f;refine⟨λn q e r h=>?_,λn a q e r h=>?_,λq e r h=>?_,λa q e r h=>?_,λq e r h=>?_,λq e r h=>?_,λa q e r h=>?_,λq e r h=>?_,λl q e r h=>?_⟩;unfold jO at h;split at h;exact hU _ _ _ h;obtain⟨⟨x1,x2⟩,h1,h2⟩:=aai.1 h;exact(hE _ _ _ _ h1).trans (hS _ _ _ _ _ h2);unfold pF at h;split at h;rename_i c;obtain⟨⟨x1,x2⟩,h1,h2⟩:=aai.1 h;exact((cY c.1 (AF c.2)).trans (hE _ _ _ _ h1)).trans (hS _ _ _ _ _ h2);cases h;exact gG.refl _ _;unfold qJ at h;split at h;obtain⟨⟨x1,x2⟩,h1,h2⟩:=aai.1 h;cases h2;exact(gm.trans (hE _ _ _ _ h1)).trans BU;obtain⟨⟨x1,x2⟩,h1,h2⟩:=aai.1 h;exact(hF _ _ _ h1).trans (hB _ _ _ _ h2);unfold kW at h;split at h;rename_i c;exact((cY (bZ c).1 (bZ c).2).trans jc).trans (hB _ _ _ _ h);split at h;obtain⟨⟨x1,x2⟩,h1,h2⟩:=aai.1 h;exact((gm.trans (hE _ _ _ _ h1)).trans fT).trans (hB _ _ _ _ h2);cases h;exact gG.refl _ _;unfold oo at h;obtain⟨⟨x1,x2⟩,h1,h2⟩:=aai.1 h;cases h2;exact(gm.trans (hE _ _ _ _ h1)).trans fT;unfold qK at h;split at h;rename_i c;cases h;exact cY c.1 (v9 (by rw[c.2];decide));split at h;rename_i c;cases h;rw[acJ]at c;rcases c with c|c<;>exact cY (bZ c).1 (bZ c).2;split at h;rename_i c;cases h;exact(cY (bZ c).1 (bZ c).2).trans oq;split at h;rename_i c;exact(cY (bZ c).1 (bZ c).2).trans (hN _ _ _ _ h);split at h;rename_i c;obtain⟨⟨x1,x2⟩,h1,h2⟩:=aai.1 h;cases h2;exact(cY (bZ c).1 (bZ c).2).trans (hI _ _ _ h1);split at h;rename_i c;cases h;exact((cY (bZ c).1 (bZ c).2).trans gm).trans fT;split at h;exact hI _ _ _ h;split at h;obtain⟨⟨x1,x2⟩,h1,h2⟩:=aai.1 h;cases h2;exact jc.trans (hA _ _ _ h1);cases h;exact jc;unfold qL at h;split at h;rename_i c;obtain⟨⟨x1,x2⟩,h1,h2⟩:=aai.1 h;cases h2;exact(((cY (bZ c).1 (bZ c).2).trans oq).trans bX).trans (hI _ _ _ h1);cases h;exact jc;unfold wG at h;split at h;cases h;exact gm.trans fT;obtain⟨⟨x1,x2⟩,h1,h2⟩:=aai.1 h;exact(gm.trans (hE _ _ _ _ h1)).trans (hM _ _ _ _ h2);unfold uZ at h;split at h;rename_i c;obtain⟨⟨x1,x2⟩,h1,h2⟩:=aai.1 h;exact((cY (bZ c).1 (bZ c).2).trans (hE _ _ _ _ h1)).trans (hM _ _ _ _ h2);cases h;exact fT
theorem jx{n:Nat}{e:E}(h:jO T f n q=some (e,r)):gG T q r:=(AG T f).1 _ _ _ _ h
theorem bind_some{α β:Type}{x:Option α}{g:α->Option β}(h1:∃a,x=some a)(h2:∀a,x=some a->∃b,g a=some b):∃b,x.bind g=some b:=by
 obtain⟨a,ha⟩:=h1;obtain⟨b,hb⟩:=h2 a ha;exact⟨b,by rw[ha];exact hb⟩
theorem KR(T:List Tk):∀f:Nat,(∀n q,n<=5->40*mu T q+12<=f+n->∃x,jO T f n q=some x)/\(∀n a q,n<5->40*mu T q+1<=f->∃x,pF T f n a q=some x)/\
  (∀q,40*mu T q+6<=f->∃x,qJ T f q=some x)/\(∀a q,40*mu T q+1<=f->∃x,kW T f a q=some x)/\(∀q,40*(mu T q-1)+13<=f->∃x,oo T f q=some x)/\
  (∀q,40*mu T q+5<=f->∃x,qK T f q=some x)/\(∀a q,40*mu T q+15<=f->∃x,qL T f a q=some x)/\(∀q,40*(mu T q-1)+13<=f->∃x,wG T f q=some x)/\
  (∀l q,40*mu T q+1<=f->∃x,uZ T f l q=some x)
 |0=>by
  refine⟨λn q h1 h2=>?_,λn a q h1 h2=>?_,λq h=>?_,λa q h=>?_,λq h=>?_,λq h=>?_,λa q h=>?_,λq h=>?_,λl q h=>?_⟩<;>omega
 |f+1=>by
  obtain⟨hE,hS,hU,hB,hI,hF,hN,hA,hM⟩:=KR T f;obtain⟨gE,gS,gU,gB,gI,gF,gN,gA,gM⟩:=AG T f;refine⟨λn q h1 h2=>?_,λn a q h1 h2=>?_,λq h=>?_,λa q h=>?_,λq h=>?_,λq h=>?_,λa q h=>?_,λq h=>?_,λl q h=>?_⟩;unfold jO;split;exact hU _ (by omega);refine bind_some (hE _ _ (by omega) (by omega)) λ⟨x1,x2⟩ h3=>?_;try dsimp only
  have:=mw (gE _ _ _ _ h3);exact hS _ _ _ (by omega) (by omega);unfold pF;split;rename_i c;have m1:=ot (cY c.1 (AF c.2)) (mM (AF c.2));have m0:=sL (T:=T) c.1;refine bind_some (hE _ _ (by omega) (by omega)) λ⟨x1,x2⟩ h3=>?_;try dsimp only
  have:=mw (gE _ _ _ _ h3);exact hS _ _ _ (by omega) (by omega);exact⟨_,rfl⟩;unfold qJ;split;rename_i c;rw[acJ]at c;have c0:q.fe=0:=by rcases c with c|c<;>exact(bZ c).1
  have m1:=ot (T:=T) (q:=q) (gm (s:=(gh T q).t)) kX;have m0:=sL (T:=T) c0;exact bind_some (hE _ _ (by omega) (by omega)) λx _=>⟨_,rfl⟩;refine bind_some (hF _ (by omega)) λ⟨x1,x2⟩ h3=>?_;try dsimp only
  have:=mw (gF _ _ _ h3);exact hB _ _ (by omega);unfold kW;split;rename_i c;have m1:=ot ((cY (bZ c).1 (bZ c).2).trans jc) ((mM (bZ c).2).trans jc);have m0:=sL (T:=T) (bZ c).1;exact hB _ _ (by omega);split;rename_i c;have m0:=sL (T:=T) (bZ c).1;have m1:=ot (T:=T) (q:=q) (gm (s:=[91])) kX;refine bind_some (hE _ _ (by omega) (by omega)) λ⟨x1,x2⟩ h3=>?_;try dsimp only
  have m2:=mw ((gE _ _ _ _ h3).trans (fT (s:=[93])));exact hB _ _ (by omega);exact⟨_,rfl⟩;unfold oo;have m1:=ot (T:=T) (q:=q) (gm (s:=[40])) kX;exact bind_some (hE _ _ (by omega) (by omega)) λx _=>⟨_,rfl⟩;unfold qK;split;exact⟨_,rfl⟩;split;exact⟨_,rfl⟩;split;exact⟨_,rfl⟩;split;rename_i c;have m1:=ot (cY (bZ c).1 (bZ c).2) (mM (bZ c).2);have m0:=sL (T:=T) (bZ c).1;exact hN _ _ (by omega);split;rename_i c;have m1:=ot (cY (bZ c).1 (bZ c).2) (mM (bZ c).2);have m0:=sL (T:=T) (bZ c).1;exact bind_some (hI _ (by omega)) λx _=>⟨_,rfl⟩;split;exact⟨_,rfl⟩;split;rename_i c;have m0:=sL (T:=T) (bZ c).1;exact hI _ (by omega);split;rename_i c;have m0:=sL (T:=T) (bZ c).1;have m1:=mw (T:=T) (q:=q) jc;exact bind_some (hA _ (by omega)) λx _=>⟨_,rfl⟩;exact⟨_,rfl⟩;unfold qL;split;rename_i c;have m1:=mw (((cY (bZ c).1 (bZ c).2).trans oq).trans (bX (s:=[93])));exact bind_some (hI _ (by omega)) λx _=>⟨_,rfl⟩;exact⟨_,rfl⟩;unfold wG;split;exact⟨_,rfl⟩;have m1:=ot (T:=T) (q:=q) (gm (s:=[40])) kX;refine bind_some (hE _ _ (by omega) (by omega)) λ⟨x1,x2⟩ h3=>?_;try dsimp only
  have:=mw (gE _ _ _ _ h3);exact hM _ _ (by omega);unfold uZ;split;rename_i c;have m1:=ot (cY (bZ c).1 (bZ c).2) (mM (bZ c).2);have m0:=sL (T:=T) (bZ c).1;refine bind_some (hE _ _ (by omega) (by omega)) λ⟨x1,x2⟩ h3=>?_;try dsimp only
  have:=mw (gE _ _ _ _ h3);exact hM _ _ (by omega);exact⟨_,rfl⟩
theorem pI(h:40*mu T q+12<=f):∃x,jO T f 0 q=some x:=(KR T f).1 0 q (by omega) (by omega)
theorem MX{a:Int}{s:Sm}(h:uv T f a q=some (s,r)):gG T q r/\wg T q r:=by
 unfold uv at h;obtain⟨⟨x1,x2⟩,h1,h2⟩:=aai.1 h;have g1:=jx h1;dsimp only at h2;split at h2;obtain⟨⟨y1,y2⟩,h3,h4⟩:=aai.1 h2;cases h4;have g2:gG T x2 (dZ T (if x1.k=4\/x1.k=5\/x1.k=6 then x2 else jN T x2 2) [61]):=by
  refine gG.trans ?_ bX;split;exact gG.refl _ _;exact jW
 have g3:=(g1.trans g2).trans (jx h3);exact⟨g3.trans bX,g3.IP kI⟩;cases h2;have g2:gG T x2 (if iZ T x2 [59]=true/\x1.k≠7 then jN T x2 2 else x2):=by
  split;exact jW;exact gG.refl _ _
 exact⟨(g1.trans g2).trans bX,(g1.trans g2).IP kI⟩
theorem sM(T:List Tk):∀f:Nat,(∀q s r,wH T f q=some (s,r)->gG T q r/\wg T q r)/\(∀q s r,kH T f q=some (s,r)->gG T q r/\wg T q r)/\
  (∀l q s r,pG T f l q=some (s,r)->gG T q r)
 |0=>by simp[wH,kH,pG]|f+1=>by
  obtain⟨hS,hB,hL⟩:=sM T f;refine⟨λq s r h=>?_,λq s r h=>?_,λl q s r h=>?_⟩;unfold wH at h;split at h;rename_i c;cases h;have g:=(cY (bZ c).1 (bZ c).2).trans jF;exact⟨g.trans bX,g.IP kI⟩;split at h;rename_i c;obtain⟨⟨x1,x2⟩,h1,h2⟩:=aai.1 h;cases h2;have g:=(((cY (bZ c).1 (bZ c).2).trans jF).trans bX).trans (jx h1);exact⟨g.trans bX,g.IP kI⟩;split at h;rename_i c;obtain⟨⟨x1,x2⟩,h1,h2⟩:=aai.1 h;obtain⟨⟨y1,y2⟩,h3,h4⟩:=aai.1 h2;have g1:=(cY (bZ c).1 (bZ c).2).trans (jx h1);have g:=g1.trans (hB _ _ _ h3).1;have w:=g1.IP (hB _ _ _ h3).2;dsimp only at h4;split at h4;rename_i d;obtain⟨⟨z1,z2⟩,h5,h6⟩:=aai.1 h4;cases h6;have g2:=(cY (bZ d).1 (bZ d).2).trans (hB _ _ _ h5).1;exact⟨g.trans g2,w.trans g2⟩;cases h4;exact⟨g,w⟩;split at h;rename_i c;obtain⟨⟨x1,x2⟩,h1,h2⟩:=aai.1 h;obtain⟨⟨y1,y2⟩,h3,h4⟩:=aai.1 h2;cases h4;have g1:=(cY (bZ c).1 (bZ c).2).trans (jx h1);exact⟨g1.trans (hB _ _ _ h3).1,g1.IP (hB _ _ _ h3).2⟩;split at h;rename_i c;have g1:=cY (bZ c).1 (bZ c).2;split at h;cases h;exact⟨g1.trans bX,g1.IP kI⟩;obtain⟨⟨x1,x2⟩,h1,h2⟩:=aai.1 h;cases h2;have g:=g1.trans (jx h1);exact⟨g.trans bX,g.IP kI⟩;split at h;rename_i c;obtain⟨⟨x1,x2⟩,h1,h2⟩:=aai.1 h;cases h2;have g:=(cY (bZ c).1 (bZ c).2).trans (jx h1);exact⟨g.trans bX,g.IP kI⟩;exact MX h;unfold kH at h;have g:=hL _ _ _ _ h;exact⟨gm.trans g,kX.trans g⟩;unfold pG at h;split at h;obtain⟨⟨x1,x2⟩,h1,h2⟩:=aai.1 h;exact(hS _ _ _ h1).1.trans (hL _ _ _ _ h2);cases h;exact fT
theorem MY{a:Int}(h:40*mu T q+12<=f):∃x,uv T f a q=some x:=by
 unfold uv;refine bind_some (pI h) λ⟨x1,x2⟩ h1=>?_;try dsimp only
 have m1:=mw (jx h1);split;have g2:gG T x2 (dZ T (if x1.k=4\/x1.k=5\/x1.k=6 then x2 else jN T x2 2) [61]):=by
  refine gG.trans ?_ bX;split;exact gG.refl _ _;exact jW
 have m2:=mw g2;exact bind_some (pI (by omega)) λx _=>⟨_,rfl⟩;exact⟨_,rfl⟩
theorem E9(T:List Tk):∀f:Nat,(∀q,40*mu T q+15<=f->∃x,wH T f q=some x)/\(∀q,40*(mu T q-1)+18<=f->∃x,kH T f q=some x)/\
  (∀l q,40*mu T q+17<=f->∃x,pG T f l q=some x)
 |0=>by refine⟨λq h=>?_,λq h=>?_,λl q h=>?_⟩<;>omega|f+1=>by
  obtain⟨hS,hB,hL⟩:=E9 T f;obtain⟨gS,gB,gL⟩:=sM T f;refine⟨λq h=>?_,λq h=>?_,λl q h=>?_⟩;have one:∀s,iZ T q s=true->mu T (cv q)<=mu T q-1/\0<mu T q:=λs c=>⟨ot (cY (bZ c).1 (bZ c).2) (mM (bZ c).2),sL (bZ c).1⟩;unfold wH;split;exact⟨_,rfl⟩;split;rename_i c;have m0:=one _ c;have m1:=mw (T:=T) (q:=cv q) (jF.trans (bX (s:=[61])));exact bind_some (pI (by omega)) λx _=>⟨_,rfl⟩;split;rename_i c;have m0:=one _ c;refine bind_some (pI (by omega)) λ⟨x1,x2⟩ h1=>?_;try dsimp only
  have m1:=mw (jx h1);refine bind_some (hB _ (by omega)) λ⟨y1,y2⟩ h2=>?_;try dsimp only
  have m2:=mw (gB _ _ _ h2).1;split;rename_i d;have m3:=mw (cY (bZ d).1 (bZ d).2);exact bind_some (hB _ (by omega)) λx _=>⟨_,rfl⟩;exact⟨_,rfl⟩;split;rename_i c;have m0:=one _ c;refine bind_some (pI (by omega)) λ⟨x1,x2⟩ h1=>?_;try dsimp only
  have m1:=mw (jx h1);exact bind_some (hB _ (by omega)) λx _=>⟨_,rfl⟩;split;rename_i c;have m0:=one _ c;split;exact⟨_,rfl⟩;exact bind_some (pI (by omega)) λx _=>⟨_,rfl⟩;split;rename_i c;have m0:=one _ c;exact bind_some (pI (by omega)) λx _=>⟨_,rfl⟩;exact MY (by omega);unfold kH;have m1:=ot (T:=T) (q:=q) (gm (s:=[123])) kX;exact hL _ _ (by omega);unfold pG;split;rename_i c;refine bind_some (hS _ (by omega)) λ⟨x1,x2⟩ h1=>?_;try dsimp only
  have m1:=E8 c.1 (gS _ _ _ h1).2;exact hL _ _ (by omega);exact⟨_,rfl⟩
theorem wj{s:List Sm}(h:kH T f q=some (s,r)):gG T q r/\wg T q r:=(sM T f).2.1 _ _ _ h
theorem Fa(h:40*mu T q+18<=f):∃x,kH T f q=some x:=(E9 T f).2.1 _ (by omega)
theorem CB(T:List Tk):∀(f:Nat)(l:List PD)(q:RQ)(s:List PD)(r:RQ),mK T f l q=some (s,r)->gG T q r
 |0,_,_,_,_,h=>by simp[mK]at h|f+1,l,q,s,r,h=>by
  unfold mK at h;split at h;split at h;cases h;exact jW;exact(jF.trans bX).trans (CB T f _ _ _ _ h);cases h;exact gG.refl _ _
theorem CC(T:List Tk):∀(f:Nat)(l:List PD)(q:RQ),mu T q<f->∃x,mK T f l q=some x
 |0,_,_,h=>aU h (by omega)|f+1,l,q,h=>by
  unfold mK;split;rename_i c;split;exact⟨_,rfl⟩;have:=E8 c.1 ((wh (T:=T) (q:=q)).trans (bX (s:=[59])));exact CC T f _ _ (by omega);exact⟨_,rfl⟩
theorem CD{s:Rc}(h:ru T f q=some (s,r)):gG T q r/\wg T q r:=by
 unfold ru at h;obtain⟨⟨x1,x2⟩,h1,h2⟩:=aai.1 h;cases h2;have g:=(bX (T:=T) (s:=[123])).trans (CB T f _ _ _ _ h1);exact⟨(jc.trans g).trans bX,((pH.trans g)).trans bX⟩
theorem KS(h:mu T q<f):∃x,ru T f q=some x:=by
 unfold ru;have m:=mw (T:=T) (q:=q) (jc.trans (bX (s:=[123])));exact bind_some (CC T f _ _ (by omega)) λx _=>⟨_,rfl⟩
theorem sN:gG T q (E5 T q):=by
 unfold E5;split;exact gG.refl _ _;split;exact bX.trans jW;exact bX
theorem xM(T:List Tk):∀(f:Nat)(l:List PD)(q:RQ)(s:List PD)(r:RQ),mL T f l q=some (s,r)->gG T q r
 |0,_,_,_,_,h=>by simp[mL]at h|f+1,l,q,s,r,h=>by
  unfold mL at h;split at h;split at h;cases h;exact jW;exact(jF.trans sN).trans (xM T f _ _ _ _ h);cases h;exact gG.refl _ _
theorem CE(T:List Tk):∀(f:Nat)(l:List PD)(q:RQ),mu T q<f->∃x,mL T f l q=some x
 |0,_,_,h=>aU h (by omega)|f+1,l,q,h=>by
  unfold mL;split;rename_i c;split;exact⟨_,rfl⟩;have:=E8 c.1 ((wh (T:=T) (q:=q)).trans sN);exact CE T f _ _ (by omega);exact⟨_,rfl⟩
theorem Hx{s:Fc}(h:xL T f q=some (s,r)):gG T q r/\wg T q r:=by
 unfold xL at h;obtain⟨⟨x1,x2⟩,h1,h2⟩:=aai.1 h;have g:=((bX (T:=T) (s:=[40])).trans (xM T f _ _ _ _ h1)).trans (bX (s:=[41]));have gg:=jc.trans g;dsimp only at h2;split at h2;rename_i d;obtain⟨⟨y1,y2⟩,h3,h4⟩:=aai.1 h2;cases h4;have g2:=((cY (bZ d).1 (bZ d).2).trans oq).trans (wj h3).1;exact⟨gg.trans g2,(pH.trans g).trans g2⟩;obtain⟨⟨y1,y2⟩,h3,h4⟩:=aai.1 h2;cases h4;have g2:=(wj h3).1;exact⟨gg.trans g2,(pH.trans g).trans g2⟩
theorem Qw(h:40*mu T q+18<=f):∃x,xL T f q=some x:=by
 unfold xL;have m:=mw (T:=T) (q:=q) (jc.trans (bX (s:=[40])));refine bind_some (CE T f _ _ (by omega)) λ⟨x1,x2⟩ h1=>?_;try dsimp only
 have m1:=mw ((xM T f _ _ _ _ h1).trans (bX (s:=[41])));split;rename_i d;have m2:=mw ((cY (bZ d).1 (bZ d).2).trans oq);exact bind_some (Fa (by omega)) λx _=>⟨_,rfl⟩;exact bind_some (Fa (by omega)) λx _=>⟨_,rfl⟩
theorem rT(T:List Tk):∀(f:Nat)(p:Pg)(q:RQ),40*mu T q+19<=f->∃x,qp T f p q=some x
 |0,_,_,h=>aU h (by omega)|f+1,p,q,h=>by
  unfold qp;split;rename_i c;have m0:=sL (T:=T) c.1;have w1:=E8 c.1 (T:=T) (r:=jN T q 4) (.inl (lA (by decide)));have w2:=E8 c.1 (T:=T) (r:=jN T q 2) (.inl (lA (by decide)));have m1:=E8 c.1 (mM (v9 c.2));split;exact rT T f _ _ (by omega);split;refine bind_some (KS (by omega)) λ⟨x1,x2⟩ h1=>?_;try dsimp only
  have:=mw (CD h1).1;exact rT T f _ _ (by omega);split;have:=mw (T:=T) (q:=cv q) (jF.trans (bX (s:=[59])));exact rT T f _ _ (by omega);split;refine bind_some (Qw (by omega)) λ⟨x1,x2⟩ h1=>?_;try dsimp only
  have:=mw (Hx h1).1;exact rT T f _ _ (by omega);exact rT T f _ _ (by omega);exact⟨_,rfl⟩
theorem xN(T:List Tk):∃x,v8 T (40*T.length+100)=some x:=by
 unfold v8;exact bind_some (rT T _ _ _ (by simp[mu];omega)) λx _=>⟨_,rfl⟩
end kN
namespace kN
open Ax Go V7
def ZO(T:List Tk)(N:Int):Prop:=0<=N/\∀x∈T,0<=x.a/\x.a<=N
variable{T:List Tk}{N:Int}{q:RQ}{f:Nat}
theorem IQ(h:ZO T N)(q:RQ):0<=(gh T q).a/\(gh T q).a<=N:=by
 by_cases hl:q.at_<T.length;have:gh T q=T[q.at_]:=by simp[gh,hl]
 rw[this];exact h.2 _ (List.getElem_mem hl);have hc:gh T q=Tk0:=by simp[gh,List.getD,adi (Nat.le_of_not_lt hl)]
 rw[hc];exact⟨ahh _,h.1⟩
def IS(N:Int)(p:PD):Prop:=0<=p.od/\p.od<=3/\0<=p.at_/\p.at_<=N
theorem Fb(h:ZO T N)(q:RQ):IS N (eX T q).1:=⟨MW.1,MW.2,(IQ h q).1,(IQ h q).2⟩
structure Rc.In (N:Int)(r:Rc):Prop where
 a:0<=r.a/\r.a<=N
 len:r.jo.length<=9
 f:∀p∈r.jo,IS N p
structure Fc.In (N:Int)(r:Fc):Prop where
 a:0<=r.a/\r.a<=N
 len:r.params.length<=7
 f:∀p∈r.params,IS N p
 od:0<=r.od/\r.od<=3
structure Pg.In (N:Int)(p:Pg):Prop where
 r:p.bJ.length<=12/\∀x∈p.bJ,Rc.In N x
 g:p.aI.length<=8/\∀x∈p.aI,IS N x
 f:p.funcs.length<=16/\∀x∈p.funcs,Fc.In N x
theorem sP{α:Type}{P:α->Prop}{l:List α}{a:α}(h:∀x∈l,P x)(ha:P a):∀x∈l++[a],P x:=by
 intro x hx;rcases abw.1 hx with h1|h1;exact h x h1;rw[aem.1 h1];exact ha
theorem KT(h:(gh T q).k≠1):(eW T q).2.fe≠0:=by
 unfold eW;rw[U (λe=>h e.2)];exact lA (by decide)
theorem yz(h:(gh T q).k≠1):(eX T q).2.fe≠0:=by
 have g:gG T (eW T q).2 (eX T q).2:=bX.trans oq;rw[(g.nB (KT h)).1];exact KT h
theorem HA{T:List Tk}{N:Int}(hN:ZO T N):∀(f:Nat)(l:List PD)(q:RQ)(s:List PD)(r:RQ),mK T f l q=some (s,r)->(∀p∈l,IS N p)->(l.length<=8\/q.fe≠0/\l.length<=9)->
  (∀p∈s,IS N p)/\(s.length<=8\/r.fe≠0/\s.length<=9)
 |0,_,_,_,_,h,_,_=>by simp[mK]at h|f+1,l,q,s,r,h,hl,hn=>by
  unfold mK at h;split at h;rename_i c;have h8:l.length<=8:=by
   rcases hn with hn|hn;exact hn;exact aU c.1 hn.1
  split at h;rename_i c2;cases h;exact⟨hl,.inl h8⟩;rename_i c2;refine HA hN f _ _ _ _ h (sP hl (Fb hN q)) ?_;by_cases hk:(gh T q).k=1;exact .inl (by
   have:l.length≠8:=λe=>c2 ⟨hk,e⟩;simp;omega)
  refine .inr ⟨?_,by simp;omega⟩;have g:=bX (T:=T) (q:=(eX T q).2) (s:=[59]);rw[(g.nB (yz hk)).1];exact yz hk;cases h;exact⟨hl,hn⟩
theorem HB{T:List Tk}{N:Int}(hN:ZO T N):∀(f:Nat)(l:List PD)(q:RQ)(s:List PD)(r:RQ),mL T f l q=some (s,r)->(∀p∈l,IS N p)->(l.length<=6\/q.fe≠0/\l.length<=7)->
  (∀p∈s,IS N p)/\(s.length<=6\/r.fe≠0/\s.length<=7)
 |0,_,_,_,_,h,_,_=>by simp[mL]at h|f+1,l,q,s,r,h,hl,hn=>by
  unfold mL at h;split at h;rename_i c;have h8:l.length<=6:=by
   rcases hn with hn|hn;exact hn;exact aU c.1 hn.1
  split at h;rename_i c2;cases h;exact⟨hl,.inl h8⟩;rename_i c2;refine HB hN f _ _ _ _ h (sP hl (Fb hN q)) ?_;by_cases hk:(gh T q).k=1;exact .inl (by
   have:l.length≠6:=λe=>c2 ⟨hk,e⟩;simp;omega)
  refine .inr ⟨?_,by simp;omega⟩;have g:=sN (T:=T) (q:=(eX T q).2);rw[(g.nB (yz hk)).1];exact yz hk;cases h;exact⟨hl,hn⟩
theorem Qx(hN:ZO T N){r:RQ}{s:Rc}(h:ru T f q=some (s,r)):Rc.In N s/\(r.fe=0->s.jo.length<=8):=by
 unfold ru at h;obtain⟨⟨x1,x2⟩,h1,h2⟩:=aai.1 h;cases h2;obtain⟨a,b⟩:=HA hN _ _ _ _ _ h1 (by simp) (by simp);refine⟨⟨IQ hN q,by rcases b with b|b<;>simp only<;>omega,a⟩,λe=>?_⟩;rcases b with b|b;exact b;exact aU (bX.CA e) b.1
theorem XL(hN:ZO T N){r:RQ}{s:Fc}(h:xL T f q=some (s,r)):Fc.In N s/\(r.fe=0->s.params.length<=6):=by
 unfold xL at h;obtain⟨⟨x1,x2⟩,h1,h2⟩:=aai.1 h;obtain⟨a,b⟩:=HB hN _ _ _ _ _ h1 (by simp) (by simp);have hc:=IQ hN q;have nu:∀r:RQ,gG T x2 r->r.fe=0->x1.length<=6:=λr g e=>by
  rcases b with b|b;exact b;exact aU (g.CA e) b.1
 have b7:x1.length<=7:=by rcases b with b|b<;>omega
 dsimp only at h2;split at h2;rename_i d;obtain⟨⟨y1,y2⟩,h3,h4⟩:=aai.1 h2;cases h4;exact⟨⟨hc,b7,a,MW⟩,nu _ (((bX.trans (cY (bZ d).1 (bZ d).2)).trans oq).trans (wj h3).1)⟩;obtain⟨⟨y1,y2⟩,h3,h4⟩:=aai.1 h2;cases h4;exact⟨⟨hc,b7,a,ahh _,by show (0:Int)<=3;decide⟩,nu _ (bX.trans (wj h3).1)⟩
def Pg.few(p:Pg):Prop:=(∀x∈p.bJ,x.jo.length<=8)/\∀x∈p.funcs,x.params.length<=6
theorem yA{T:List Tk}{N:Int}(hN:ZO T N):∀(f:Nat)(p:Pg)(q:RQ)(s:Pg)(r:RQ),qp T f p q=some (s,r)->Pg.In N p->(q.fe=0->p.few)->Pg.In N s/\(r.fe=0->s.few)
 |0,_,_,_,_,h,_,_=>by simp[qp]at h|f+1,p,q,s,r,h,hp,hf=>by
  unfold qp at h;split at h;rename_i c;split at h;exact yA hN f _ _ _ _ h hp λe=>aU e (lA (by decide));rename_i aa;split at h;rename_i d;obtain⟨⟨x1,x2⟩,h1,h2⟩:=aai.1 h;obtain⟨i1,i2⟩:=Qx hN h1;have:p.bJ.length≠12:=λe=>aa (.inl ⟨d,e⟩);have:=hp.r.1;exact yA hN f _ _ _ _ h2 ⟨⟨by simp;omega,sP hp.r.2 i1⟩,hp.g,hp.f⟩ λe=>⟨sP (hf c.1).1 (i2 e),(hf c.1).2⟩;split at h;rename_i d;have:p.aI.length≠8:=λe=>aa (.inr (.inl ⟨d,e⟩));have:=hp.g.1;exact yA hN f _ _ _ _ h ⟨hp.r,⟨by simp;omega,sP hp.g.2 (Fb hN _)⟩,hp.f⟩ λe=>hf c.1;split at h;rename_i d;obtain⟨⟨x1,x2⟩,h1,h2⟩:=aai.1 h;obtain⟨i1,i2⟩:=XL hN h1;have:p.funcs.length≠16:=λe=>aa (.inr (.inr ⟨d,e⟩));have:=hp.f.1;exact yA hN f _ _ _ _ h2 ⟨hp.r,hp.g,⟨by simp;omega,sP hp.f.2 i1⟩⟩ λe=>⟨(hf c.1).1,sP (hf c.1).2 (i2 e)⟩;exact yA hN f _ _ _ _ h hp λe=>aU e (lA (by decide));cases h;exact⟨hp,hf⟩
theorem IT:Pg.In N Dx:=⟨⟨by simp[Dx],by simp[Dx]⟩,⟨by simp[Dx],by simp[Dx]⟩,⟨by simp[Dx],by simp[Dx]⟩⟩
theorem DA:Dx.few:=⟨by simp[Dx],by simp[Dx]⟩
theorem Qy(hN:ZO T N){x:Pg×Int×Int}(h:v8 T f=some x):Pg.In N x.1/\x.1.few:=by
 unfold v8 at h;obtain⟨⟨x1,x2⟩,h1,h2⟩:=aai.1 h;obtain⟨a,b⟩:=yA hN _ _ _ _ _ h1 IT λ_=>DA;simp only[bh]at h2;subst h2;split;rename_i e;exact⟨a,b e⟩;exact⟨IT,DA⟩
end kN
namespace lZ
open Ax Go V7 kN
abbrev tI:T3:=⟨1,0,0⟩
abbrev tB:T3:=⟨2,0,0⟩
structure Vd where
 nm:List UInt8
 ty:T3
 deriving DecidableEq
structure Sg where
 nm:List UInt8
 ps:List Vd
 cP:Bool
 cH:T3
structure Hd where
 rs:List (List UInt8)
 bE:List (List UInt8×List Vd)
 aI:List Vd
 aY:List Sg
def ou(rs:List (List UInt8))(l:List PD):List Vd:=l.map λq=>⟨q.name,(cB rs q.on q.od).1⟩
def dN(p:Pg):List (List UInt8):=p.bJ.map (·.name)
def IU(rs:List (List UInt8))(f:Fc):Sg:=⟨f.name,ou rs f.params,f.cP,if f.cP then (cB rs f.on f.od).1 else T0⟩
def aM(p:Pg):Hd:=⟨dN p,p.bJ.map λr=>(r.name,ou (dN p) r.jo),ou (dN p) p.aI,p.funcs.map (IU (dN p))⟩
def fN(s:List UInt8):Nat->List Vd->Option (Nat×T3)
 |_,[]=>none|i,f::l=>if f.nm=s then some (i,f.ty) else fN s (i+1) l
def uw(H:Hd)(V:List Vd)(s:List UInt8):Option (T3×Int):=match fN s 0 V with
 |some (k,t)=>some (t,(k:Int))|none=>match fN s 0 H.aI with
  |some (k,t)=>some (t,-1-(k:Int))|none=>none
def mV(s:List UInt8):Nat->List Sg->Option (Nat×Sg)
 |_,[]=>none|i,g::l=>if g.nm=s then some (i,g) else mV s (i+1) l
def iR:List Vd->List E->Bool
 |[],[]=>true|f::l,e::r=>decide (e.ty=f.ty)&&iR l r|_,_=>false
def gK(k n:Int)(m:Nat):Bool:=
 if k=1\/k=3\/k=4\/k=8\/k=11 then decide (m=0)
 else if k=2 then decide (m=0)&&(decide (n=0)||decide (n=1))
 else if k=7 then true
 else if k=5\/k=9\/k=10\/k=12\/k=13 then decide (m=1)
 else (decide (k=6)||decide (14<=k)&&decide (k<=24))&&decide (m=2)
def rU(ks:List E):T3:=match ks with|e::_=>e.ty | []=>T0
def CF(ks:List E):T3:=match ks with|_::e::_=>e.ty|_=>T0
def qt(k n:Int):Int:=if k=1\/k=2 then n else 0
def kY(k:Int)(nm:List UInt8):List UInt8:=if k=4\/k=5\/k=7 then nm else []
def kZ(k:Int)(on:List UInt8):List UInt8:=if k=3\/k=8\/k=9 then on else []
def k5(k:Int)(od:Int):Int:=if k=3\/k=8\/k=9 then od else 0
def DB(b:Bool)(t:T3):Option (T3×Int):=if b then some (t,0) else none
def xO(H:Hd)(t:T3)(nm:List UInt8):Option (T3×Int):=if t.b=3/\t.d=0 then match H.bE[t.r.toNat]? with
  |some s=>match fN nm 0 s.2 with
   |some (i,u)=>some (u,(i:Int))|none=>none
  |none=>none
 else none
def oY(H:Hd)(nm:List UInt8)(ks:List E):Option (T3×Int):=match mV nm 0 H.aY with
 |some (i,s)=>if iR s.ps ks then some (s.cH,(i:Int)) else none
 |none=>none
def KU(k:Int)(a b:T3):Option (T3×Int):=
 if k=14\/k=15\/k=16\/k=17\/k=18 then DB (decide (a=tI)&&decide (b=tI)) tI
 else if k=19\/k=20 then DB (decide (a=tI)&&decide (b=tI)) tB
 else if k=21\/k=22 then DB (decide (a=b)) tB
 else DB (decide (a=tB)&&decide (b=tB)) tB
def lM(H:Hd)(V:List Vd)(k:Int)(nm on:List UInt8)(od:Int)(ks:List E):Option (T3×Int):=
 if k=1\/k=11 then some (tI,0)
 else if k=2 then some (tB,0)
 else if k=3 then DB ((cB H.rs on od).2&&BQ (cB H.rs on od).1) (cB H.rs on od).1
 else if k=4 then uw H V nm
 else if k=5 then xO H (rU ks) nm
 else if k=6 then DB (decide (0<(rU ks).d)&&decide (CF ks=tI)) ⟨(rU ks).b,(rU ks).r,(rU ks).d-1⟩
 else if k=7 then oY H nm ks
 else if k=8 then DB ((cB H.rs on od).2&&decide ((cB H.rs on od).1.b=3)&&decide ((cB H.rs on od).1.d=0)) (cB H.rs on od).1
 else if k=9 then DB ((cB H.rs on od).2&&decide ((cB H.rs on od).1.d<3)&&decide (rU ks=tI)) ⟨(cB H.rs on od).1.b,(cB H.rs on od).1.r,(cB H.rs on od).1.d+1⟩
 else if k=10 then DB (decide (0<(rU ks).d)) tI
 else if k=12 then DB (decide (rU ks=tI)) tI
 else if k=13 then DB (decide (rU ks=tB)) tB
 else KU k (rU ks) (CF ks)
mutual
def zh(H:Hd)(V:List Vd):E->Except Int E
 |.mk k n nm on od aG a _ _=>if gK k n aG.length then
   match lG H V aG with
   |.error x=>.error x|.ok ks=>match lM H V k nm on od ks with
    |none=>.error a|some (t,r)=>.ok (.mk k (qt k n) (kY k nm) (kZ k on) (k5 k od) ks a t r)
  else .error a
def lG(H:Hd)(V:List Vd):List E->Except Int (List E)
 |[]=>.ok []|e::l=>match zh H V e with
  |.error x=>.error x|.ok y=>if y.ty=T0 then .error y.a else match lG H V l with
   |.error x=>.error x|.ok ys=>.ok (y::ys)
end
def de(cP:Bool)(k:Int)(es:List E):Bool:=
 if k=1 then decide (es.length=0)
 else if k=4 then match es with | [e,_]=>decide (e.k=5)||decide (e.k=6)|_=>false
 else if k=7 then decide (es.length=1)&&cP||decide (es.length=0) && !cP
 else if k=9 then match es with | [e]=>decide (e.k=7)|_=>false
 else if k=2\/k=3\/k=5\/k=6\/k=8 then decide (es.length=1)
 else false
def k6(H:Hd)(cH:T3)(V:List Vd)(k:Int)(nm:List UInt8)(es:List E)(t:T3):Option (Int×List Vd):=
 if k=1 then (match fN nm 0 V with|some _=>none|none=>some ((V.length:Int),V++[⟨nm,t⟩]))
 else if k=2 then (if rU es=t then match fN nm 0 V with|some _=>none|none=>some ((V.length:Int),V++[⟨nm,t⟩]) else none)
 else if k=3 then (match uw H V nm with|some (u,r)=>if u=rU es then some (r,V) else none|none=>none)
 else if k=4 then (if rU es=CF es then some (0,V) else none)
 else if k=5\/k=6 then (if rU es=tB then some (0,V) else none)
 else if k=7 then (if es.length=0\/rU es=cH then some (0,V) else none)
 else if k=8 then (if rU es=tI then some (0,V) else none)
 else some (0,V)
def mW(H:Hd)(k:Int)(on:List UInt8)(od:Int):Option T3:=if k=1\/k=2 then (if (cB H.rs on od).2 then some (cB H.rs on od).1 else none) else some T0
def uC(H:Hd)(V:List Vd)(k:Int)(es:List E):Except Int (List E):=if k=9 then match es with
  |e::_=>match zh H V e with
   |.error x=>.error x|.ok y=>.ok [y]
  |[]=>.ok []
 else lG H V es
def cM(k:Int)(nm:List UInt8):List UInt8:=if k=1\/k=2\/k=3 then nm else []
def bQ(k:Int)(on:List UInt8):List UInt8:=if k=1\/k=2 then on else []
def bR(k:Int)(od:Int):Int:=if k=1\/k=2 then od else 0
mutual
def zH(H:Hd)(cP:Bool)(cH:T3):List Vd->Sm->Except Int (Sm×List Vd)
 |V,.mk k nm on od es bd el a _=>if de cP k es then
   match mW H k on od with
   |none=>.error a|some t=>match uC H V k es with
    |.error x=>.error x|.ok ys=>match k6 H cH V k nm ys t with
     |none=>.error a|some (r,W)=>if k=5 then
       match lB H cP cH W bd with
       |.error x=>.error x|.ok (b,W1)=>match lB H cP cH W1 el with
        |.error x=>.error x|.ok (c,W2)=>.ok (.mk k (cM k nm) (bQ k on) (bR k od) ys b c a r,W2)
      else if k=6 then
       match lB H cP cH W bd with
       |.error x=>.error x|.ok (b,W1)=>.ok (.mk k (cM k nm) (bQ k on) (bR k od) ys b [] a r,W1)
      else .ok (.mk k (cM k nm) (bQ k on) (bR k od) ys [] [] a r,W)
  else .error a
def lB(H:Hd)(cP:Bool)(cH:T3):List Vd->List Sm->Except Int (List Sm×List Vd)
 |V,[]=>.ok ([],V)|V,s::l=>match zH H cP cH V s with
  |.error x=>.error x|.ok (y,W)=>match lB H cP cH W l with
   |.error x=>.error x|.ok (ys,X)=>.ok (y::ys,X)
end
structure Bd where
 vars:List Vd
 code:List Sm
 a:Int
def sQ(H:Hd):List Sg->List Fc->Except Int (List Bd)
 |s::ss,f::fs=>match lB H s.cP s.cH s.ps f.body with
  |.error x=>.error x|.ok (c,W)=>match sQ H ss fs with
   |.error x=>.error x|.ok l=>.ok (⟨W,c,f.a⟩::l)
 |_,_=>.ok []
def Vd.aF(f:Vd):List AV:=.str f.nm::f.ty.cells
def bP(l:List Vd):AV:=aJ 4 (l.map Vd.aF)
def Sg.aF(s:Sg):List AV:=[.str s.nm,bP s.ps,.bool s.cP,.int .i64 s.cH.b,.int .i64 s.cH.r,.int .i64 s.cH.d]
def dz(s:List UInt8×List Vd):List AV:=[.str s.1,bP s.2]
def Bd.aF(b:Bd):List AV:=[bP b.vars,bp b.code,.int .i64 b.a]
end lZ
namespace lZ
open Ax Go V7 kN
theorem E.Ga{P:E->Prop}(h:∀e,(∀x∈e.aG,P x)->P e)(e:E):P e:=h e λx _=>E.Ga h x
termination_by sizeOf e
decreasing_by
 have hx:x∈e.aG:=by assumption
 cases e;simp only[E.aG]at hx;have:=ahU hx;simp only[E.mk.sizeOf_spec];omega
theorem Sm.Ga{P:Sm->Prop}(h:∀s,(∀x∈s.bd,P x)->(∀x∈s.el,P x)->P s)(s:Sm):P s:=h s (λx _=>Sm.Ga h x) λx _=>Sm.Ga h x
termination_by sizeOf s
decreasing_by
 all_goals
  rename_i hx;cases s;simp only[Sm.bd,Sm.el]at hx;have:=ahU hx;simp only[Sm.mk.sizeOf_spec];omega
mutual
def E.sz:E->Nat
 |.mk _ _ _ _ _ aG _ _ _=>1+E.fY aG
def E.fY:List E->Nat
 |[]=>0|e::l=>E.sz e+E.fY l
end
theorem E.MZ(e:E):0<E.sz e:=by cases e;simp only[E.sz];omega
theorem E.eH:∀l:List E,l.length<=E.fY l
 |[]=>aau _|e::l=>by
  have:=E.eH l;have:=E.MZ e;simp only[E.fY,abr];omega
theorem E.fZ:∀{l:List E}{e:E},e∈l->E.sz e<=E.fY l
 |[],_,h=>by cases h|x::l,e,h=>by
  rcases ac1.1 h with h|h;subst h;simp only[E.fY];omega;have:=E.fZ h;simp only[E.fY];omega
theorem E.ry(e:E):E.sz e=1+E.fY e.aG:=by cases e;rfl
def WT(n:Nat)(t:T3):Prop:=0<=t.d/\t.d<=3/\(t.b=3->0<=t.r/\t.r<n)
structure Hd.ok (H:Hd):Prop where
 rs:H.rs.length=H.bE.length
 bE:∀s∈H.bE,∀f∈s.2,WT H.rs.length f.ty
 aI:∀f∈H.aI,WT H.rs.length f.ty
 aY:∀s∈H.aY,WT H.rs.length s.cH/\∀f∈s.ps,WT H.rs.length f.ty
variable{n:Nat}{t:T3}{r k od:Int}{H:Hd}{V:List Vd}{ks:List E}
theorem Uw:WT n T0:=⟨ahh _,by decide,λh=>by cases h⟩
theorem XN:WT n tI:=⟨ahh _,by decide,λh=>by cases h⟩
theorem Ux:WT n tB:=⟨ahh _,by decide,λh=>by cases h⟩
theorem ox(l:List (List UInt8))(s:List UInt8)(d:Int):WT l.length (cB l s d).1:=by
 unfold cB;split;exact Uw;rename_i h;have hd:0<=d/\d<=3:=by omega
 split;exact⟨hd.1,hd.2,λh=>by cases h⟩;split;exact⟨hd.1,hd.2,λh=>by cases h⟩;split;exact Uw;rename_i h;refine⟨hd.1,hd.2,λ_=>?_⟩;rcases OP l s with e|⟨k,e,hk⟩;rw[e]at h;exact aU (by decide) h;simp only;rw[e];omega
theorem AH{s:List UInt8}:∀{l:List Vd}{i k:Nat}{t:T3},fN s i l=some (k,t)->∃f∈l,f.ty=t
 |[],_,_,_,h=>by cases h|f::l,i,k,t,h=>by
  unfold fN at h;split at h;cases h;exact⟨f,acz,rfl⟩;obtain⟨g,h1,h2⟩:=AH h;exact⟨g,ac0 _ h1,h2⟩
theorem HC{s:List UInt8}:∀{l:List Sg}{i k:Nat}{t:Sg},mV s i l=some (k,t)->t∈l
 |[],_,_,_,h=>by cases h|f::l,i,k,t,h=>by
  unfold mV at h;split at h;cases h;exact acz;exact ac0 _ (HC h)
theorem sR{b:Bool}{u:T3}(h:DB b t=some (u,r))(ht:b=true->WT n t):WT n u:=by
 cases b with
 |false=>cases h|true=>cases h;exact ht rfl
theorem abX{s:List UInt8}(hH:H.ok)(hV:∀f∈V,WT H.rs.length f.ty)(h:uw H V s=some (t,r)):WT H.rs.length t:=by
 unfold uw at h;split at h;rename_i k u e;cases h;obtain⟨f,h1,h2⟩:=AH e;rw[<-h2];exact hV f h1;split at h;rename_i k u e;cases h;obtain⟨f,h1,h2⟩:=AH e;rw[<-h2];exact hH.aI f h1;cases h
theorem abY{nm on:List UInt8}(hH:H.ok)(hV:∀f∈V,WT H.rs.length f.ty)(hk:∀e∈ks,WT H.rs.length e.ty)(h:lM H V k nm on od ks=some (t,r)):WT H.rs.length t:=by
 have h1:WT H.rs.length (rU ks):=by
  unfold rU;split;exact hk _ acz;exact Uw
 have Zq:=ox H.rs on od;unfold lM at h;by_cases c1:k=1\/k=11;rw[ah c1]at h;cases h;exact XN;rw[U c1]at h;by_cases c2:k=2;rw[ah c2]at h;cases h;exact Ux;rw[U c2]at h;by_cases c3:k=3;rw[ah c3]at h;exact sR h λ_=>Zq;rw[U c3]at h;by_cases c4:k=4;rw[ah c4]at h;exact abX hH hV h;rw[U c4]at h;by_cases c5:k=5;rw[ah c5]at h;unfold xO at h;split at h;split at h;rename_i s hs;split at h;rename_i i u e;cases h;obtain⟨f,h2,h3⟩:=AH e;rw[<-h3];exact hH.bE _ (List.mem_of_getElem? hs) f h2;cases h;cases h;cases h;rw[U c5]at h;by_cases c6:k=6;rw[ah c6]at h;refine sR h λhb=>?_;simp only[aac,aK]at hb;exact⟨by simp only;omega,by have:=h1.2.1;simp only;omega,h1.2.2⟩;rw[U c6]at h;by_cases c7:k=7;rw[ah c7]at h;unfold oY at h;split at h;rename_i i s e;split at h;cases h;exact(hH.aY s (HC e)).1;cases h;cases h;rw[U c7]at h;by_cases c8:k=8;rw[ah c8]at h;exact sR h λ_=>Zq;rw[U c8]at h;by_cases c9:k=9;rw[ah c9]at h;refine sR h λhb=>?_;simp only[aac,aK]at hb;exact⟨by have:=Zq.1;simp only;omega,by simp only;omega,Zq.2.2⟩;rw[U c9]at h;by_cases Rb:k=10;rw[ah Rb]at h;exact sR h λ_=>XN;rw[U Rb]at h;by_cases Rd:k=12;rw[ah Rd]at h;exact sR h λ_=>XN;rw[U Rd]at h;by_cases Re:k=13;rw[ah Re]at h;exact sR h λ_=>Ux;rw[U Re]at h;unfold KU at h;split at h;exact sR h λ_=>XN;split at h;exact sR h λ_=>Ux;split at h;exact sR h λ_=>Ux;exact sR h λ_=>Ux
theorem oy{e:E}{l:List E}{ys:List E}(h:lG H V (e::l)=.ok ys):∃y zs,zh H V e=.ok y/\y.ty≠T0/\lG H V l=.ok zs/\ys=y::zs:=by
 unfold lG at h;split at h;cases h;rename_i y hy;split at h;cases h;rename_i ht;split at h;cases h;rename_i zs hz;cases h;exact⟨y,zs,hy,ht,hz,rfl⟩
theorem tS{H:Hd}{V:List Vd}{P:E->Prop}:∀{l ys:List E},lG H V l=.ok ys->(∀e∈l,∀y,zh H V e=.ok y->P y)->∀y∈ys,P y
 |[],ys,h,_=>by
  unfold lG at h;cases h;simp
 |e::l,ys,h,hp=>by
  obtain⟨y,zs,h1,_,h2,rfl⟩:=oy h;intro z hz;rcases ac1.1 hz with e1|e1;subst e1;exact hp e acz _ h1;exact tS h2 (λe he=>hp e (ac0 _ he)) z e1
theorem BW{e y:E}(h:zh H V e=.ok y):∃ks t r,gK e.k e.n e.aG.length=true/\lG H V e.aG=.ok ks/\lM H V e.k e.nm e.on e.od ks=some (t,r)/\y=.mk e.k (qt e.k e.n) (kY e.k e.nm) (kZ e.k e.on) (k5 e.k e.od) ks e.a t r:=by
 obtain⟨k,n,nm,on,od,aG,a,ty,ref⟩:=e;unfold zh at h;split at h;rename_i hk;split at h;cases h;rename_i ks vJ;split at h;cases h;rename_i t r ht;cases h;exact⟨ks,t,r,hk,vJ,ht,rfl⟩;cases h
theorem Uy(hH:H.ok)(hV:∀f∈V,WT H.rs.length f.ty)(e:E):∀y,zh H V e=.ok y->WT H.rs.length y.ty:=by
 induction e using E.Ga with
 |_ e ih=>
  intro y h;obtain⟨ks,t,r,_,h2,h3,rfl⟩:=BW h;exact abY hH hV (tS h2 ih) h3
theorem pZ{H:Hd}{V:List Vd}:∀{l ys:List E},lG H V l=.ok ys->ys.length=l.length
 |[],ys,h=>by unfold lG at h;cases h;rfl|e::l,ys,h=>by
  obtain⟨y,zs,_,_,h2,rfl⟩:=oy h;simp[pZ h2]
theorem M0{n:Int}{m:Nat}(h:gK k n m=true):gK k (qt k n) m=true:=by
 unfold gK qt at *;split;rename_i c;rw[ah c]at h;exact h;rename_i c;rw[U c]at h;split;rename_i c2;rw[ah c2]at h;rw[ah (.inr c2)];exact h;rename_i c2;rw[U c2]at h;exact h
theorem Uz{nm on:List UInt8}:lM H V k (kY k nm) (kZ k on) (k5 k od) ks=lM H V k nm on od ks:=by
 unfold lM;by_cases c3:k=3;simp[kZ,k5,c3];by_cases c4:k=4;simp[kY,c4];by_cases c5:k=5;simp[kY,c5];by_cases c7:k=7;simp[kY,c7];by_cases c8:k=8;simp[kZ,k5,c8];by_cases c9:k=9;simp[kZ,k5,c9];simp only[U c3,U c4,U c5,U c7,U c8,U c9]
end lZ
namespace lZ
open Ax Go V7 kN
mutual
def Sm.sz:Sm->Nat
 |.mk _ _ _ _ es bd el _ _=>1+E.fY es+Sm.fY bd+Sm.fY el
def Sm.fY:List Sm->Nat
 |[]=>0|s::l=>Sm.sz s+Sm.fY l
end
theorem Sm.MZ(s:Sm):0<Sm.sz s:=by cases s;simp only[Sm.sz];omega
theorem Sm.eH:∀l:List Sm,l.length<=Sm.fY l
 |[]=>aau _|e::l=>by
  have:=Sm.eH l;have:=Sm.MZ e;simp only[Sm.fY,abr];omega
theorem Sm.fZ:∀{l:List Sm}{e:Sm},e∈l->Sm.sz e<=Sm.fY l
 |[],_,h=>by cases h|x::l,e,h=>by
  rcases ac1.1 h with h|h;subst h;simp only[Sm.fY];omega;have:=Sm.fZ h;simp only[Sm.fY];omega
theorem Sm.mX(s:Sm):Sm.sz s=1+E.fY s.es+Sm.fY s.bd+Sm.fY s.el:=by cases s;rfl
theorem abZ(H:Hd)(cP:Bool)(cH:T3)(V:List Vd)(k:Int)(nm on:List UInt8)(od:Int)(es:List E)(bd el:List Sm)(a ref:Int):zH H cP cH V (.mk k nm on od es bd el a ref)=if de cP k es then
   match mW H k on od with
   |none=>.error a|some t=>match uC H V k es with
    |.error x=>.error x|.ok ys=>match k6 H cH V k nm ys t with
     |none=>.error a|some (r,W)=>if k=5 then
       match lB H cP cH W bd with
       |.error x=>.error x|.ok (b,W1)=>match lB H cP cH W1 el with
        |.error x=>.error x|.ok (c,W2)=>.ok (.mk k (cM k nm) (bQ k on) (bR k od) ys b c a r,W2)
      else if k=6 then
       match lB H cP cH W bd with
       |.error x=>.error x|.ok (b,W1)=>.ok (.mk k (cM k nm) (bQ k on) (bR k od) ys b [] a r,W1)
      else .ok (.mk k (cM k nm) (bQ k on) (bR k od) ys [] [] a r,W)
  else .error a:=by
 (conv=>lhs;unfold zH)<;>rfl
theorem nG(H:Hd)(cP:Bool)(cH:T3)(V:List Vd)(s:Sm):zH H cP cH V s=if de cP s.k s.es then
   match mW H s.k s.on s.od with
   |none=>.error s.a|some t=>match uC H V s.k s.es with
    |.error x=>.error x|.ok ys=>match k6 H cH V s.k s.nm ys t with
     |none=>.error s.a|some (r,W)=>if s.k=5 then
       match lB H cP cH W s.bd with
       |.error x=>.error x|.ok (b,W1)=>match lB H cP cH W1 s.el with
        |.error x=>.error x|.ok (c,W2)=>.ok (.mk s.k (cM s.k s.nm) (bQ s.k s.on) (bR s.k s.od) ys b c s.a r,W2)
      else if s.k=6 then
       match lB H cP cH W s.bd with
       |.error x=>.error x|.ok (b,W1)=>.ok (.mk s.k (cM s.k s.nm) (bQ s.k s.on) (bR s.k s.od) ys b [] s.a r,W1)
      else .ok (.mk s.k (cM s.k s.nm) (bQ s.k s.on) (bR s.k s.od) ys [] [] s.a r,W)
  else .error s.a:=by
 obtain⟨k,nm,on,od,es,bd,el,a,ref⟩:=s;exact abZ H cP cH V k nm on od es bd el a ref
variable{H:Hd}{cP:Bool}{cH t:T3}{V X:List Vd}{l:List Sm}{k:Int}{nm:List UInt8}{es ys:List E}
theorem IV{s y:Sm}(h:zH H cP cH V s=.ok (y,X)):∃t ys r W,de cP s.k s.es=true/\mW H s.k s.on s.od=some t/\uC H V s.k s.es=.ok ys/\k6 H cH V s.k s.nm ys t=some (r,W)/\
  (s.k=5/\(∃b W1 c,lB H cP cH W s.bd=.ok (b,W1)/\lB H cP cH W1 s.el=.ok (c,X)/\y=.mk s.k (cM s.k s.nm) (bQ s.k s.on) (bR s.k s.od) ys b c s.a r)\/
   s.k=6/\(∃b,lB H cP cH W s.bd=.ok (b,X)/\y=.mk s.k (cM s.k s.nm) (bQ s.k s.on) (bR s.k s.od) ys b [] s.a r)\/
   s.k≠5/\s.k≠6/\X=W/\y=.mk s.k (cM s.k s.nm) (bQ s.k s.on) (bR s.k s.od) ys [] [] s.a r):=by
 rw[nG]at h;split at h;rename_i hf;split at h;cases h;rename_i t ht;split at h;cases h;rename_i ys tf;split at h;cases h;rename_i r W dL;refine⟨t,ys,r,W,hf,ht,tf,dL,?_⟩;split at h;rename_i h5;split at h;cases h;rename_i b W1 hb;split at h;cases h;rename_i c W2 hc;cases h;exact .inl ⟨h5,b,W1,c,hb,hc,rfl⟩;rename_i h5;split at h;rename_i h6;split at h;cases h;rename_i b W1 hb;cases h;exact .inr (.inl ⟨h6,b,hb,rfl⟩);rename_i h6;cases h;exact .inr (.inr ⟨h5,h6,rfl,rfl⟩);cases h
theorem AI{s:Sm}{zs:List Sm}(h:lB H cP cH V (s::l)=.ok (zs,X)):∃y W ys,zH H cP cH V s=.ok (y,W)/\lB H cP cH W l=.ok (ys,X)/\zs=y::ys:=by
 unfold lB at h;split at h;cases h;rename_i y W hy;split at h;cases h;rename_i ys X' hz;cases h;exact⟨y,W,ys,hy,hz,rfl⟩
theorem KW{W:List Vd}{r:Int}(h:k6 H cH V k nm es t=some (r,W)):W=V\/(k=1\/k=2)/\W=V++[⟨nm,t⟩]:=by
 unfold k6 at h;split at h;rename_i c;split at h;cases h;cases h;exact .inr ⟨.inl c,rfl⟩;split at h;rename_i c;split at h;split at h;cases h;cases h;exact .inr ⟨.inr c,rfl⟩;cases h;all_goals left
 split at h;split at h;split at h<;>cases h;rfl;cases h;split at h;split at h<;>cases h;rfl;split at h;split at h<;>cases h;rfl;split at h;split at h<;>cases h;rfl;split at h;split at h<;>cases h;rfl;cases h;rfl
theorem XO{on:List UInt8}{od:Int}(h:mW H k on od=some t):WT H.rs.length t:=by
 unfold mW at h;split at h;split at h<;>cases h;exact ox _ _ _;cases h;exact Uw
theorem AJ{H:Hd}{cP:Bool}{cH:T3}:∀{l ys:List Sm}{V X:List Vd},(∀s∈l,∀V y W,(∀f∈V,WT H.rs.length f.ty)->zH H cP cH V s=.ok (y,W)->(∀f∈W,WT H.rs.length f.ty)/\W.length<=V.length+Sm.sz s)->
  (∀f∈V,WT H.rs.length f.ty)->lB H cP cH V l=.ok (ys,X)->(∀f∈X,WT H.rs.length f.ty)/\X.length<=V.length+Sm.fY l
 |[],ys,V,X,_,hV,h=>by unfold lB at h;cases h;exact⟨hV,by simp[Sm.fY]⟩|s::l,ys,V,X,hp,hV,h=>by
  obtain⟨y,W,zs,h1,h2,rfl⟩:=AI h;obtain⟨a1,a2⟩:=hp s acz V y W hV h1;obtain⟨b1,b2⟩:=AJ (λs hs=>hp s (ac0 _ hs)) a1 h2;exact⟨b1,by simp only[Sm.fY];omega⟩
theorem Fe(s:Sm):∀V y W,(∀f∈V,WT H.rs.length f.ty)->zH H cP cH V s=.ok (y,W)->(∀f∈W,WT H.rs.length f.ty)/\W.length<=V.length+Sm.sz s:=by
 induction s using Sm.Ga with
 |_ s Gb Bq=>
  intro V y X hV h;obtain⟨t,ys,r,W,hf,ht,tf,dL,hh⟩:=IV h;have hW:(∀f∈W,WT H.rs.length f.ty)/\W.length<=V.length+1:=by
   rcases KW dL with e|⟨_,e⟩;subst e;exact⟨hV,by omega⟩;subst e;refine⟨λf hf=>?_,by simp⟩;rcases abw.1 hf with h|h;exact hV f h;rw[aem.1 h];exact XO ht
  have hz:=Sm.mX s;rcases hh with⟨_,b,W1,c,hb,hc,_⟩|⟨_,b,hb,_⟩|⟨_,_,rfl,_⟩;obtain⟨a1,a2⟩:=AJ Gb hW.1 hb;obtain⟨b1,b2⟩:=AJ Bq a1 hc;exact⟨b1,by omega⟩;obtain⟨a1,a2⟩:=AJ Gb hW.1 hb;exact⟨a1,by omega⟩;exact⟨hW.1,by omega⟩
theorem M3{ys:List Sm}(hV:∀f∈V,WT H.rs.length f.ty)(h:lB H cP cH V l=.ok (ys,X)):(∀f∈X,WT H.rs.length f.ty)/\X.length<=V.length+Sm.fY l:=
 AJ (λs _=>Fe s) hV h
theorem OS{e y:E}(h:zh H V e=.ok y):y.k=e.k:=by
 obtain⟨ks,t,r,_,_,_,rfl⟩:=BW h;rfl
theorem oz{l:List E}(h:lG H V l=.ok ys)(hf:de cP k l=true):de cP k ys=true:=by
 have hl:=pZ h;unfold de at hf ⊢;rw[hl];match l,hl,hf,h with
 |[],hl,hf,_=>rw[List.length_nil]at hl;rw[List.eq_nil_of_length_eq_zero hl];exact hf|[e],hl,hf,h=>
  obtain⟨y,zs,h1,_,h2,rfl⟩:=oy h;unfold lG at h2;cases h2;simpa [OS h1] using hf
 |[e,e2],hl,hf,h=>
  obtain⟨y,zs,h1,_,h2,rfl⟩:=oy h;obtain⟨y2,zs2,h3,_,h4,rfl⟩:=oy h2;unfold lG at h4;cases h4;simpa [OS h1] using hf
 |e::e2::e3::l,hl,hf,h=>
  obtain⟨y,zs,h1,_,h2,rfl⟩:=oy h;obtain⟨y2,zs2,h3,_,h4,rfl⟩:=oy h2;obtain⟨y3,zs3,h5,_,h6,rfl⟩:=oy h4;simp at hf
theorem ux(h:k≠9):uC H V k es=lG H V es:=by unfold uC;rw[U h]
theorem UA{e:E}:uC H V 9 [e]=match zh H V e with|.error x=>.error x|.ok y=>.ok [y]:=by unfold uC;rfl
theorem M5(h:de cP 9 es=true):∃e,es=[e]/\e.k=7:=by
 unfold de at h;match es,h with
 |[],h=>cases h|[e],h=>exact⟨e,rfl,by simpa using h⟩|_::_::_,h=>cases h
theorem UB{l:List E}(h:uC H V k l=.ok ys)(hf:de cP k l=true):de cP k ys=true:=by
 by_cases h9:k=9;subst h9;obtain⟨e,rfl,he⟩:=M5 hf;rw[UA]at h;split at h;cases h;rename_i y hy;cases h;unfold de;simpa [OS hy] using he;rw[ux h9]at h;exact oz h hf
theorem oA:k6 H cH V k (cM k nm) es t=k6 H cH V k nm es t:=by
 unfold k6;by_cases h1:k=1;simp[cM,h1];by_cases h2:k=2;simp[cM,h2];by_cases h3:k=3;simp[cM,h3];simp only[U h1,U h2,U h3]
theorem IW{H:Hd}{V:List Vd}:∀{l ys:List E},(∀e∈l,∀y,zh H V e=.ok y->E.sz y=E.sz e)->lG H V l=.ok ys->E.fY ys=E.fY l
 |[],ys,_,h=>by unfold lG at h;cases h;rfl|e::l,ys,hp,h=>by
  obtain⟨y,zs,h1,_,h2,rfl⟩:=oy h;simp only[E.fY,hp e acz y h1,IW (λe he=>hp e (ac0 _ he)) h2]
theorem UC(e:E):∀y,zh H V e=.ok y->E.sz y=E.sz e:=by
 induction e using E.Ga with
 |_ e ih=>
  intro y h;obtain⟨ks,t,r,_,h2,_,rfl⟩:=BW h;rw[E.ry e];simp only[E.sz,IW ih h2]
theorem ab0{l:List E}(h:lG H V l=.ok ys):E.fY ys=E.fY l:=IW (λe _=>UC e) h
theorem ab1{l:List E}(h:uC H V k l=.ok ys)(hf:de cP k l=true):E.fY ys=E.fY l:=by
 by_cases h9:k=9;subst h9;obtain⟨e,rfl,he⟩:=M5 hf;rw[UA]at h;split at h;cases h;rename_i y hy;cases h;simp only[E.fY,UC e y hy];rw[ux h9]at h;exact ab0 h
theorem AK{H:Hd}{cP:Bool}{cH:T3}:∀{l ys:List Sm}{V X:List Vd},(∀s∈l,∀V y W,zH H cP cH V s=.ok (y,W)->Sm.sz y<=Sm.sz s)->lB H cP cH V l=.ok (ys,X)->Sm.fY ys<=Sm.fY l
 |[],ys,V,X,_,h=>by unfold lB at h;cases h;exact aau _|s::l,ys,V,X,hp,h=>by
  obtain⟨y,W,zs,h1,h2,rfl⟩:=AI h;have a:=hp s acz V y W h1;have b:=AK (λs hs=>hp s (ac0 _ hs)) h2;simp only[Sm.fY];omega
theorem ab2(s:Sm):∀V y W,zH H cP cH V s=.ok (y,W)->Sm.sz y<=Sm.sz s:=by
 induction s using Sm.Ga with
 |_ s Gb Bq=>
  intro V y X h;obtain⟨t,ys,r,W,hf,ht,tf,dL,hh⟩:=IV h;have e:=ab1 tf hf;have hz:=Sm.mX s;rcases hh with⟨h5,b,W1,c,hb,hc,rfl⟩|⟨h6,b,hb,rfl⟩|⟨h5,h6,rfl,rfl⟩;have b2:=AK Gb hb;have c2:=AK Bq hc;simp only[Sm.sz];omega;have b2:=AK Gb hb;simp only[Sm.sz,Sm.fY];omega;simp only[Sm.sz,Sm.fY];omega
theorem ab3{ys:List Sm}(h:lB H cP cH V l=.ok (ys,X)):Sm.fY ys<=Sm.fY l:=AK (λs _=>ab2 s) h
theorem HD{H:Hd}{n:Nat}:∀{ss:List Sg}{fs:List Fc}{bs:List Bd},sQ H ss fs=.ok bs->(∀f∈fs,Sm.fY f.body<=n)->∀b∈bs,Sm.fY b.code<=n
 |[],fs,bs,h,_=>by unfold sQ at h;cases h;simp|_::_,[],bs,h,_=>by unfold sQ at h;cases h;simp|s::ss,f::fs,bs,h,hp=>by
  unfold sQ at h;split at h;cases h;rename_i c W hc;split at h;cases h;rename_i l F6;cases h;intro b hb;rcases ac1.1 hb with e|e;subst e;have:=ab3 hc;have:=hp f acz;simp only;omega;exact HD F6 (λf hf=>hp f (ac0 _ hf)) b e
theorem KX{H:Hd}(hH:H.ok){n:Nat}:∀{ss:List Sg}{fs:List Fc}{bs:List Bd},sQ H ss fs=.ok bs->(∀s∈ss,∀f∈s.ps,WT H.rs.length f.ty)->(∀s∈ss,s.ps.length<=n)->(∀f∈fs,Sm.fY f.body<=n)->∀b∈bs,b.vars.length<=n+n
 |[],fs,bs,h,_,_,_=>by unfold sQ at h;cases h;simp|_::_,[],bs,h,_,_,_=>by unfold sQ at h;cases h;simp|s::ss,f::fs,bs,h,hs,hp,hq=>by
  unfold sQ at h;split at h;cases h;rename_i c W hc;split at h;cases h;rename_i l F6;cases h;intro b hb;rcases ac1.1 hb with e|e;subst e;have:=(M3 (hs s acz) hc).2;have:=hp s acz;have:=hq f acz;simp only;omega;exact KX hH F6 (λs h=>hs s (ac0 _ h)) (λs h=>hp s (ac0 _ h)) (λf h=>hq f (ac0 _ h)) b e
end lZ
namespace lZ
open Ax Go V7 kN
variable{od a:Int}{e:E}{f:Nat}{q r:RQ}{T:List Tk}
theorem BX{k n:Int}{nm on:List UInt8}{ks:List E}:E.sz (Em k n nm on od ks a)=1+E.fY ks:=rfl
theorem rz:E.fY []=0:=rfl
theorem lQ:E.fY [e]=E.sz e:=by simp[E.fY]
theorem IX{f:E}:E.fY [e,f]=E.sz e+E.sz f:=by simp[E.fY]
theorem OT:∀l r:List E,E.fY (l++r)=E.fY l+E.fY r
 |[],r=>by simp[E.fY]|e::l,r=>by
  have:=OT l r;simp only[acA,E.fY];omega
theorem OU:∀l r:List Sm,Sm.fY (l++r)=Sm.fY l+Sm.fY r
 |[],r=>by simp[Sm.fY]|e::l,r=>by
  have:=OU l r;simp only[acA,Sm.fY];omega
theorem oB:Sm.fY []=0:=rfl
theorem XP{e:Sm}:Sm.fY [e]=Sm.sz e:=by simp[Sm.fY]
theorem Ff{k:Int}{nm on:List UInt8}{es:List E}{bd el:List Sm}{ref:Int}:Sm.sz (.mk k nm on od es bd el a ref)=1+E.fY es+Sm.fY bd+Sm.fY el:=rfl
theorem jM:(cv q).at_=q.at_+1:=rfl
theorem XQ{d:Int}:(xK q d).at_=q.at_:=rfl
theorem XR{d:Int}:(xK q d).fe=q.fe:=rfl
theorem rA(w:wg T q r)(f:r.fe=0):q.at_+1<=r.at_:=by
 rcases w with w|⟨_,w⟩;exact aU f w;exact w
theorem KY(T:List Tk):∀f:Nat,(∀n q e r,jO T f n q=some (e,r)->r.fe=0->E.sz e+q.at_<=r.at_)/\(∀n a q e r,pF T f n a q=some (e,r)->r.fe=0->E.sz e+q.at_<=r.at_+E.sz a)/\
  (∀q e r,qJ T f q=some (e,r)->r.fe=0->E.sz e+q.at_<=r.at_)/\(∀a q e r,kW T f a q=some (e,r)->r.fe=0->E.sz e+q.at_<=r.at_+E.sz a)/\(∀q e r,oo T f q=some (e,r)->r.fe=0->E.sz e+q.at_<=r.at_)/\
  (∀q e r,qK T f q=some (e,r)->r.fe=0->E.sz e+q.at_<=r.at_)/\(∀a q e r,qL T f a q=some (e,r)->r.fe=0->E.sz e+q.at_<=r.at_)/\(∀q e r,wG T f q=some (e,r)->r.fe=0->E.fY e+q.at_<=r.at_)/\
  (∀l q e r,uZ T f l q=some (e,r)->r.fe=0->E.fY e+q.at_<=r.at_+E.fY l)
 |0=>by simp[jO,pF,qJ,kW,oo,qK,qL,wG,uZ]|f+1=>by
  obtain⟨hE,hS,hU,hB,hI,hF,hN,hA,hM⟩:=KY T f;obtain⟨gE,gS,gU,gB,gI,gF,gN,gA,gM⟩:=AG T f;refine⟨λn q e r h fr=>?_,λn a q e r h fr=>?_,λq e r h fr=>?_,λa q e r h fr=>?_,λq e r h fr=>?_,λq e r h fr=>?_,λa q e r h fr=>?_,λq e r h fr=>?_,λl q e r h fr=>?_⟩;unfold jO at h;split at h;exact hU _ _ _ h fr;obtain⟨⟨x1,x2⟩,h1,h2⟩:=aai.1 h;have f2:=(gS _ _ _ _ _ h2).CA fr;have:=hE _ _ _ _ h1 f2;have:=hS _ _ _ _ _ h2 fr
  (try dsimp only at *);omega
  unfold pF at h;split at h;rename_i c;obtain⟨⟨x1,x2⟩,h1,h2⟩:=aai.1 h;have f2:=(gS _ _ _ _ _ h2).CA fr;have a1:=hE _ _ _ _ h1 f2;have a2:=hS _ _ _ _ _ h2 fr;rw[BX,IX]at a2;rw[jM]at a1
  (try dsimp only at *);omega
  cases h;omega;unfold qJ at h;split at h;obtain⟨⟨x1,x2⟩,h1,h2⟩:=aai.1 h;cases h2;rw[XR]at fr;have a1:=hE _ _ _ _ h1 fr;have a2:=rA kX ((gE _ _ _ _ h1).CA fr);rw[BX,lQ,XQ]
  (try dsimp only at *);omega
  obtain⟨⟨x1,x2⟩,h1,h2⟩:=aai.1 h;have f2:=(gB _ _ _ _ h2).CA fr;have:=hF _ _ _ h1 f2;have:=hB _ _ _ _ h2 fr
  (try dsimp only at *);omega
  unfold kW at h;split at h;rename_i c;have a1:=hB _ _ _ _ h fr;rw[BX,lQ]at a1;have a2:=(jc (T:=T) (q:=cv q)).le;rw[jM]at a2;omega;split at h;obtain⟨⟨x1,x2⟩,h1,h2⟩:=aai.1 h;have f2:=(gB _ _ _ _ h2).CA fr;have f3:=(fT (T:=T) (q:=x2) (s:=[93])).CA f2;have a1:=hE _ _ _ _ h1 f3;have a2:=rA kX ((gE _ _ _ _ h1).CA f3);have a3:=hB _ _ _ _ h2 fr;have a4:=(fT (T:=T) (q:=x2) (s:=[93])).le;rw[BX,IX]at a3
  (try dsimp only at *);omega
  cases h;omega;unfold oo at h;obtain⟨⟨x1,x2⟩,h1,h2⟩:=aai.1 h;cases h2;have f3:=(fT (T:=T) (q:=x2) (s:=[41])).CA fr;have a1:=hE _ _ _ _ h1 f3;have a2:=rA kX ((gE _ _ _ _ h1).CA f3);have a4:=(fT (T:=T) (q:=x2) (s:=[41])).le
  (try dsimp only at *);omega
  unfold qK at h;split at h;cases h;rw[BX,rz,jM];omega;split at h;cases h;rw[BX,rz,jM];omega;split at h;cases h;have:=(oq (T:=T) (q:=cv q)).le;rw[jM]at this;rw[BX,rz];omega;split at h;have:=hN _ _ _ _ h fr;rw[jM]at this;omega;split at h;obtain⟨⟨x1,x2⟩,h1,h2⟩:=aai.1 h;cases h2;have a1:=hI _ _ _ h1 fr;rw[jM]at a1;rw[BX,lQ]
  (try dsimp only at *);omega
  split at h;cases h;have a1:=((gm (T:=T) (q:=cv q) (s:=[40])).trans (fT (s:=[41]))).le;rw[jM]at a1;rw[BX,rz];omega;split at h;exact hI _ _ _ h fr;split at h;obtain⟨⟨x1,x2⟩,h1,h2⟩:=aai.1 h;cases h2;have a1:=hA _ _ _ h1 fr;have a2:=rA pH ((gA _ _ _ h1).CA fr);rw[BX]
  (try dsimp only at *);omega
  cases h;have a2:=rA pH fr;rw[BX,rz];omega;unfold qL at h;split at h;obtain⟨⟨x1,x2⟩,h1,h2⟩:=aai.1 h;cases h2;have a1:=hI _ _ _ h1 fr;have a2:=((oq (T:=T) (q:=cv q)).trans (bX (s:=[93]))).le;rw[jM]at a2;rw[BX,lQ]
  (try dsimp only at *);omega
  cases h;have a2:=rA pH fr;rw[BX,rz];omega;unfold wG at h;split at h;cases h;have a1:=((gm (T:=T) (q:=q) (s:=[40])).trans (fT (s:=[41]))).le;rw[rz];omega;obtain⟨⟨x1,x2⟩,h1,h2⟩:=aai.1 h;have f2:=(gM _ _ _ _ h2).CA fr;have a1:=hE _ _ _ _ h1 f2;have a2:=(gm (T:=T) (q:=q) (s:=[40])).le;have a3:=hM _ _ _ _ h2 fr;rw[lQ]at a3
  (try dsimp only at *);omega
  unfold uZ at h;split at h;obtain⟨⟨x1,x2⟩,h1,h2⟩:=aai.1 h;have f2:=(gM _ _ _ _ h2).CA fr;have a1:=hE _ _ _ _ h1 f2;rw[jM]at a1;have a3:=hM _ _ _ _ h2 fr;rw[OT,lQ]at a3
  (try dsimp only at *);omega
  cases h;have a1:=(fT (T:=T) (q:=q) (s:=[41])).le;omega
theorem mN{n:Nat}(h:jO T f n q=some (e,r))(fr:r.fe=0):E.sz e+q.at_<=r.at_:=(KY T f).1 _ _ _ _ h fr
theorem M6{s:Sm}(h:uv T f a q=some (s,r))(fr:r.fe=0):Sm.sz s+q.at_<=r.at_:=by
 unfold uv at h;obtain⟨⟨x1,x2⟩,h1,h2⟩:=aai.1 h;dsimp only at h2;split at h2;obtain⟨⟨y1,y2⟩,h3,h4⟩:=aai.1 h2;cases h4;have f1:=(bX (T:=T) (q:=y2) (s:=[59])).CA fr;have w:=rA kI fr;have a3:=mN h3 f1;have f3:=(jx h3).CA f1;have w2:=rA kI f3;have f4:=bX.CA f3;by_cases c:x1.k=4\/x1.k=5\/x1.k=6;rw[ah c]at w2 f4;have a1:=mN h1 f4;rw[ah c]at a3;by_cases c4:x1.k=4;rw[ah c4,Ff,lQ,oB];(try dsimp only at *);omega;rw[U c4,Ff,IX,oB];(try dsimp only at *);omega;rw[U c]at f4;exact aU f4 (lA (by decide));cases h2;have f1:=(bX).CA fr;have w:=rA kI fr;by_cases c:iZ T x2 [59]=true/\x1.k≠7;rw[ah c]at f1;exact aU f1 (lA (by decide));rw[U c]at f1 w;have a1:=mN h1 f1;rw[Ff,lQ,oB,U c];(try dsimp only at *);omega
theorem Fg(T:List Tk):∀f:Nat,(∀q s r,wH T f q=some (s,r)->r.fe=0->Sm.sz s+q.at_<=r.at_)/\(∀q s r,kH T f q=some (s,r)->r.fe=0->Sm.fY s+q.at_<=r.at_)/\
  (∀l q s r,pG T f l q=some (s,r)->r.fe=0->Sm.fY s+q.at_<=r.at_+Sm.fY l)
 |0=>by simp[wH,kH,pG]|f+1=>by
  obtain⟨hS,hB,hL⟩:=Fg T f;obtain⟨gS,gB,gL⟩:=sM T f;refine⟨λq s r h fr=>?_,λq s r h fr=>?_,λl q s r h fr=>?_⟩;unfold wH at h;split at h;cases h;have:=((jF (T:=T) (q:=cv q)).trans (bX (s:=[59]))).le;rw[jM]at this;rw[Ff,rz,oB];omega;split at h;obtain⟨⟨x1,x2⟩,h1,h2⟩:=aai.1 h;cases h2;have f1:=bX.CA fr;have a1:=mN h1 f1;have a2:=((jF (T:=T) (q:=cv q)).trans (bX (s:=[61]))).le;have a3:=(bX (T:=T) (q:=x2) (s:=[59])).le;rw[jM]at a2;rw[Ff,lQ,oB];(try dsimp only at *);omega;split at h;obtain⟨⟨x1,x2⟩,h1,h2⟩:=aai.1 h;obtain⟨⟨y1,y2⟩,h3,h4⟩:=aai.1 h2;dsimp only at h4;split at h4;rename_i d;obtain⟨⟨z1,z2⟩,h5,h6⟩:=aai.1 h4;cases h6;have f1:=(gB _ _ _ h5).1.CA fr;have f2:y2.fe=0:=f1;have f3:=(gB _ _ _ h3).1.CA f2;have a1:=mN h1 f3;have a2:=hB _ _ _ h3 f2;have a3:=hB _ _ _ h5 fr;rw[jM]at a1 a3;rw[Ff,lQ];(try dsimp only at *);omega;cases h4;have f3:=(gB _ _ _ h3).1.CA fr;have a1:=mN h1 f3;have a2:=hB _ _ _ h3 fr;rw[jM]at a1;rw[Ff,lQ,oB];(try dsimp only at *);omega;split at h;obtain⟨⟨x1,x2⟩,h1,h2⟩:=aai.1 h;obtain⟨⟨y1,y2⟩,h3,h4⟩:=aai.1 h2;cases h4;have f3:=(gB _ _ _ h3).1.CA fr;have a1:=mN h1 f3;have a2:=hB _ _ _ h3 fr;rw[jM]at a1;rw[Ff,lQ,oB];(try dsimp only at *);omega;split at h;split at h;cases h;have a2:=(bX (T:=T) (q:=cv q) (s:=[59])).le;rw[jM]at a2;rw[Ff,rz,oB];omega;obtain⟨⟨x1,x2⟩,h1,h2⟩:=aai.1 h;cases h2;have f1:=bX.CA fr;have a1:=mN h1 f1;have a3:=(bX (T:=T) (q:=x2) (s:=[59])).le;rw[jM]at a1;rw[Ff,lQ,oB];(try dsimp only at *);omega;split at h;obtain⟨⟨x1,x2⟩,h1,h2⟩:=aai.1 h;cases h2;have f1:=bX.CA fr;have a1:=mN h1 f1;have a3:=(bX (T:=T) (q:=x2) (s:=[59])).le;rw[jM]at a1;rw[Ff,lQ,oB];(try dsimp only at *);omega;exact M6 h fr;unfold kH at h;have a1:=hL _ _ _ _ h fr;have a2:=(gm (T:=T) (q:=q) (s:=[123])).le;rw[oB]at a1;omega;unfold pG at h;split at h;obtain⟨⟨x1,x2⟩,h1,h2⟩:=aai.1 h;have f1:=(gL _ _ _ _ h2).CA fr;have a1:=hS _ _ _ h1 f1;have a2:=hL _ _ _ _ h2 fr;rw[OU,XP]at a2
  (try dsimp only at *);omega
  cases h;have a2:=(fT (T:=T) (q:=q) (s:=[125])).le;omega
theorem Fh{s:List Sm}(h:kH T f q=some (s,r))(fr:r.fe=0):Sm.fY s+q.at_<=r.at_:=(Fg T f).2.1 _ _ _ h fr
theorem Qz{s:Fc}(h:xL T f q=some (s,r))(fr:r.fe=0):Sm.fY s.body<=r.at_:=by
 unfold xL at h;obtain⟨⟨x1,x2⟩,h1,h2⟩:=aai.1 h;dsimp only at h2;split at h2;obtain⟨⟨y1,y2⟩,h3,h4⟩:=aai.1 h2;cases h4;have:=Fh h3 fr
 (try dsimp only at *);omega
 obtain⟨⟨y1,y2⟩,h3,h4⟩:=aai.1 h2;cases h4;have:=Fh h3 fr
 (try dsimp only at *);omega
theorem pJ{T:List Tk}:∀(f:Nat)(p:Pg)(q:RQ)(s:Pg)(r:RQ),qp T f p q=some (s,r)->q.at_<=T.length->(q.fe=0->∀g∈p.funcs,Sm.fY g.body<=T.length)->r.fe=0->∀g∈s.funcs,Sm.fY g.body<=T.length
 |0,_,_,_,_,h,_,_=>by simp[qp]at h|f+1,p,q,s,r,h,hq,hp=>by
  unfold qp at h;split at h;rename_i c;split at h;exact pJ f _ _ _ _ h (jW.ub hq) λe=>aU e (lA (by decide));split at h;rename_i d;obtain⟨⟨x1,x2⟩,h1,h2⟩:=aai.1 h;exact pJ f _ _ _ _ h2 ((CD h1).1.ub (bZ d).2) λe=>hp c.1;split at h;rename_i d;exact pJ f _ _ _ _ h ((jF.trans bX).ub (bZ d).2) λe=>hp c.1;split at h;rename_i d;obtain⟨⟨x1,x2⟩,h1,h2⟩:=aai.1 h;have hu:=(Hx h1).1.ub (bZ d).2;exact pJ f _ _ _ _ h2 hu λe g hg=>by
   rcases abw.1 hg with hg|hg;exact hp c.1 g hg;rw[aem.1 hg];have:=Qz h1 e
   (try dsimp only at *);omega
  exact pJ f _ _ _ _ h (jW.ub hq) λe=>aU e (lA (by decide));cases h;exact λe=>hp e
theorem QA{x:Pg×Int×Int}(h:v8 T f=some x):∀g∈x.1.funcs,Sm.fY g.body<=T.length:=by
 unfold v8 at h;obtain⟨⟨p,r⟩,h1,h2⟩:=aai.1 h;dsimp only at h2;split at h2;rename_i c;cases h2;exact pJ f _ _ _ _ h1 (Nat.zero_le _) (λ_ g hg=>by cases hg) c;cases h2;intro g hg;cases hg
end lZ
namespace lZ
open Ax Go V7 kN
def lR(a b:Option Int):Option Int:=match a with
 |some x=>some x|none=>b
theorem lC{a:Option Int}:lR a none=a:=by cases a<;>rfl
theorem jd{a b c:Option Int}:lR (lR a b) c=lR a (lR b c):=by cases a<;>rfl
mutual
def AM(su:List Bool):E->Option Int
 |.mk k _ _ _ _ aG a _ ref=>lR (lX su aG) (if k=4/\0<=ref/\su[ref.toNat]?=some false then some a else none)
def lX(su:List Bool):List E->Option Int
 |[]=>none|e::l=>lR (AM su e) (lX su l)
end
mutual
def oC:List Bool->Sm->List Bool×Option Int
 |su,.mk k _ _ _ es bd el _ ref=>
  if k=1 then (su.set ref.toNat false,lX su es)
  else if k=2\/k=3 then (if 0<=ref then su.set ref.toNat true else su,lX su es)
  else if k=7 then (su.map λ_=>true,lX su es)
  else if k=6 then (su,lR (lX su es) (iH su bd).2)
  else if k=5 then (List.zipWith (λa b=>a&&b) (iH su bd).1 (iH su el).1,lR (lX su es) (lR (iH su bd).2 (iH su el).2))
  else (su,lX su es)
def iH:List Bool->List Sm->List Bool×Option Int
 |su,[]=>(su,none)
 |su,s::l=>((iH (oC su s).1 l).1,lR (oC su s).2 (iH (oC su s).1 l).2)
end
theorem OV(su:List Bool)(e:E):AM su e=lR (lX su e.aG) (if e.k=4/\0<=e.ref/\su[e.ref.toNat]?=some false then some e.a else none):=by
 obtain⟨k,n,nm,on,od,aG,a,ty,ref⟩:=e
 (conv=>lhs;unfold AM)<;>rfl
theorem yB(su:List Bool)(e:E)(l:List E):lX su (e::l)=lR (AM su e) (lX su l):=by
 (conv=>lhs;unfold lX)<;>rfl
theorem OW(su:List Bool)(s:Sm):oC su s =
  if s.k=1 then (su.set s.ref.toNat false,lX su s.es)
  else if s.k=2\/s.k=3 then (if 0<=s.ref then su.set s.ref.toNat true else su,lX su s.es)
  else if s.k=7 then (su.map λ_=>true,lX su s.es)
  else if s.k=6 then (su,lR (lX su s.es) (iH su s.bd).2)
  else if s.k=5 then (List.zipWith (λa b=>a&&b) (iH su s.bd).1 (iH su s.el).1,lR (lX su s.es) (lR (iH su s.bd).2 (iH su s.el).2))
  else (su,lX su s.es):=by
 obtain⟨k,nm,on,od,es,bd,el,a,ref⟩:=s
 (conv=>lhs;unfold oC)<;>rfl
theorem HE(su:List Bool)(s:Sm)(l:List Sm):iH su (s::l)=((iH (oC su s).1 l).1,lR (oC su s).2 (iH (oC su s).1 l).2):=by
 (conv=>lhs;unfold iH)<;>rfl
theorem KZ(su:List Bool):iH su []=(su,none):=by unfold iH;rfl
mutual
theorem Fi:∀(su:List Bool)(s:Sm),(oC su s).1.length=su.length
 |su,.mk k nm on od es bd el a ref=>by
  unfold oC;split;simp;split;split<;>simp;split;simp;split
  rfl
  split;simp[sS su bd,sS su el]
  rfl
theorem sS:∀(su:List Bool)(l:List Sm),(iH su l).1.length=su.length
 |su,[]=>by unfold iH;rfl|su,s::l=>by
  unfold iH;simp only;rw[sS (oC su s).1 l,Fi su s]
end
mutual
def AN(n:Nat):E->Prop
 |.mk k _ _ _ _ aG _ _ ref=>(k=4->ref<n)/\wm n aG
def wm(n:Nat):List E->Prop
 |[]=>True|e::l=>AN n e/\wm n l
end
mutual
def C6(n:Nat):Sm->Prop
 |.mk k _ _ _ es bd el _ ref=>wm n es/\(k=1\/k=2->0<=ref/\ref<n)/\(k=3->ref<n)/\pK n bd/\pK n el
def pK(n:Nat):List Sm->Prop
 |[]=>True|s::l=>C6 n s/\pK n l
end
theorem rB(n:Nat)(e:E):AN n e↔(e.k=4->e.ref<n)/\wm n e.aG:=by
 obtain⟨k,_,nm,on,od,aG,a,ty,ref⟩:=e;unfold AN;exact Iff.rfl
theorem rC(n:Nat)(s:Sm):C6 n s↔wm n s.es/\(s.k=1\/s.k=2->0<=s.ref/\s.ref<n)/\(s.k=3->s.ref<n)/\pK n s.bd/\pK n s.el:=by
 obtain⟨k,nm,on,od,es,bd,el,a,ref⟩:=s;unfold C6;exact Iff.rfl
theorem jG(n:Nat):∀l:List E,wm n l↔∀e∈l,AN n e
 |[]=>by simp[wm]|e::l=>by simp[wm,jG n l]
theorem oD(n:Nat):∀l:List Sm,pK n l↔∀e∈l,C6 n e
 |[]=>by simp[pK]|e::l=>by simp[pK,oD n l]
variable{n m:Nat}{H:Hd}{V:List Vd}{cH:T3}{cP:Bool}
theorem QB(h:n<=m)(e:E):AN n e->AN m e:=by
 induction e using E.Ga with
 |_ e ih=>
  rw[rB,rB,jG,jG];exact λ⟨h1,h2⟩=>⟨λhk=>by have:=h1 hk;omega,λx hx=>ih x hx (h2 x hx)⟩
theorem yC(h:n<=m)(l:List E):wm n l->wm m l:=by
 rw[jG,jG];exact λh2 x hx=>QB h x (h2 x hx)
theorem HF(h:n<=m)(s:Sm):C6 n s->C6 m s:=by
 induction s using Sm.Ga with
 |_ s Gb Bq=>
  rw[rC,rC];rintro⟨h1,h2,h3,h4,h5⟩;rw[oD]at h4 h5 ⊢;refine⟨yC h _ h1,λhk=>?_,λhk=>?_,λx hx=>Gb x hx (h4 x hx),?_⟩;have:=h2 hk;omega;have:=h3 hk;omega;rw[oD];exact λx hx=>Bq x hx (h5 x hx)
theorem QC(h:n<=m)(l:List Sm):pK n l->pK m l:=by
 rw[oD,oD];exact λh2 x hx=>HF h x (h2 x hx)
theorem IY{s:List UInt8}:∀{l:List Vd}{i k:Nat}{t:T3},fN s i l=some (k,t)->k<i+l.length
 |[],_,_,_,h=>by cases h|f::l,i,k,t,h=>by
  unfold fN at h;split at h;cases h;simp;have:=IY h;simp only[abr];omega
theorem UD{s:List UInt8}{t:T3}{r:Int}(h:uw H V s=some (t,r)):r<V.length:=by
 unfold uw at h;split at h;rename_i e;cases h;have:=IY e;omega;split at h;cases h;omega;cases h
theorem OX(e:E):∀y,zh H V e=.ok y->AN V.length y:=by
 induction e using E.Ga with
 |_ e ih=>
  intro y h;obtain⟨ks,t,r,_,h2,h3,rfl⟩:=BW h;rw[rB];refine⟨λhk=>?_,?_⟩;have hk:e.k=4:=hk;show r<_;unfold lM at h3;rw[U (by omega),U (by omega),U (by omega),ah hk]at h3;exact UD h3;show wm _ ks;rw[jG];exact tS h2 ih
theorem AO{H:Hd}{cP:Bool}{cH:T3}:∀{l ys:List Sm}{V X:List Vd},(∀s∈l,∀V y W,zH H cP cH V s=.ok (y,W)->V.length<=W.length/\C6 W.length y)->lB H cP cH V l=.ok (ys,X)->V.length<=X.length/\pK X.length ys
 |[],ys,V,X,_,h=>by
  unfold lB at h;cases h;exact⟨aau _,by simp[pK]⟩
 |s::l,ys,V,X,hp,h=>by
  obtain⟨y,W,zs,h1,h2,rfl⟩:=AI h;obtain⟨a1,a2⟩:=hp s acz V y W h1;obtain⟨b1,b2⟩:=AO (λt ht=>hp t (ac0 _ ht)) h2;refine⟨by omega,?_⟩;unfold pK;exact⟨HF b1 _ a2,b2⟩
theorem agI{W:List Vd}{k:Int}{nm:List UInt8}{es:List E}{t:T3}{r:Int}(h:k6 H cH V k nm es t=some (r,W)):(k=1\/k=2->r=V.length)/\(k=3->r<V.length):=by
 unfold k6 at h;split at h;rename_i c;split at h;cases h;cases h;exact⟨λ_=>rfl,λh=>by omega⟩;rename_i n1;split at h;rename_i c;split at h;split at h;cases h;cases h;exact⟨λ_=>rfl,λh=>by omega⟩;cases h;rename_i n2;split at h;rename_i c;split at h;rename_i u r' e;split at h;cases h;exact⟨λh=>by omega,λ_=>UD e⟩;cases h;cases h;rename_i n3;exact⟨λh=>by omega,λh=>by omega⟩
theorem ab4{k:Int}{es ys:List E}(h:uC H V k es=.ok ys):wm V.length ys:=by
 unfold uC at h;rw[jG];split at h;split at h;rename_i e l;cases hx:zh H V e with
 |error a=>rw[hx]at h;cases h|ok y=>
  rw[hx]at h;cases h;intro z hz;rw[aem.1 hz];exact OX e y hx
 cases h;simp;exact tS h λe _ y hy=>OX e y hy
theorem XS(s:Sm):∀V y X,zH H cP cH V s=.ok (y,X)->V.length<=X.length/\C6 X.length y:=by
 induction s using Sm.Ga with
 |_ s Gb Bq=>
  intro V y X h;obtain⟨t,ys,r,W,hf,ht,tf,dL,hh⟩:=IV h;have jj:=ab4 tf;have hVW:V.length<=W.length:=by
   rcases KW dL with e|⟨_,e⟩;rw[e];exact aau _;rw[e];simp
  have hr:=agI dL;have zY:s.k=1\/s.k=2->0<=r/\r<(W.length:Int):=λhk=>by
   rcases KW dL with e|⟨_,e⟩;have h1:=hr.1 hk;have:W.length=V.length+1:=by
    unfold k6 at dL;rcases hk with hk|hk;rw[ah hk]at dL;split at dL;cases dL;cases dL;simp;rw[U (by omega),ah hk]at dL;split at dL;split at dL;cases dL;cases dL;simp;cases dL
   omega;have h1:=hr.1 hk;rw[e,h1];simp;omega
  have hr3:s.k=3->r<(W.length:Int):=λhk=>by have:=hr.2 hk;omega
  rcases hh with⟨h5,b,W1,c,hb,hc,rfl⟩|⟨h6,b,hb,rfl⟩|⟨h5,h6,rfl,rfl⟩;obtain⟨a1,a2⟩:=AO (λx hx V y W hw=>Gb x hx V y W hw) hb;obtain⟨b1,b2⟩:=AO (λx hx V y W hw=>Bq x hx V y W hw) hc;refine⟨by omega,(rC _ _).2 ⟨yC (by omega) _ jj,λhk=>?_,λhk=>?_,QC b1 _ a2,b2⟩⟩;have hk:s.k=1\/s.k=2:=hk;omega;have hk:s.k=3:=hk;omega;obtain⟨a1,a2⟩:=AO (λx hx V y W hw=>Gb x hx V y W hw) hb;refine⟨by omega,(rC _ _).2 ⟨yC (by omega) _ jj,λhk=>?_,λhk=>?_,a2,by simp[Sm.el,pK]⟩⟩;have hk:s.k=1\/s.k=2:=hk;omega;have hk:s.k=3:=hk;omega;exact⟨hVW,(rC _ _).2 ⟨yC hVW _ jj,zY,hr3,by simp[Sm.bd,pK],by simp[Sm.el,pK]⟩⟩
theorem XT{l ys:List Sm}{X:List Vd}(h:lB H cP cH V l=.ok (ys,X)):V.length<=X.length/\pK X.length ys:=
 AO (λs _ V y W=>XS s V y W) h
def su0(g:Sg)(b:Bd):List Bool:=aak g.ps.length true++aak (b.vars.length-g.ps.length) false
def zI:List Sg->List Bd->Option Int
 |s::ss,b::bs=>lR (iH (su0 s b) b.code).2 (zI ss bs)|_,_=>none
theorem AP{H:Hd}:∀{ss:List Sg}{fs:List Fc}{bs:List Bd},sQ H ss fs=.ok bs->∀(k:Nat)(h1:k<ss.length)(h2:k<bs.length),ss[k].ps.length<=bs[k].vars.length/\pK bs[k].vars.length bs[k].code
 |[],_,bs,h,k,h1,_=>by simp at h1|s::ss,[],bs,h,k,_,h2=>by
  unfold sQ at h;cases h;simp at h2
 |s::ss,f::fs,bs,h,k,h1,h2=>by
  unfold sQ at h;split at h;cases h;rename_i c W hb;split at h;cases h;rename_i l hl;cases h;match k with
  |0=>exact XT hb|k+1=>
   have:=AP hl k (by simpa using h1) (by simpa using h2);simpa using this
end lZ
