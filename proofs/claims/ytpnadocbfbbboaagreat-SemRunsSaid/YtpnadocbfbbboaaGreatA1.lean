/- Part of a proof. -/
import Derived.Calls
import Derived.Laws.Sem
import Derived.Laws.Entries
import Derived.ChangeKeysEq
import Derived.Laws.StructEq
import Derived.Laws.Pointers
import Derived.Great.FillDense

open List renaming replicate->aak,all_eq_true->aaB,all_cons->agm,getElem?_eq_some_iff->aad,mem_iff_getElem->abo,getElem?_eq_getElem->aag,cons_append->acA,getElem?_take->acv,getElem?_drop->adw,drop_drop->adC,length_cons->abr,getElem?_eq_none_iff->ahn,drop_eq_getElem_cons->aaz,getElem?_cons_succ->aeu,ext_getElem?->aeE,getElem?_append_left->aal,getElem?_append_right->aar,length_take->aep,take_append_drop->aey
open Option renaming map_eq_some_iff->acs
open Nat renaming add_comm->ae1,min_eq_left->ahI
open Bool renaming and_eq_true->aac,and_self->aet
open Array renaming toList_extract->agn
universe u v
theorem U{c:Prop}{h:Decidable c}(n:¬c){α:Sort u}{t e:α}:ite c t e=e:=if_neg n
theorem ah{c:Prop}{h:Decidable c}(n:c){α:Sort u}{t e:α}:ite c t e=t:=if_pos n
theorem aQ{α:Sort u}{_:Decidable True}(t e:α):ite True t e=t:=if_true t e
theorem aS{α:Sort u}{_:Decidable False}(t e:α):ite False t e=e:=if_false t e
theorem aK{p:Prop}[Decidable p]:(decide p=true)=p:=decide_eq_true_eq
theorem bM{p:Prop}[Decidable p](h:p):decide p=true:=decide_eq_true h
theorem cu{p:Prop}[Decidable p](h:¬p):decide p=false:=decide_eq_false h
theorem bh{α:Type u}(a b:α):(some a=some b)=(a=b):=Option.some.injEq a b
theorem cF{α:Type u}{β:Type v}(a:α)(b:β)(c:α)(d:β):((a,b)=(c,d))=(a=c∧b=d):=Prod.mk.injEq a b c d
theorem aU{a b:Prop}(h:a)(n:¬a):b:=absurd h n
theorem cj:type_of% @Go.run_underlying:=@Go.run_underlying
theorem cg:type_of% @Go.Sem.run_bind:=@Go.Sem.run_bind
theorem cZ:type_of% @Go.Result.andThen_ok:=@Go.Result.andThen_ok
theorem cz{α:Type u}[BEq α][LawfulBEq α]{a b:α}:(a==b)=true↔a=b:=beq_iff_eq
namespace Ax
open Go
inductive AV where
 |undef|gone
 |bool (b:Bool)|int (k:IntKind) (n:Int)|str (s:List UInt8)
 |dV|af|hY|jz|kO
 |agg (cs:List AV)|fK (vs:List AV)
 |eE (sz:Nat) (rows:List (List AV))
 |k8 (sz:Nat) (rows:List (List AV))
 |raw (sz:Nat) (rows:List (List AV))
 |mE
 |mu (id cQ:Nat)
 |ptr (id cQ i k:Nat)
 |qP (sz:Nat) (rows:List (List AV)) (i k:Nat)
 |map (id:Nat)
 |fn (f:Nat) (first l7:List AV)
 deriving Inhabited
mutual
def AV.aB:AV->Bool
 |.mu _ _|.ptr _ _ _ _|.map _=>false|.agg cs|.fK cs=>AV.ax cs|.fn _ a b=>AV.ax a&&AV.ax b|_=>true
def AV.ax:List AV->Bool
 |[]=>true|v::r=>v.aB&&AV.ax r
end
mutual
def AV.ai:AV->AV
 |.k8 sz rows=>.eE sz rows|.raw _ _=>.gone|.agg cs=>.agg (AV.cW cs)|.fK cs=>.fK (AV.cW cs)|v=>v
def AV.cW:List AV->List AV
 |[]=>[]
 |v::r=>v.ai::AV.cW r
end
mutual
def AV.gi:AV->AV->Bool
 |.undef,.undef|.gone,.gone|.dV,.dV|.af,.af|.hY,.hY|.jz,.jz|.kO,.kO|.mE,.mE=>true|.bool a,.bool b=>a==b|.int k a,.int l b=>k==l&&a==b|.str a,.str b=>a==b|.agg a,.agg b|.fK a,.fK b=>AV.uD a b|.eE s a,.eE t b|.k8 s a,.k8 t b|.raw s a,.raw t b=>s==t&&AV.rZ a b|.mu i v,.mu j w=>i==j&&v==w|.ptr a b c d,.ptr a' b' c' d'=>a==a'&&b==b'&&c==c'&&d==d'|.qP s a i k,.qP t b j l=>s==t&&AV.rZ a b&&i==j&&k==l|.map i,.map j=>i==j|.fn f a b,.fn g c d=>f==g&&AV.uD a c&&AV.uD b d|_,_=>false
def AV.uD:List AV->List AV->Bool
 |[],[]=>true|a::x,b::y=>a.gi b&&AV.uD x y|_,_=>false
def AV.rZ:List (List AV)->List (List AV)->Bool
 |[],[]=>true|a::x,b::y=>AV.uD a b&&AV.rZ x y|_,_=>false
end
def AV.cells:AV->List AV
 |.agg cs=>cs|v=>[v]
def AV.dj:AV->Bool
 |.agg _|.fK _|.undef=>false|_=>true
def AV.bw(cs:List AV):Bool:=cs.all AV.dj
def AV.jX:AV->AV
 |.k8 _ _=>.gone|.raw _ _=>.gone|v=>v
inductive fL where
 |none
 |val (v:AV)
 |fp (j k:Nat)
 deriving Inhabited
def fL.ai:fL->fL
 |.val v=>.val v.ai|e=>e
def fL.gi:fL->fL->Bool
 |.none,.none=>true|.val a,.val b=>a.gi b|.fp j k,.fp l m=>j==l&&k==m|_,_=>false
def fL.qa(j:Nat):fL->Bool
 |.fp j' _=>j' != j|_=>true
inductive dA where
 |rows (cQ sz:Nat) (rows:List (List AV))
 |map (es:List (AV×AV))
 deriving Inhabited
abbrev ay:=List dA
abbrev bG:=List (List AV)
inductive Src where
 |tmp (t:Nat) (mv:Bool)
 |const (a:AV)
 deriving Inhabited
abbrev qz:=List (Nat×fL)
def dK:qz->Nat->fL
 |[],_=>.none|(k,e)::r,t=>if k=t then e else dK r t
def wK:qz->Nat->fL->qz
 |[],t,e=>[(t,e)]
 |(k,x)::r,t,e=>if t<k then (t,e)::(k,x)::r else if t=k then (t,e)::r else (k,x)::wK r t e
def CO:qz->Nat->qz
 |[],_=>[]
 |(k,x)::r,t=>if k=t then CO r t else (k,x)::CO r t
def Ju(env:qz):Src->fL
 |.tmp t true=>dK env t|.tmp t false=>(dK env t).ai|.const a=>.val a
def nc:qz->Src->qz
 |env,.tmp t true=>CO env t|env,_=>env
structure St where
 env:qz
 bx:bG
 st:ay
 deriving Inhabited
inductive Mode where
 |pure|jY|yK
 deriving DecidableEq,Inhabited
inductive SK where
 |bool|int|str
 deriving DecidableEq,Inhabited
inductive LK where
 |str|sl|mp
 deriving DecidableEq,Inhabited
inductive EqK where
 |sc (k:SK)
 |ptr|sl|fn
 |flat (ks:List SK)
 deriving DecidableEq,Inhabited
inductive gq where
 |move
 |pick
 |td (op:BinOp)
 |ua (k:EqK) (neg:Bool)
 |NO (neg:Bool)
 |un (op:UnOp)
 |conv (k:IntKind)
 |Zc
 |len (k:LK)
 |uc (mx:Bool)
 |nilCheck
 |extract (i:Nat)
 |field (off n:Nat) (agg:Bool)
 |build (zero:List AV) (parts:List (Nat×Nat))
 |lit (sz n:Nat) (zero:List AV) (parts:List Nat)
 |JF (sz n:Nat) (zero:List AV) (parts:List Nat)
 |fieldAddr (off:Nat)
 |indexAddr (sz:Nat)
 |index
 |slice (wV lo hi mx:Bool) (sz:Nat)
 |qB (sz:Nat)
 |load (agg:Bool) (n:Nat) (take:Bool)
 |gW (j:Nat) (agg:Bool) (n:Nat) (take:Bool)
 |store (n:Nat)
 |j9 (j n:Nat)
 |alloc (zero:List AV)
 |cq (j:Nat) (zero:List AV)
 |box (n:Nat)
 |vn (j n:Nat)
 |append (sz bytes:Nat)
 |gu (sz bytes:Nat)
 |nW (sz bytes:Nat) (zero:List AV) (mt:Bool)
 |x6 (sz bytes:Nat) (zero:List AV)
 |pQ (sz bytes:Nat) (zero:List AV)
 |Pm
 |makeMap
 |mapUpdate (kk:SK)
 |lookup (kk:SK) (zero:AV) (ok:Bool)
 |makeFunc (f ai8:Nat)
 |call (f:Nat)
 |r7
 |copy (sz:Nat)
 deriving Inhabited
structure aR where
 dst:Option Nat
 op:gq
 args:List Src
 guard:Option (Nat×Bool)
 deriving Inhabited
inductive bN where
 |skip
 |region (dO:List aR) (draw:Option (List (Nat×Nat))) (dD:List Nat)
 |seq (a b:bN)
 |cond (c:Src) (anX:List Nat) (thn:bN) (anY:List Nat) (Ru:bN)
 |block (id:Nat) (body:bN)
 |loop (body:bN)
 |exit (id:Nat)
 |ret
 |Pn (t:Nat)
 |DJ (j k:Nat)
 |uE (t off:Nat)
 deriving Inhabited
inductive iW where
 |tmp (t:Nat) (mv:Bool)
 |box (t j n:Nat) (agg:Bool)
 |cell (t:Nat) (n:Nat) (agg:Bool)
 deriving Inhabited
structure aL where
 eP:Nat
 mode:Mode
 aH:Nat
 aP:Nat
 dD:List Nat
 results:List iW
 body:bN
 deriving Inhabited
inductive Ex where
 |normal
 |exit (id:Nat)
 |ret (v:AV)
 deriving Inhabited
structure kL where
 call:Nat->Nat->Nat->List AV->ay->Option (AV×ay)
 loop:Nat->Nat->List iW->bN->St->Option (Ex×St)
def cN:Nat:=140737488355328
def FX:SK->AV->AV->Option Bool
 |.bool,.bool a,.bool b=>some (a==b)|.int,.int k a,.int l b=>if k=l then some (a==b) else none
 |.str,.str a,.str b=>some (a==b)|_,_,_=>none
def FY:List SK->List AV->List AV->Option Bool
 |[],[],[]=>some true|k::ks,a::as,b::bs=>match FX k a b,FY ks as bs with
  |some p,some q=>some (p&&q)|_,_=>none
 |_,_,_=>none
def Gy:EqK->AV->AV->Option Bool
 |.sc k,a,b=>FX k a b|.flat ks,.agg a,.agg b=>FY ks a b|.ptr,.dV,.dV=>some true|.ptr,.dV,.ptr _ _ _ _|.ptr,.dV,.qP _ _ _ _|.ptr,.ptr _ _ _ _,.dV|.ptr,.qP _ _ _ _,.dV=>some false|.fn,.jz,.jz=>some true|.fn,.jz,.fn _ _ _|.fn,.fn _ _ _,.jz=>some false|.sl,.af,.af=>some true|.sl,.af,.eE _ _|.sl,.af,.k8 _ _|.sl,.af,.mE|.sl,.eE _ _,.af|.sl,.k8 _ _,.af|.sl,.mE,.af=>some false|_,_,_=>none
def l8(op:BinOp)(k:IntKind)(a b:Int):Option AV:=
 match op with
 |.add=>some (.int k (k.wrap (a+b)))|.sub=>some (.int k (k.wrap (a-b)))|.mul=>some (.int k (k.wrap (a*b)))|.quo=>if b=0 then none else some (.int k (k.wrap (a.tdiv b)))
 |.rem=>if b=0 then none else some (.int k (a.tmod b))
 |.and=>some (.int k (k.wrap ((BitVec.ofInt k.bits a &&& BitVec.ofInt k.bits b).toNat)))|.eql=>some (.bool (a==b))|.neq=>some (.bool (a != b))|.lss=>some (.bool (decide (a<b)))|.leq=>some (.bool (decide (a<=b)))|.gtr=>some (.bool (decide (a > b)))|.geq=>some (.bool (decide (a ≥ b)))|_=>none
def CP(op:BinOp):AV->AV->Option AV
 |.int k a,.int l b=>if k=l then l8 op k a b else none
 |.str a,.str b=>
  match op with
  |.add=>if a.length+b.length<=4611686018427387904 then some (.str (a++b)) else none
  |.eql=>some (.bool (a==b))|.neq=>some (.bool (!(a==b)))|_=>none
 |_,_=>none
def unV(op:UnOp):AV->Option AV
 |.int k a=>match op with|.neg=>some (.int k (k.wrap (0-a)))|_=>none
 |.bool b=>match op with|.not=>some (.bool (!b))|_=>none
 |_=>none
def ff(st:ay):AV->Option (List (List AV))
 |.af|.mE=>some []|.eE _ rows|.k8 _ rows=>some rows|.mu id cQ=>match st[id]? with
  |some (.rows v _ rows)=>if v=cQ then some rows else none
  |_=>none
 |_=>none
def nL(s:List UInt8):List (List AV):=s.map λb=>[.int .u8 b.toNat]
def dx(st:ay):AV->Option (List (List AV))
 |.str s=>some (nL s)|.mu id cQ=>match ff st (.mu id cQ) with|some rows=>some (rows.map AV.cW)|none=>none
 |v=>ff st v
def cn(sz:Nat)(rows:List (List AV)):Bool:=rows.all λr=>r.length==sz
def oK(st:ay):LK->AV->Option Nat
 |.str,.str s=>some s.length|.mp,.hY=>some 0|.mp,.map id=>match st[id]? with|some (.map es)=>some es.length|_=>none
 |.sl,v=>match ff st v with|some rows=>some rows.length|none=>none
 |_,_=>none
def cut(cs:List AV)(k n:Nat):Option (List AV):=if k+n<=cs.length then some ((cs.drop k).take n) else none
def iT(st:ay):AV->Nat->Option (List AV)
 |.ptr id cQ i k,n=>match st[id]? with
  |some (.rows v _ rows)=>if v=cQ then match rows[i]? with|some r=>cut r k n|none=>none else none
  |_=>none
 |.qP _ rows i k,n=>match rows[i]? with|some r=>cut r k n|none=>none
 |_,_=>none
def au{α:Type}:List α->Nat->List α->List α
 |cs,0,[]=>cs|_::cs,0,v::vs=>v::au cs 0 vs|c::cs,k+1,vs=>c::au cs k vs|[],_,_=>[]
def aV(wl aa id:Nat)(cells:List AV):Bool:=decide (wl<=id)&&(decide (aa<=id)||AV.ax cells)
def fo(wl aa:Nat)(st:ay):AV->List AV->Option ay
 |.ptr id cQ i k,cells=>match st[id]? with
  |some (.rows v sz rows)=>
   if v=cQ&&aV wl aa id cells then
    match rows[i]? with
    |some r=>if k+cells.length<=r.length then some (st.set id (.rows v sz (rows.set i (au r k cells)))) else none
    |none=>none
   else none
  |_=>none
 |_,_=>none
def cm(agg:Bool)(cells:List AV):Option AV:=
 if agg then some (.agg cells) else match cells with | [v]=>some v|_=>none
def jw:List AV->List (Nat×Nat)->List AV->Option (List AV)
 |cs,[],[]=>some cs|cs,(off,n)::ps,v::vs=>
  if v.cells.length=n&&off+n<=cs.length then jw (au cs off v.cells) ps vs else none
 |_,_,_=>none
def iu(sz:Nat):List (List AV)->List Nat->List AV->Option (List (List AV))
 |rows,[],[]=>some rows|rows,i::ps,v::vs=>if v.cells.length=sz&&i<rows.length then iu sz (rows.set i v.cells) ps vs else none
 |_,_,_=>none
def tA(kk:SK)(k:AV):List (AV×AV)->Option (Option AV)
 |[]=>some none|(a,v)::r=>match FX kk k a with|some true=>some (some v)|some false=>tA kk k r|none=>none
def Ge(kk:SK)(k v:AV):List (AV×AV)->Option (List (AV×AV))
 |[]=>some [(k,v)]|(a,u)::r=>match FX kk k a with
  |some true=>some ((k,v)::r)|some false=>match Ge kk k v r with|some r'=>some ((a,u)::r')|none=>none
  |none=>none
def Gz:SK->AV->Bool
 |.int,.int _ _|.str,.str _|.bool,.bool _=>true|_,_=>false
def jP:List fL->Option (List AV)
 |[]=>some []|.val v::r=>match jP r with|some vs=>some (v::vs)|none=>none
 |_::_=>none
def Dc:List (List AV)->Option (List UInt8)
 |[]=>some []|[.int .u8 n]::r=>if 0<=n/\n<256 then match Dc r with|some l=>some (UInt8.ofNat n.toNat::l)|none=>none else none
 |_=>none
def tC(cP:Bool)(aah:Int)(l:List fL):Option (Int×List fL):=
 if cP then match l with|.val (.int .i64 n)::r=>some (n,r)|_=>none else some (aah,l)
def ku(wV:Bool)(sz:Nat)(x:AV)(lo hi:Int)(mx:Option Int):Option AV:=
 match wV,x with
 |true,.str s=>if mx.isNone&&decide (0<=lo)&&decide (lo<=hi)&&decide (hi<=s.length) then some (.str ((s.take hi.toNat).drop lo.toNat)) else none
 |false,.af=>if lo=0&&hi=0&&(match mx with|some m=>m==0|none=>true) then some .af else none
 |false,.mE=>if lo=0&&hi=0&&(match mx with|some m=>m==0|none=>true) then some .mE else none
 |false,.eE s rows|false,.k8 s rows=>
  match mx with
  |none=>if s=sz&&decide (0<=lo)&&decide (lo<=hi)&&decide (hi<=rows.length) then some (.eE sz ((rows.take hi.toNat).drop lo.toNat)) else none
  |some m=>if lo=0&&hi=0&&m=0 then some .mE else none
 |_,_=>none
def r9(wl aa sz bytes:Nat)(s:AV)(new:List (List AV))(st:ay)(bx:bG):Option (fL×ay×bG):=
 if cn sz new then match s with
  |.af=>if new.isEmpty then some (.val .af,st,bx) else if new.length*bytes<=cN then some (.val (.mu st.length 0),st++[.rows 0 sz new],bx) else none
  |.mE=>if new.length*bytes<=cN then some (.val (.mu st.length 0),st++[.rows 0 sz new],bx) else none
  |.mu id cQ=>match st[id]? with
   |some (.rows v ke js)=>
    if v=cQ&&ke=sz&&decide ((js.length+new.length)*bytes<=cN)&&decide (wl<=id)&&(decide (aa<=id)||new.all AV.ax) then
     some (.val (.mu id (v+1)),st.set id (.rows (v+1) sz (js++new)),bx) else none
   |_=>none
  |_=>none else none
def bn(wl aa:Nat)(op:gq)(vals:List fL)(st:ay)(bx:bG):Option (fL×ay×bG):=
 match op with
 |.move=>match vals with
  |[e]=>some (e,st,bx)|_=>none
 |.pick=>match vals with
  |[.val (.bool b),x,y]=>some (if b then x else y,st,bx)|_=>none
 |.td op=>match vals with
  |[.val x,.val y]=>match CP op x y with|some v=>some (.val v,st,bx)|none=>none
  |_=>none
 |.ua k neg=>match vals with
  |[.val x,.val y]=>match Gy k x y with|some b=>some (.val (.bool (if neg then !b else b)),st,bx)|none=>none
  |_=>none
 |.NO neg=>match vals with
  |[.val (.mu id cQ),.val .af]=>match st[id]? with
   |some (.rows v _ _)=>if v=cQ then some (.val (.bool neg),st,bx) else none
   |_=>none
  |_=>none
 |.un op=>match vals with
  |[.val x]=>match unV op x with|some v=>some (.val v,st,bx)|none=>none
  |_=>none
 |.conv k=>match vals with
  |[.val (.int _ n)]=>some (.val (.int k (k.wrap n)),st,bx)|_=>none
 |.Zc=>match vals with
  |[.val x]=>match ff st x with
   |some rows=>match Dc rows with|some s=>some (.val (.str s),st,bx)|none=>none
   |none=>none
  |_=>none
 |.len k=>match vals with
  |[.val x]=>match oK st k x with|some n=>some (.val (.int .i64 n),st,bx)|none=>none
  |_=>none
 |.uc mx=>match vals with
  |[.val (.int k a),.val (.int l b)]=>
   if k=l then some (.val (.int k (if mx then (if b > a then b else a) else (if b<a then b else a))),st,bx) else none
  |_=>none
 |.nilCheck=>match vals with
  |[.fp j k]=>some (.fp j k,st,bx)|[.val x]=>match x with
   |.ptr .. | .qP ..=>some (.val x,st,bx)|_=>none
  |_=>none
 |.extract i=>match vals with
  |[.val (.fK vs)]=>match vs[i]? with|some v=>some (.val v,st,bx)|none=>none
  |_=>none
 |.field off n agg=>match vals with
  |[.val (.agg cs)]=>match cut cs off n with
   |some r=>match cm agg r with|some v=>some (.val v,st,bx)|none=>none
   |none=>none
  |_=>none
 |.build zero parts=>match vals with
  |l=>match jP l with
   |some vs=>match jw zero parts vs with|some cs=>some (.val (.agg cs),st,bx)|none=>none
   |none=>none
 |.lit sz n zero parts=>match vals with
  |l=>match jP l with
   |some vs=>match iu sz (aak n zero) parts (AV.cW vs) with
    |some rows=>if rows.all AV.ax&&rows.all AV.bw then some (.val (if n=0 then .mE else .eE sz rows),st,bx) else none
    |none=>none
   |none=>none
 |.JF sz n zero parts=>match vals with
  |l=>match jP l with
   |some vs=>match iu sz (aak n zero) parts vs with
    |some rows=>if rows.all AV.bw&&decide (0<n) then some (.val (.mu st.length 0),st++[.rows 0 sz rows],bx) else none
    |none=>none
   |none=>none
 |.fieldAddr off=>match vals with
  |[.fp j k]=>some (.fp j (k+off),st,bx)|[.val (.ptr id cQ i k)]=>some (.val (.ptr id cQ i (k+off)),st,bx)|[.val (.qP sz rows i k)]=>some (.val (.qP sz rows i (k+off)),st,bx)|_=>none
 |.indexAddr sz=>match vals with
  |[.val x,.val (.int .i64 i)]=>match x with
   |.eE s rows|.k8 s rows=>if s=sz&&decide (0<=i)&&decide (i<rows.length) then some (.val (.qP sz rows i.toNat 0),st,bx) else none
   |.mu id cQ=>match st[id]? with
    |some (.rows v s rows)=>if v=cQ&&s=sz&&decide (0<=i)&&decide (i<rows.length) then some (.val (.ptr id cQ i.toNat 0),st,bx) else none
    |_=>none
   |_=>none
  |_=>none
 |.index=>match vals with
  |[.val (.str s),.val (.int .i64 i)]=>
   if 0<=i then match s[i.toNat]? with|some b=>some (.val (.int .u8 b.toNat),st,bx)|none=>none else none
  |_=>none
 |.slice wV lo hi mx sz=>match vals with
  |.val x::l=>match oK st (if wV then .str else .sl) x with
   |none=>none|some n=>match tC lo 0 l with
    |none=>none|some (a,l)=>match tC hi n l with
     |none=>none|some (b,l)=>match mx,l with
      |false,[]=>match ku wV sz x a b none with|some v=>some (.val v,st,bx)|none=>none
      |true,[.val (.int .i64 m)]=>match ku wV sz x a b (some m) with|some v=>some (.val v,st,bx)|none=>none
      |_,_=>none
  |_=>none
 |.qB sz=>match vals with
  |[.val (.mu id cQ),.val (.int .i64 hi)]=>match st[id]? with
   |some (.rows v s rows)=>if v=cQ&&s=sz&&decide (0<=hi)&&decide (hi<=rows.length)&&decide (wl<=id) then
     some (.val (.mu id (v+1)),st.set id (.rows (v+1) s (rows.take hi.toNat)),bx) else none
   |_=>none
  |_=>none
 |.load agg n take=>match vals with
  |[.val p]=>match iT st p n with
   |some cs=>
    if take then
     match fo wl aa st p (cs.map AV.jX),cm agg cs with
     |some st',some v=>some (.val v,st',bx)|_,_=>none
    else match cm agg (AV.cW cs) with|some v=>some (.val v,st,bx)|none=>none
   |none=>none
  |_=>none
 |.gW j agg n take=>match vals with
  |[.fp j' k]=>if j=j' then match bx[j]? with
    |some aF=>match cut aF k n with
     |some cs=>
      if take then match cm agg cs with|some v=>some (.val v,st,bx.set j (au aF k (cs.map AV.jX)))|none=>none
      else match cm agg (AV.cW cs) with|some v=>some (.val v,st,bx)|none=>none
     |none=>none
    |none=>none
   else none
  |_=>none
 |.store n=>match vals with
  |[.val p,.val v]=>if v.cells.length=n&&AV.bw v.cells then
    match fo wl aa st p v.cells with|some st'=>some (.none,st',bx)|none=>none else none
  |_=>none
 |.j9 j n=>match vals with
  |[.fp j' k,.val v]=>if j=j'&&v.cells.length=n&&AV.bw v.cells then match bx[j]? with
    |some aF=>if k+n<=aF.length then some (.none,st,bx.set j (au aF k v.cells)) else none
    |none=>none
   else none
  |_=>none
 |.alloc zero=>match vals with
  |[]=>some (.val (.ptr st.length 0 0 0),st++[.rows 0 zero.length [zero]],bx)|_=>none
 |.cq j zero=>match vals with
  |[]=>if j<bx.length then some (.fp j 0,st,bx.set j zero) else none
  |_=>none
 |.box n=>match vals with
  |[.val v]=>if v.cells.length=n&&AV.bw v.cells then some (.val (.ptr st.length 0 0 0),st++[.rows 0 n [v.cells]],bx) else none
  |_=>none
 |.vn j n=>match vals with
  |[.val v]=>if j<bx.length&&v.cells.length=n&&AV.bw v.cells then some (.fp j 0,st,bx.set j v.cells) else none
  |_=>none
 |.append sz bytes=>match vals with
  |[.val s,.val x]=>match dx [] x with
   |none=>none|some new=>if cn sz new then match s with
    |.af|.mE=>if new.isEmpty then some (.val s,st,bx) else if new.length*bytes<=cN then some (.val (.k8 sz new),st,bx) else none
    |.k8 ke js=>if ke=sz&&decide ((js.length+new.length)*bytes<=cN) then some (.val (.k8 sz (js++new)),st,bx) else none
    |_=>none else none
  |_=>none
 |.gu sz bytes=>match vals with
  |[.val s,.val x]=>match dx st x with
   |none=>none|some new=>r9 wl aa sz bytes s new st bx
  |_=>none
 |.nW sz bytes zero mt=>match vals with
  |[.val (.int .i64 n),.val (.int .i64 c)]=>
   if 0<=n/\n<=c/\c*bytes<=cN/\zero.length=sz then
    if mt then some (.val (.mu st.length 0),st++[.rows 0 sz (aak n.toNat zero)],bx)
    else if AV.ax zero then some (.val (.k8 sz (aak n.toNat zero)),st,bx) else none
   else none
  |_=>none
 |.x6 sz bytes zero=>match vals with
  |[.val (.int .i64 n),.val (.int .i64 c)]=>
   if 0<=n/\n<=c/\c*bytes<=cN/\zero.length=sz/\AV.ax zero=true then some (.val (.raw sz (aak n.toNat zero)),st,bx) else none
  |_=>none
 |.pQ sz bytes zero=>match vals with
  |[.val s,.val (.int .i64 n)]=>
   if 0<=n/\n*bytes<=cN/\zero.length=sz/\AV.ax zero=true then r9 wl aa sz bytes s (aak n.toNat zero) st bx else none
  |_=>none
 |.Pm=>match vals with
  |[.val .af]=>some (.val (.int .i64 0),st,bx)|_=>none
 |.makeMap=>match vals with
  |[]=>some (.val (.map st.length),st++[.map []],bx)|_=>none
 |.mapUpdate kk=>match vals with
  |[.val (.map id),.val k,.val v]=>match st[id]? with
   |some (.map es)=>if Gz kk k&&aV wl aa id [v] then match Ge kk k v.ai es with|some wW=>some (.none,st.set id (.map wW),bx)|none=>none else none
   |_=>none
  |_=>none
 |.lookup kk zero ok=>match vals with
  |[.val m,.val k]=>
   match (match m with|.hY=>some []|.map id=>(match st[id]? with|some (.map es)=>some es|_=>none)|_=>none) with
   |none=>none|some es=>if Gz kk k then match tA kk k es with
    |none=>none|some r=>let v:=r.getD zero
     some (.val (if ok then .fK [v,.bool r.isSome] else v),st,bx)
    else none
  |_=>none
 |.makeFunc f n=>match vals with
  |l=>match jP l with
   |some vs=>some (.val (.fn f (AV.cW (vs.take n)) (AV.cW (vs.drop n))),st,bx)|none=>none
 |.copy sz=>match vals with
  |[.val (.mu id cQ),.val x]=>match st[id]?,dx st x with
   |some (.rows v ke js),some new=>
    if v=cQ&&ke=sz&&cn sz new&&decide (new.length<=js.length)&&decide (wl<=id)&&(decide (aa<=id)||new.all AV.ax) then
     some (.val (.int .i64 new.length),st.set id (.rows v sz (new++js.drop new.length)),bx) else none
   |_,_=>none
  |_=>none
 |.call _|.r7=>none
def nh:gq->List fL->Option (Nat×List AV)
 |.call f,l=>match jP l with
  |some vs=>some (f,vs)|none=>none
 |.r7,.val (.fn f first l7)::l=>match jP l with
  |some vs=>some (f,first++vs++l7)|none=>none
 |_,_=>none
def hJ(O:kL)(wl aa:Nat)(x:Option (Nat×List AV))(st:ay)(bx:bG):Option (fL×ay×bG):=
 match x with
 |some (f,vs)=>match O.call wl aa f vs st with|some (v,st')=>some (.val v,st',bx)|none=>none
 |none=>none
def ud(O:kL)(wl aa:Nat)(op:gq)(vals:List fL)(st:ay)(bx:bG):Option (fL×ay×bG):=
 match op with
 |.call f=>hJ O wl aa (nh (.call f) vals) st bx|.r7=>hJ O wl aa (nh .r7 vals) st bx|op=>bn wl aa op vals st bx
def gq.bV:gq->Option Nat
 |.cq j _|.vn j _=>some j|_=>none
def yL(env:qz)(dst:Option Nat)(e:fL):qz:=
 match dst with
 |some d=>wK env d e|none=>env
def nt(env:qz):Option (Nat×Bool)->Option Bool
 |none=>some true|some (t,b)=>match dK env t with
  |.val (.bool c)=>some (c==b)|.val .undef=>some false|_=>none
def mF(j:Nat)(env:qz):Bool:=env.all λx=>x.2.qa j
def iX(O:kL)(wl aa:Nat)(o:aR)(s:St):Option St:=
 match nt s.env o.guard with
 |none=>none|some false=>some { s with env:=yL s.env o.dst (.val .undef) }|some true=>
  match ud O wl aa o.op (o.args.map (Ju s.env)) s.st s.bx with
  |none=>none|some (e,st',gX)=>
   match o.op.bV with
   |none=>some ⟨yL (o.args.foldl nc s.env) o.dst e,gX,st'⟩|some j=>if mF j (yL (o.args.foldl nc s.env) o.dst .none) then some ⟨yL (o.args.foldl nc s.env) o.dst e,gX,st'⟩ else none
def gD(O:kL)(wl aa:Nat):List aR->St->Option St
 |[],s=>some s|o::l,s=>match iX O wl aa o s with|some s'=>gD O wl aa l s'|none=>none
def eG(O:kL)(wl aa:Nat):List aR->St->Option (St×List St)
 |[],s=>some (s,[s])|o::l,s=>match iX O wl aa o s with
  |some s'=>match eG O wl aa l s' with|some (e,l')=>some (e,s::l')|none=>none
  |none=>none
def dH(O:kL)(wl aa:Nat)(o:aR)(s t:St)(st:ay):Bool:=
 match nt s.env o.guard with
 |none=>false|some false=>true|some true=>
  match ud O wl aa o.op (o.args.map (Ju s.env)) st s.bx with
  |some (e,_,_)=>(match o.dst with|some d=>(dK t.env d).gi e|none=>false)
  |none=>false
def xSt(wl aa:Nat)(dO:List aR)(gQ:List St)(p q:Nat):Option ay:=
 match dO[p]?,gQ[p]?,dO[q]?,gQ[q]? with
 |some a,some s,some b,some t=>
  match a.op,a.args.map (Ju s.env),b.op,b.args.map (Ju t.env) with
  |.store _,[.val (.ptr i _ _ _),.val _],.store m,[.val (.ptr j v x y),.val u]=>
   if i=j then none else match bn wl aa (.store m) [.val (.ptr j v x y),.val u] s.st [] with
   |some (_,X,_)=>some X|none=>none
  |_,_,_,_=>none
 |_,_,_,_=>none
def iG(O:kL)(wl aa:Nat)(dO:List aR)(gQ:List St):Nat×Nat->Bool
 |(q,w)=>if q<100000 then match dO[q]?,gQ[q]?,gQ[q+1]?,gQ[w]?,gQ[w+1]? with
   |some o,some s,some t,some a,some b=>dH O wl aa o s t a.st&&dH O wl aa o s t b.st|_,_,_,_,_=>false
  else match xSt wl aa dO gQ (q % 100000) w with
   |none=>false|some X=>if q<200000 then true else match dO[q / 100000-2]?,gQ[q / 100000-2]?,gQ[q / 100000-2+1]? with
    |some o,some s,some t=>dH O wl aa o s t X|_,_,_=>false
def bO(env:qz)(o:aR):Bool:=match o.op.bV with|some j=>mF j env|none=>true
def iw(O:kL)(wl aa:Nat)(dO:List aR)(cw:List (Nat×Nat))(s:St):Option St:=
 match eG O wl aa dO s with
 |none=>none|some (e,gQ)=>
  if cw.all (iG O wl aa dO gQ)&&dO.all (bO s.env) then some e else none
def jA:List Nat->qz->qz
 |[],env=>env|t::l,env=>jA l (CO env t)
def sd(env:qz)(c:Src):Option Bool:=
 match Ju env c with
 |.val (.bool b)=>some b|_=>none
def kS(wl:Nat)(v:AV)(st:ay):Option (AV×ay):=
 match v with
 |.mu id cQ=>match st[id]? with
  |some (.rows v sz rows)=>if v=cQ&&rows.all AV.ax && !rows.isEmpty&&decide (wl<=id) then some (.eE sz (rows.map AV.cW),st.set id (.rows (v+1) sz [])) else none
  |_=>none
 |v=>if v.aB&&v.dj then some (v.ai,st) else none
def jL(wl:Nat):List AV->ay->Option (List AV×ay)
 |[],st=>some ([],st)|v::l,st=>match kS wl v st with
  |some (v',st')=>match jL wl l st' with
   |some (l',JG)=>some (v'::l',JG)|none=>none
  |none=>none
def jk(wl:Nat):List (List AV)->ay->Option (List (List AV)×ay)
 |[],st=>some ([],st)|r::l,st=>match jL wl r st with
  |some (r',st')=>match jk wl l st' with
   |some (l',JG)=>some (r'::l',JG)|none=>none
  |none=>none
def iy(wl:Nat)(v:AV)(st:ay):Option (AV×ay):=
 match v with
 |.mu id cQ=>match st[id]? with
  |some (.rows v sz rows)=>if v=cQ && !rows.isEmpty&&decide (wl<=id) then
    match jk wl rows (st.set id (.rows (v+1) sz [])) with
    |some (fJ,st')=>some (.eE sz fJ,st')|none=>none
   else none
  |_=>none
 |.af=>some (.af,st)|_=>none
def pS(wl:Nat)(v:AV)(st:ay):Option (AV×ay):=
 match v with
 |.raw sz rows=>some (.mu st.length 0,st++[.rows 0 sz rows])|v=>iy wl v st
def DK(s:St):iW->Option AV
 |.tmp t mv=>match Ju s.env (.tmp t mv) with|.val v=>some v|_=>none
 |.box t j n agg=>match dK s.env t,s.bx[j]? with|.fp i 0,some aF=>if i=j&&aF.length=n then cm agg aF else none|_,_=>none
 |.cell t n agg=>match dK s.env t with
  |.val p=>match iT s.st p n with|some cs=>cm agg (AV.cW cs)|none=>none
  |_=>none
def zl(s:St):List iW->Option (List AV)
 |[]=>some []|r::l=>match DK s r,zl s l with
  |some v,some vs=>some (v::vs)|_,_=>none
def yM(s:St)(l:List iW):Option AV:=
 match zl s l with
 |some [v]=>some v|some vs=>some (.fK vs)|none=>none
def jf(O:kL)(wl aa:Nat)(rs:List iW):bN->St->Option (Ex×St)
 |.skip,s=>some (.normal,s)|.region dO draw dD,s=>
  match (match draw with|none=>gD O wl aa dO s|some cw=>iw O wl aa dO cw s) with
  |some s'=>some (.normal,{ s' with env:=jA dD s'.env })|none=>none
 |.seq a b,s=>match jf O wl aa rs a s with
  |some (.normal,s')=>jf O wl aa rs b s'|r=>r
 |.cond c ca a cb b,s=>match sd s.env c with
  |some true=>jf O wl aa rs a { s with env:=jA ca (nc s.env c) }|some false=>jf O wl aa rs b { s with env:=jA cb (nc s.env c) }|none=>none
 |.block id c,s=>match jf O wl aa rs c s with
  |some (.exit Zd,s')=>if Zd=id then some (.normal,s') else some (.exit Zd,s')
  |r=>r
 |.loop c,s=>O.loop wl aa rs c s|.exit id,s=>some (.exit id,s)|.ret,s=>match yM s rs with|some v=>some (.ret v,⟨[],[],s.st⟩)|none=>none
 |.Pn t,s=>match dK s.env t with
  |.val v=>match iy wl v s.st with
   |some (v',st')=>some (.normal,⟨wK s.env t (.val v'),s.bx,st'⟩)|none=>none
  |_=>none
 |.DJ j k,s=>match s.bx[j]? with
  |some aF=>match aF[k]? with
   |some v=>match iy wl v s.st with
    |some (v',st')=>some (.normal,⟨s.env,s.bx.set j (au aF k [v']),st'⟩)|none=>none
   |none=>none
  |none=>none
 |.uE t off,s=>match dK s.env t with
  |.val (.ptr id cQ i k)=>match iT s.st (.ptr id cQ i (k+off)) 1 with
   |some [v]=>match pS wl v s.st with
    |some (v',st')=>match fo wl aa st' (.ptr id cQ i (k+off)) [v'] with
     |some qb=>some (.normal,⟨s.env,s.bx,qb⟩)|none=>none
    |none=>none
   |_=>none
  |_=>none
def GA:Nat->List AV->qz
 |_,[]=>[]
 |k,v::r=>(k,.val v)::GA (k+1) r
def Mode.wL:Mode->Nat->Nat->Nat
 |.pure,n,_=>n|_,_,wl=>wl
def Mode.oW:Mode->Nat->Nat->Nat
 |.yK,_,aa=>aa|_,n,_=>n
def Mode.nu(m:Mode)(st:ay)(v:AV)(st':ay):Option (AV×ay):=
 match m with
 |.pure=>if v.aB then some (v,st) else none
 |.jY=>if v.aB then some (v,st'.take st.length) else none
 |.yK=>some (v,st')
def Gf(rs:List iW):Ex->St->Option AV
 |.exit _,_=>none|.ret v,_=>some v|.normal,s=>yM s rs
def qc(sf:aL)(args:List AV)(st:ay):St:=⟨jA sf.dD (GA 0 args),aak sf.aP [],st⟩
def eM(O:kL)(wl aa:Nat)(sf:aL)(args:List AV)(st:ay):Option (AV×ay):=
 if args.length=sf.aH then
  match jf O (sf.mode.wL st.length wl) (sf.mode.oW st.length aa) sf.results sf.body (qc sf args st) with
  |some (x,s)=>match Gf sf.results x s with
   |some v=>sf.mode.nu st v s.st|none=>none
  |none=>none
 else none
def tD(sf:aL)(args:List AV):Bool:=decide (sf.mode=.pure)&&AV.ax args
def fM(O:kL)(wl aa:Nat)(sf:aL)(args:List AV)(st:ay):Option (AV×ay):=
 if tD sf args then (eM O 0 0 sf args []).map λr=>(r.1,st) else eM O wl aa sf args st
def qC(S:Nat->Option aL):Nat->kL
 |0=>⟨λ_ _ _ _ _=>none,λ_ _ _ _ _=>none⟩
 |n+1=>
  ⟨λwl aa f args st=>match S f with
   |some sf=>fM (qC S n) wl aa sf args st|none=>none,
   λwl aa rs c s=>match jf (qC S n) wl aa rs c s with
   |some (.normal,s')=>(qC S n).loop wl aa rs c s'|r=>r⟩
def Rv(VU HU:List (Option aL))(n:Nat):Option aL:=if n<100000 then (VU[n]?).getD none else (HU[n-100000]?).getD none
end Ax
namespace Ax
open Go
structure kL.le (A B:kL):Prop where
 call:∀wl aa f args st r,A.call wl aa f args st=some r->B.call wl aa f args st=some r
 loop:∀wl aa rs c s r,A.loop wl aa rs c s=some r->B.loop wl aa rs c s=some r
theorem kL.le_refl(A:kL):A.le A:=⟨λ_ _ _ _ _ _ h=>h,λ_ _ _ _ _ _ h=>h⟩
variable{A B:kL}{st:ay}{r:fL×ay×bG}{dO:List aR}{args:List AV}
theorem kL.le_trans{C:kL}(h:A.le B)(k:B.le C):A.le C:=
 ⟨λ_ _ _ _ _ _ x=>k.call _ _ _ _ _ _ (h.call _ _ _ _ _ _ x),λ_ _ _ _ _ _ x=>k.loop _ _ _ _ _ _ (h.loop _ _ _ _ _ _ x)⟩
structure Sup (o:Nat->kL)(L:kL):Prop where
 mono:∀n,(o n).le (o (n+1))
 call:∀wl aa f args st r,L.call wl aa f args st=some r->∃n,(o n).call wl aa f args st=some r
 loop:∀wl aa rs c s r,L.loop wl aa rs c s=some r->∃n,(o n).loop wl aa rs c s=some r
theorem Sup.le{o:Nat->kL}{L:kL}(h:Sup o L)(n k:Nat):(o n).le (o (n+k)):=by
 induction k with
 |zero=>exact kL.le_refl _|succ k ih=>exact kL.le_trans ih (h.mono (n+k))
theorem JH(A B:kL)(wl aa:Nat)(op:gq)(vals:List fL)(st:ay)(bx:bG)(h1:∀f,op≠.call f)(h2:op≠.r7) :
  ud A wl aa op vals st bx=ud B wl aa op vals st bx:=by
 cases op<;>first|rfl|exact aU rfl (h1 _)|exact aU rfl h2
theorem z9(rM:A.le B){wl aa:Nat}{x:Option (Nat×List AV)}{bx:bG}
  (h:hJ A wl aa x st bx=some r):hJ B wl aa x st bx=some r:=by
 unfold hJ at h ⊢;split at h;rename_i f vs;cases hc:A.call wl aa f vs st with
 |none=>simp[hc]at h|some x=>rw[hc]at h;rw[rM.call _ _ _ _ _ _ hc];exact h
 cases h
theorem JI(rM:A.le B){wl aa:Nat}{op:gq}{vals:List fL}{bx:bG}
  (h:ud A wl aa op vals st bx=some r):ud B wl aa op vals st bx=some r:=by
 by_cases h1:∃f,op=.call f;obtain⟨f,rfl⟩:=h1;exact z9 rM h;by_cases h2:op=.r7;subst h2;exact z9 rM h;rw[<-JH A B wl aa op vals st bx (λf e=>h1 ⟨f,e⟩) h2];exact h
theorem tE(rM:A.le B){wl aa:Nat}{o:aR}{s r:St}(h:iX A wl aa o s=some r):iX B wl aa o s=some r:=by
 unfold iX at h ⊢;split at h;cases h;exact h;split at h;cases h;rename_i e st' gX ha;rw[JI rM ha];exact h
theorem vo{A B:kL}(rM:A.le B){wl aa:Nat}:∀{l:List aR}{s r:St},gD A wl aa l s=some r->gD B wl aa l s=some r
 |[],_,_,h=>h|o::l,s,r,h=>by
  unfold gD at h ⊢;split at h;rename_i s' hs;rw[tE rM hs];exact vo rM h;cases h
theorem qX{A B:kL}(rM:A.le B){wl aa:Nat}:∀{l:List aR}{s:St} {r},eG A wl aa l s=some r->eG B wl aa l s=some r
 |[],_,_,h=>h|o::l,s,r,h=>by
  unfold eG at h ⊢;split at h;rename_i s' hs;rw[tE rM hs];split at h;rename_i e l' hr;simp only[qX rM hr];exact h;cases h;cases h
theorem l9(rM:A.le B){wl aa:Nat}{o:aR}{s t:St}(h:dH A wl aa o s t st=true):dH B wl aa o s t st=true:=by
 unfold dH at h ⊢;split at h;cases h
 rfl
 split at h;rename_i e _ _ ha;rw[JI rM ha];exact h;cases h
theorem tF(rM:A.le B){wl aa:Nat}{gQ:List St}{x:Nat×Nat}(h:iG A wl aa dO gQ x=true):iG B wl aa dO gQ x=true:=by
 obtain⟨q,w⟩:=x;unfold iG at h ⊢;by_cases h1:q<100000;simp only[h1,aQ]at h ⊢;split at h;simp only[aac]at h ⊢;exact⟨l9 rM h.1,l9 rM h.2⟩;cases h;simp only[h1,aS]at h ⊢;split at h;cases h;by_cases h2:q<200000;simp only[h2,aQ];simp only[h2,aS]at h ⊢;split at h;exact l9 rM h;cases h
theorem Gg(rM:A.le B){wl aa:Nat}{cw:List (Nat×Nat)}{s r:St}(h:iw A wl aa dO cw s=some r):iw B wl aa dO cw s=some r:=by
 unfold iw at h ⊢;split at h;cases h;rename_i e gQ hr;split at h;rename_i hc;cases h;rw[qX rM hr];simp only[aac,aaB]at hc;have h1:cw.all (iG B wl aa dO gQ)=true:=by
  rw[aaB];exact λx hx=>tF rM (hc.1 x hx)
 have h2:dO.all (bO s.env)=true:=by
  rw[aaB];exact hc.2
 simp only[h1,h2,aet,aQ];cases h
theorem mc{A B:kL}(rM:A.le B){wl aa:Nat}{rs:List iW}:∀{c:bN}{s:St} {r},jf A wl aa rs c s=some r->jf B wl aa rs c s=some r
 |.skip,_,_,h=>h|.region dO draw dD,s,r,h=>by
  unfold jf at h ⊢;cases draw with
  |none=>
   simp only at h ⊢;split at h;rename_i s' hs;rw[vo rM hs];exact h;cases h
  |some cw=>
   simp only at h ⊢;split at h;rename_i s' hs;rw[Gg rM hs];exact h;cases h
 |.seq a b,s,r,h=>by
  unfold jf at h ⊢;cases ha:jf A wl aa rs a s with
  |none=>rw[ha]at h;cases h|some x=>
   rw[ha]at h;rw[mc rM ha];obtain⟨e,s'⟩:=x;cases e with
   |normal=>exact mc rM h|exit id=>exact h|ret v=>exact h
 |.cond c ca a cb b,s,r,h=>by
  unfold jf at h ⊢;split at h;exact mc rM h;exact mc rM h;cases h
 |.block id c,s,r,h=>by
  unfold jf at h ⊢;cases ha:jf A wl aa rs c s with
  |none=>rw[ha]at h;cases h|some x=>rw[ha]at h;rw[mc rM ha];exact h
 |.loop c,s,r,h=>rM.loop _ _ _ _ _ _ h|.exit id,s,r,h=>h|.ret,s,r,h=>h|.Pn t,s,r,h=>h|.DJ j k,s,r,h=>h|.uE t off,s,r,h=>h
theorem wX(rM:A.le B){wl aa:Nat}{sf:aL} {r}(h:eM A wl aa sf args st=some r):eM B wl aa sf args st=some r:=by
 unfold eM at h ⊢;split at h;rename_i hl;rw[ah hl];cases hs:jf A (sf.mode.wL st.length wl) (sf.mode.oW st.length aa) sf.results sf.body (qc sf args st) with
 |none=>rw[hs]at h;cases h|some x=>rw[hs]at h;rw[mc rM hs];exact h
 cases h
theorem yU(rM:A.le B){wl aa:Nat}{sf:aL} {r}(h:fM A wl aa sf args st=some r):fM B wl aa sf args st=some r:=by
 unfold fM at h ⊢;split at h;rename_i LG;rw[ah LG];cases hc:eM A 0 0 sf args [] with
 |none=>rw[hc]at h;cases h|some x=>rw[hc]at h;rw[wX rM hc];exact h
 rename_i LG;rw[U LG];exact wX rM h
theorem DL(S:Nat->Option aL):∀n,(qC S n).le (qC S (n+1))
 |0=>⟨λ_ _ _ _ _ _ h=>(nomatch h),λ_ _ _ _ _ _ h=>(nomatch h)⟩
 |n+1=>by
  have ih:=DL S n;constructor;intro wl aa f args st r h;show (match S f with|some sf=>fM (qC S (n+1)) wl aa sf args st|none=>none)=some r;change (match S f with|some sf=>fM (qC S n) wl aa sf args st|none=>none)=some r at h;cases hf:S f with
  |none=>rw[hf]at h;cases h|some sf=>rw[hf]at h;exact yU ih h
  intro wl aa rs c s r h;show (match jf (qC S (n+1)) wl aa rs c s with|some (.normal,s')=>(qC S (n+1)).loop wl aa rs c s'|r=>r)=some r;change (match jf (qC S n) wl aa rs c s with|some (.normal,s')=>(qC S n).loop wl aa rs c s'|r=>r)=some r at h;cases hs:jf (qC S n) wl aa rs c s with
  |none=>rw[hs]at h;cases h|some x=>
   rw[hs]at h;rw[mc ih hs];obtain⟨e,s'⟩:=x;cases e with
   |normal=>exact ih.loop _ _ _ _ _ _ h|exit id=>exact h|ret v=>exact h
open Classical in
noncomputable def aZ (S:Nat->Option aL):kL:=
 ⟨λwl aa f args st=>if h:∃n r,(qC S n).call wl aa f args st=some r then some h.choose_spec.choose else none,
  λwl aa rs c s=>if h:∃n r,(qC S n).loop wl aa rs c s=some r then some h.choose_spec.choose else none⟩
theorem Bt(S:Nat->Option aL)(n k:Nat):(qC S n).le (qC S (n+k)):=by
 induction k with
 |zero=>exact kL.le_refl _|succ k ih=>exact kL.le_trans ih (DL S (n+k))
theorem uF(S:Nat->Option aL):Sup (qC S) (aZ S) where
 mono:=DL S
 call:=λwl aa f args st r h=>by
  unfold aZ at h;simp only at h;split at h;rename_i hx;cases h;exact⟨_,hx.choose_spec.choose_spec⟩;cases h
 loop:=λwl aa rs c s r h=>by
  unfold aZ at h;simp only at h;split at h;rename_i hx;cases h;exact⟨_,hx.choose_spec.choose_spec⟩;cases h
theorem qY(S:Nat->Option aL)(n:Nat):(qC S n).le (aZ S) where
 call:=λwl aa f args st r h=>by
  have hx:∃n r,(qC S n).call wl aa f args st=some r:=⟨n,r,h⟩;have:(aZ S).call wl aa f args st=some hx.choose_spec.choose:=by unfold aZ;simp only;rw[dif_pos hx]
  have h2:=hx.choose_spec.choose_spec;have a:=(Bt S n hx.choose).call _ _ _ _ _ _ h;have b:=(Bt S hx.choose n).call _ _ _ _ _ _ h2;rw[ae1]at b;exact this.trans (b.symm.trans a)
 loop:=λwl aa rs c s r h=>by
  have hx:∃n r,(qC S n).loop wl aa rs c s=some r:=⟨n,r,h⟩;have:(aZ S).loop wl aa rs c s=some hx.choose_spec.choose:=by unfold aZ;simp only;rw[dif_pos hx]
  have h2:=hx.choose_spec.choose_spec;have a:=(Bt S n hx.choose).loop _ _ _ _ _ _ h;have b:=(Bt S hx.choose n).loop _ _ _ _ _ _ h2;rw[ae1]at b;exact this.trans (b.symm.trans a)
section
variable {o:Nat->kL}{L:kL}(hs:Sup o L){wl aa:Nat}
include hs
theorem Cb{x:Option (Nat×List AV)}{st:ay}{bx:bG}{r:fL×ay×bG}
  (h:hJ L wl aa x st bx=some r):∃n,hJ (o n) wl aa x st bx=some r:=by
 unfold hJ at h;split at h;rename_i f vs;cases hc:L.call wl aa f vs st with
 |none=>simp[hc]at h|some x=>
  obtain⟨n,hn⟩:=hs.call _ _ _ _ _ _ hc;refine⟨n,?_⟩;rw[hc]at h;unfold hJ;simp only;rw[hn];exact h
 cases h
theorem NP{op:gq}{vals:List fL}{st:ay}{bx:bG}{r:fL×ay×bG}
  (h:ud L wl aa op vals st bx=some r):∃n,ud (o n) wl aa op vals st bx=some r:=by
 by_cases h1:∃f,op=.call f;obtain⟨f,rfl⟩:=h1;exact Cb hs h;by_cases h2:op=.r7;subst h2;exact Cb hs h;exact⟨0,by rw[<-JH L (o 0) wl aa op vals st bx (λf e=>h1 ⟨f,e⟩) h2];exact h⟩
theorem DN{p:aR}{s r:St}(h:iX L wl aa p s=some r):∃n,iX (o n) wl aa p s=some r:=by
 unfold iX at h;split at h;cases h;rename_i hw;exact⟨0,by unfold iX;rw[hw];exact h⟩;rename_i hw;split at h;cases h;rename_i e st' gX ha;obtain⟨n,hn⟩:=NP hs ha;exact⟨n,by unfold iX;rw[hw];simp only;rw[hn];exact h⟩
theorem Cc:∀{l:List aR}{s r:St},gD L wl aa l s=some r->∃n,gD (o n) wl aa l s=some r
 |[],_,_,h=>⟨0,h⟩
 |p::l,s,r,h=>by
  unfold gD at h;split at h;rename_i s' hp;obtain⟨n,hn⟩:=DN hs hp;obtain⟨m,hm⟩:=Cc h;refine⟨n+m,?_⟩;unfold gD;rw[tE (hs.le n m) hn];simp only;exact vo (by rw[ae1];exact hs.le m n) hm;cases h
theorem Cd:∀{l:List aR}{s:St} {r},eG L wl aa l s=some r->∃n,eG (o n) wl aa l s=some r
 |[],_,_,h=>⟨0,h⟩
 |p::l,s,r,h=>by
  unfold eG at h;split at h;rename_i s' hp;split at h;rename_i e l' hr;obtain⟨n,hn⟩:=DN hs hp;obtain⟨m,hm⟩:=Cd hr;refine⟨n+m,?_⟩;unfold eG;rw[tE (hs.le n m) hn];simp only;rw[qX (by rw[ae1];exact hs.le m n) hm];exact h;cases h;cases h
theorem ue{p:aR}{s t:St}{st:ay}(h:dH L wl aa p s t st=true):∃n,dH (o n) wl aa p s t st=true:=by
 unfold dH at h;split at h;cases h;rename_i hw;exact⟨0,by unfold dH;rw[hw]⟩;rename_i hw;split at h;rename_i e a b ha;obtain⟨n,hn⟩:=NP hs ha;exact⟨n,by unfold dH;rw[hw];simp only;rw[hn];exact h⟩;cases h
theorem LX{dO:List aR}{gQ:List St}{x:Nat×Nat}(h:iG L wl aa dO gQ x=true):∃n,iG (o n) wl aa dO gQ x=true:=by
 obtain⟨q,w⟩:=x;unfold iG at h ⊢;by_cases h1:q<100000;simp only[h1,aQ]at h ⊢;split at h;simp only[aac]at h ⊢;obtain⟨n,hn⟩:=ue hs h.1;obtain⟨m,hm⟩:=ue hs h.2;exact⟨n+m,l9 (hs.le n m) hn,l9 (by rw[ae1];exact hs.le m n) hm⟩;cases h;simp only[h1,aS]at h ⊢;split at h;cases h;by_cases h2:q<200000;simp only[h2,aQ,exists_const];simp only[h2,aS]at h ⊢;split at h;exact ue hs h;cases h
theorem GB{dO:List aR}{gQ:List St}:∀{l:List (Nat×Nat)},l.all (iG L wl aa dO gQ)=true->∃n,l.all (iG (o n) wl aa dO gQ)=true
 |[],_=>⟨0,rfl⟩
 |x::l,h=>by
  simp only[agm,aac]at h;obtain⟨n,hn⟩:=LX hs h.1;obtain⟨m,hm⟩:=GB h.2;refine⟨n+m,?_⟩;simp only[agm,aac];refine⟨tF (hs.le n m) hn,?_⟩;rw[aaB]at hm ⊢;exact λx hx=>tF (by rw[ae1];exact hs.le m n) (hm x hx)
theorem HV{dO:List aR}{cw:List (Nat×Nat)}{s r:St}(h:iw L wl aa dO cw s=some r):∃n,iw (o n) wl aa dO cw s=some r:=by
 unfold iw at h;split at h;cases h;rename_i e gQ hr;split at h;rename_i hc;cases h;simp only[aac]at hc;obtain⟨n,hn⟩:=Cd hs hr;obtain⟨m,hm⟩:=GB hs hc.1;refine⟨n+m,?_⟩;unfold iw;rw[qX (hs.le n m) hn];have:cw.all (iG (o (n+m)) wl aa dO gQ)=true:=by
  rw[aaB]at hm ⊢;exact λx hx=>tF (by rw[ae1];exact hs.le m n) (hm x hx)
 simp only[this,hc.2,aet,aQ];cases h
theorem vp{rs:List iW}:∀{c:bN}{s:St} {r},jf L wl aa rs c s=some r->∃n,jf (o n) wl aa rs c s=some r
 |.skip,_,_,h=>⟨0,h⟩
 |.region dO draw dD,s,r,h=>by
  unfold jf at h;cases draw with
  |none=>
   simp only at h;split at h;rename_i s' hp;obtain⟨n,hn⟩:=Cc hs hp;exact⟨n,by unfold jf;simp only;rw[hn];exact h⟩;cases h
  |some cw=>
   simp only at h;split at h;rename_i s' hp;obtain⟨n,hn⟩:=HV hs hp;exact⟨n,by unfold jf;simp only;rw[hn];exact h⟩;cases h
 |.seq a b,s,r,h=>by
  unfold jf at h;cases ha:jf L wl aa rs a s with
  |none=>rw[ha]at h;cases h|some x=>
   rw[ha]at h;obtain⟨n,hn⟩:=vp ha;obtain⟨e,s'⟩:=x;cases e with
   |normal=>
    obtain⟨m,hm⟩:=vp h;refine⟨n+m,?_⟩;unfold jf;rw[mc (hs.le n m) hn];exact mc (by rw[ae1];exact hs.le m n) hm
   |exit id=>exact⟨n,by unfold jf;rw[hn];exact h⟩|ret v=>exact⟨n,by unfold jf;rw[hn];exact h⟩
 |.cond c ca a cb b,s,r,h=>by
  unfold jf at h;split at h;rename_i hb;obtain⟨n,hn⟩:=vp h;exact⟨n,by unfold jf;rw[hb];exact hn⟩;rename_i hb;obtain⟨n,hn⟩:=vp h;exact⟨n,by unfold jf;rw[hb];exact hn⟩;cases h
 |.block id c,s,r,h=>by
  unfold jf at h;cases ha:jf L wl aa rs c s with
  |none=>rw[ha]at h;cases h|some x=>
   rw[ha]at h;obtain⟨n,hn⟩:=vp ha;exact⟨n,by unfold jf;rw[hn];exact h⟩
 |.loop c,s,r,h=>hs.loop _ _ _ _ _ _ h|.exit id,s,r,h=>⟨0,h⟩
 |.ret,s,r,h=>⟨0,h⟩
 |.Pn t,s,r,h=>⟨0,h⟩
 |.DJ j k,s,r,h=>⟨0,h⟩
 |.uE t off,s,r,h=>⟨0,h⟩
theorem yV{sf:aL}{args:List AV}{st:ay} {r}(h:eM L wl aa sf args st=some r):∃n,eM (o n) wl aa sf args st=some r:=by
 unfold eM at h;split at h;rename_i hl;cases hx:jf L (sf.mode.wL st.length wl) (sf.mode.oW st.length aa) sf.results sf.body (qc sf args st) with
 |none=>rw[hx]at h;cases h|some x=>
  rw[hx]at h;obtain⟨n,hn⟩:=vp hs hx;exact⟨n,by unfold eM;rw[ah hl,hn];exact h⟩
 cases h
theorem HW{sf:aL}{args:List AV}{st:ay} {r}(h:fM L wl aa sf args st=some r):∃n,fM (o n) wl aa sf args st=some r:=by
 unfold fM at h;split at h;rename_i LG;cases hc:eM L 0 0 sf args [] with
 |none=>rw[hc]at h;cases h|some x=>
  rw[hc]at h;obtain⟨n,hn⟩:=yV hs hc;exact⟨n,by unfold fM;rw[ah LG,hn];exact h⟩
 rename_i LG;obtain⟨n,hn⟩:=yV hs h;exact⟨n,by unfold fM;rw[U LG];exact hn⟩
end
theorem NQ{α:Type}{a b:Option α}(h:∀r,a=some r↔b=some r):a=b:=by
 cases a with
 |none=>cases b with
  |none=>rfl|some y=>exact aU ((h y).2 rfl) (by simp)
 |some x=>exact((h x).1 rfl).symm
theorem Bu(S:Nat->Option aL)(wl aa f:Nat)(args:List AV)(st:ay) :
  (aZ S).call wl aa f args st=match S f with
   |some sf=>fM (aZ S) wl aa sf args st|none=>none:=by
 refine NQ λr=>⟨λh=>?_,λh=>?_⟩;obtain⟨n,hn⟩:=(uF S).call _ _ _ _ _ _ h;cases n with
 |zero=>cases hn|succ n=>
  change (match S f with|some sf=>fM (qC S n) wl aa sf args st|none=>none)=some r at hn;cases hf:S f with
  |none=>rw[hf]at hn;cases hn|some sf=>rw[hf]at hn;exact yU (qY S n) hn
 cases hf:S f with
 |none=>rw[hf]at h;cases h|some sf=>
  rw[hf]at h;obtain⟨n,hn⟩:=HW (uF S) h;refine(qY S (n+1)).call _ _ _ _ _ _ ?_;show (match S f with|some sf=>fM (qC S n) wl aa sf args st|none=>none)=some r;rw[hf];exact hn
theorem Po(S:Nat->Option aL)(wl aa:Nat)(rs:List iW)(c:bN)(s:St) :
  (aZ S).loop wl aa rs c s=match jf (aZ S) wl aa rs c s with
   |some (.normal,s')=>(aZ S).loop wl aa rs c s'|r=>r:=by
 refine NQ λr=>⟨λh=>?_,λh=>?_⟩;obtain⟨n,hn⟩:=(uF S).loop _ _ _ _ _ _ h;cases n with
 |zero=>cases hn|succ n=>
  change (match jf (qC S n) wl aa rs c s with|some (.normal,s')=>(qC S n).loop wl aa rs c s'|r=>r)=some r at hn;cases hx:jf (qC S n) wl aa rs c s with
  |none=>rw[hx]at hn;cases hn|some x=>
   rw[hx]at hn;rw[mc (qY S n) hx];obtain⟨e,s'⟩:=x;cases e with
   |normal=>exact(qY S n).loop _ _ _ _ _ _ hn|exit id=>exact hn|ret v=>exact hn
 cases hx:jf (aZ S) wl aa rs c s with
 |none=>rw[hx]at h;cases h|some x=>
  rw[hx]at h;obtain⟨n,hn⟩:=vp (uF S) hx;obtain⟨e,s'⟩:=x;have key:∀m,(qC S m).le (aZ S):=qY S;cases e with
  |normal=>
   obtain⟨m,hm⟩:=(uF S).loop _ _ _ _ _ _ h;refine(qY S (n+m+1)).loop _ _ _ _ _ _ ?_;show (match jf (qC S (n+m)) wl aa rs c s with|some (.normal,s')=>(qC S (n+m)).loop wl aa rs c s'|r=>r)=some r;rw[mc (Bt S n m) hn];exact(by rw[ae1];exact Bt S m n:(qC S m).le (qC S (n+m))).loop _ _ _ _ _ _ hm
  |exit id=>
   refine(qY S (n+1)).loop _ _ _ _ _ _ ?_;show (match jf (qC S n) wl aa rs c s with|some (.normal,s')=>(qC S n).loop wl aa rs c s'|r=>r)=some r;rw[hn];exact h
  |ret v=>
   refine(qY S (n+1)).loop _ _ _ _ _ _ ?_;show (match jf (qC S n) wl aa rs c s with|some (.normal,s')=>(qC S n).loop wl aa rs c s'|r=>r)=some r;rw[hn];exact h
end Ax
namespace Ax
theorem DO{O:kL}{wl aa:Nat}{rs:List iW}{t off:Nat}{s s':St}{x:Ex}(h:jf O wl aa rs (.uE t off) s=some (x,s')) :
  x=.normal/\∃id cQ i k v v' qQ qb,dK s.env t=.val (.ptr id cQ i k)/\iT s.st (.ptr id cQ i (k+off)) 1=some [v]/\pS wl v s.st=some (v',qQ)/\fo wl aa qQ (.ptr id cQ i (k+off)) [v']=some qb/\s'=⟨s.env,s.bx,qb⟩:=by
 unfold jf at h;split at h;rename_i id cQ i k h1;split at h;rename_i v h2;split at h;rename_i v' qQ h3;split at h;rename_i qb h4;cases h;exact⟨rfl,id,cQ,i,k,v,v',qQ,qb,h1,h2,h3,h4,rfl⟩;cases h;cases h;cases h;cases h
end Ax
namespace Ax
open Go
mutual
def AV.cS:AV->Bool
 |.k8 _ _|.raw _ _=>false|.agg cs|.fK cs=>AV.fq cs|_=>true
def AV.fq:List AV->Bool
 |[]=>true|v::r=>v.cS&&AV.fq r
end
structure lY where
 a:Option Addr
 cap:Nat
 len:Nat
 sz:Nat
 cQ:Nat
 mp:Bool
 vals:List (List Value)
def lY.hd(l:lY):Option Addr×Nat×Nat×Nat×Bool:=(l.a,l.cap,l.len,l.sz,l.mp)
structure bD where
 ls:List lY
 mR:Nat->Option Nat
def Imm(w:World)(G:bD)(b o:Nat):Prop:=b<w.heap.size/\∀p,G.mR b=some p->o<p
inductive bF (w:World) (G:bD):AV->Value->Prop
 |undef:bF w G .undef Go.undef
 |gone (v:Value) (h:v.oneCell'=true):bF w G .gone v
 |bool (b:Bool):bF w G (.bool b) (.bool b)
 |int (k:IntKind) (n:Int):bF w G (.int k n) (.int k n)
 |str (l:List UInt8) (s:ByteArray) (h:s.data.toList=l):bF w G (.str l) (.string s)
 |dV:bF w G .dV (.pointer none)
 |af:bF w G .af (.slice none 0 0)
 |hY:bF w G .hY (.map none)
 |jz:bF w G .jz .nilFunc
 |kO:bF w G .kO .nilIface
 |agg (cs:List AV) (vs:Array Value) (hl:cs.length=vs.size) (h:∀(i:Nat) c v,cs[i]?=some c->vs[i]?=some v->bF w G c v):bF w G (.agg cs) (.agg vs)
 |fK (cs:List AV) (vs:Array Value) (hl:cs.length=vs.size) (h:∀(i:Nat) c v,cs[i]?=some c->vs[i]?=some v->bF w G c v):bF w G (.fK cs) (.tuple vs)
 |eE (sz:Nat) (rows:List (List AV)) (a:Addr) (cap:Nat) (lI:a.spot=none) (gY:rows.length<=cap) (dL:cn sz rows=true)
   (iI:∀r∈rows,AV.fq r=true) (qf:∀r∈rows,AV.ax r=true) (x7:∀r∈rows,AV.bw r=true)
   (hc:∀(i:Nat) r (j:Nat) c,rows[i]?=some r->r[j]?=some c->Imm w G a.block (a.off+(i*sz+j))/\∃v,w.cell? ⟨a.block,a.off+(i*sz+j),none⟩=some v)
   (hr:∀(i:Nat) r (j:Nat) c v,rows[i]?=some r->r[j]?=some c->w.cell? ⟨a.block,a.off+(i*sz+j),none⟩=some v->bF w G c v) :
   bF w G (.eE sz rows) (.slice (some a) rows.length cap)
 |k8 (sz:Nat) (rows:List (List AV)) (a:Addr) (cap:Nat) (lI:a.spot=none) (gY:rows.length<=cap) (dL:cn sz rows=true)
   (iI:∀r∈rows,AV.fq r=true) (qf:∀r∈rows,AV.ax r=true) (x7:∀r∈rows,AV.bw r=true)
   (hc:∀(i:Nat) r (j:Nat) c,rows[i]?=some r->r[j]?=some c->∃v,w.cell? ⟨a.block,a.off+(i*sz+j),none⟩=some v)
   (hr:∀(i:Nat) r (j:Nat) c v,rows[i]?=some r->r[j]?=some c->w.cell? ⟨a.block,a.off+(i*sz+j),none⟩=some v->bF w G c v)
   (jl:G.mR a.block=some (a.off+rows.length*sz))
   (ig:∃c e,w.heap[a.block]?=some (.cells c e (0,0))/\a.off+cap*sz<=c.size) :
   bF w G (.k8 sz rows) (.slice (some a) rows.length cap)
 |raw (sz:Nat) (rows:List (List AV)) (a:Addr) (cap:Nat) (lI:a.spot=none) (gY:rows.length<=cap) (dL:cn sz rows=true)
   (iI:∀r∈rows,AV.fq r=true) (qf:∀r∈rows,AV.ax r=true) (x7:∀r∈rows,AV.bw r=true)
   (hc:∀(i:Nat) r (j:Nat) c,rows[i]?=some r->r[j]?=some c->∃v,w.cell? ⟨a.block,a.off+(i*sz+j),none⟩=some v)
   (hr:∀(i:Nat) r (j:Nat) c v,rows[i]?=some r->r[j]?=some c->w.cell? ⟨a.block,a.off+(i*sz+j),none⟩=some v->bF w G c v)
   (jl:G.mR a.block=some 0)
   (ig:∃c e,w.heap[a.block]?=some (.cells c e (0,0))/\a.off+cap*sz<=c.size) :
   bF w G (.raw sz rows) (.slice (some a) rows.length cap)
 |mE (a:Addr):bF w G .mE (.slice (some a) 0 0)
 |mu (id cQ:Nat) (v:Value) (loc:lY) (hp:∃p n c,v=.slice p n c) (hl:G.ls[id]?=some loc) (hv:cQ<=loc.cQ) (he:cQ=loc.cQ->v=.slice loc.a loc.len loc.cap):bF w G (.mu id cQ) v
 |ptr (id cQ i k:Nat) (v:Value) (loc:lY) (hp:∃a,v=.pointer (some a)) (hl:G.ls[id]?=some loc) (hv:cQ<=loc.cQ)
   (he:cQ=loc.cQ->∃a,loc.a=some a/\v=.pointer (some ⟨a.block,a.off+(i*loc.sz+k),none⟩)):bF w G (.ptr id cQ i k) v
 |qP (sz:Nat) (rows:List (List AV)) (i k:Nat) (a:Addr) (cap:Nat) (hs:bF w G (.eE sz rows) (.slice (some a) rows.length cap)) :
   bF w G (.qP sz rows i k) (.pointer (some ⟨a.block,a.off+(i*sz+k),none⟩))
 |map (id:Nat) (loc:lY) (b:Nat) (hl:G.ls[id]?=some loc) (hm:loc.mp=true) (hb:loc.a=some ⟨b,0,none⟩):bF w G (.map id) (.map (some b))
 |fn (f:Nat) (first l7:List AV) (vf vc:Array Value) (hl:first.length=vf.size) (hm:l7.length=vc.size)
   (hn:AV.fq first=true/\AV.fq l7=true/\f<100000)
   (h:∀(i:Nat) c v,first[i]?=some c->vf[i]?=some v->bF w G c v) (k:∀(i:Nat) c v,l7[i]?=some c->vc[i]?=some v->bF w G c v) :
   bF w G (.fn f first l7) (.func (.func f) vf vc)
mutual
def gT(b:Nat):AV->Value->Nat
 |.k8 _ _,.slice (some a) _ _=>if a.block=b then 1 else 0
 |.raw _ _,.slice (some a) _ _=>if a.block=b then 1 else 0
 |.agg cs,.agg vs=>cL b cs vs.toList|.fK cs,.tuple vs=>cL b cs vs.toList|_,_=>0
def cL(b:Nat):List AV->List Value->Nat
 |c::cs,v::vs=>gT b c v+cL b cs vs|_,_=>0
end
theorem wY(b:Nat):∀(cs:List AV)(vs:List Value)(i:Nat)(c:AV)(v:Value),cs[i]?=some c->vs[i]?=some v->gT b c v<=cL b cs vs
 |[],_,_,_,_,h,_=>by simp at h|_::_,[],_,_,_,_,h=>by simp at h|c::cs,v::vs,0,c',v',h,k=>by
  simp at h k;subst h;subst k;simp only[cL];omega
 |c::cs,v::vs,i+1,c',v',h,k=>by
  simp at h k;have:=wY b cs vs i c' v' h k;simp only[cL];omega
mutual
theorem fV(b:Nat):∀(a:AV)(v:Value),a.cS=true->gT b a v=0
 |.k8 _ _,_,h=>by simp[AV.cS]at h|.raw _ _,_,h=>by simp[AV.cS]at h|.agg cs,.agg vs,h=>by simp only[gT];exact eS b cs vs.toList (by simpa [AV.cS] using h)|.fK cs,.tuple vs,h=>by simp only[gT];exact eS b cs vs.toList (by simpa [AV.cS] using h)
 |.undef,_,_|.gone,_,_|.bool _,_,_|.int _ _,_,_|.str _,_,_|.dV,_,_|.af,_,_|.hY,_,_|.jz,_,_|.kO,_,_
 |.eE _ _,_,_|.mE,_,_|.mu _ _,_,_|.ptr _ _ _ _,_,_|.qP _ _ _ _,_,_|.map _,_,_|.fn _ _ _,_,_=>by simp[gT]
 |.agg cs,.bool _,_|.agg cs,.int _ _,_|.agg cs,.float _ _,_|.agg cs,.complex _ _ _,_|.agg cs,.string _,_|.agg cs,.pointer _,_|.agg cs,.slice _ _ _,_
 |.agg cs,.map _,_|.agg cs,.chan _,_|.agg cs,.func _ _ _,_|.agg cs,.nilFunc,_|.agg cs,.iface _ _,_|.agg cs,.nilIface,_|.agg cs,.tuple _,_=>by simp[gT]
 |.fK cs,.bool _,_|.fK cs,.int _ _,_|.fK cs,.float _ _,_|.fK cs,.complex _ _ _,_|.fK cs,.string _,_|.fK cs,.pointer _,_|.fK cs,.slice _ _ _,_
 |.fK cs,.map _,_|.fK cs,.chan _,_|.fK cs,.func _ _ _,_|.fK cs,.nilFunc,_|.fK cs,.iface _ _,_|.fK cs,.nilIface,_|.fK cs,.agg _,_=>by simp[gT]
theorem eS(b:Nat):∀(cs:List AV)(vs:List Value),AV.fq cs=true->cL b cs vs=0
 |[],_,_=>by simp[cL]|_::_,[],_=>by simp[cL]|c::cs,v::vs,h=>by
  simp[AV.fq]at h;simp only[cL,fV b c v h.1,eS b cs vs h.2]
end
mutual
theorem vq:∀a:AV,a.ai.cS=true
 |.k8 _ _=>by simp[AV.ai,AV.cS]|.raw _ _=>by simp[AV.ai,AV.cS]|.agg cs=>by simp only[AV.ai,AV.cS];exact iD cs|.fK cs=>by simp only[AV.ai,AV.cS];exact iD cs|.undef|.gone|.bool _|.int _ _|.str _|.dV|.af|.hY|.jz|.kO|.eE _ _|.mE|.mu _ _|.ptr _ _ _ _|.qP _ _ _ _|.map _|.fn _ _ _=>by simp[AV.ai,AV.cS]
theorem iD:∀cs:List AV,AV.fq (AV.cW cs)=true
 |[]=>rfl|c::cs=>by simp only[AV.cW,AV.fq,vq c,iD cs,aet]
end
theorem x8:∀(cs:List AV)(i:Nat),(AV.cW cs)[i]?=(cs[i]?).map AV.ai
 |[],i=>by simp[AV.cW]|c::cs,0=>by simp[AV.cW]|c::cs,i+1=>by simp[AV.cW,x8 cs i]
theorem nX:∀(cs:List AV),(AV.cW cs).length=cs.length
 |[]=>rfl|c::cs=>by simp[AV.cW,nX cs]
theorem dm:∀(cs:List AV),AV.fq cs=true↔∀c∈cs,c.cS=true
 |[]=>by simp[AV.fq]|c::cs=>by simp[AV.fq,dm cs]
theorem iE:∀(cs:List AV),AV.ax cs=true↔∀c∈cs,c.aB=true
 |[]=>by simp[AV.ax]|c::cs=>by simp[AV.ax,iE cs]
theorem dR{α:Type}{l:List α}{i:Nat}{x:α}(h:l[i]?=some x):x∈l:=List.mem_of_getElem? h
structure tG (w:World)(G:bD)(w':World)(G':bD):Prop where
 Rw:∀b o,Imm w G b o->w'.cell? ⟨b,o,none⟩=w.cell? ⟨b,o,none⟩/\Imm w' G' b o
 fB:∀(id:Nat) loc,G.ls[id]?=some loc->∃loc',G'.ls[id]?=some loc'/\loc.cQ<=loc'.cQ/\(loc.cQ=loc'.cQ\/loc.mp=true->loc'.hd=loc.hd)
theorem tG.refl(w:World)(G:bD):tG w G w G:=⟨λ_ _ h=>⟨rfl,h⟩,λ_ loc h=>⟨loc,h,Nat.le_refl _,λ_=>rfl⟩⟩
theorem tG.trans{w G w' G' w'' G''}(h:tG w G w' G')(k:tG w' G' w'' G''):tG w G w'' G'' where
 Rw:=λb o hi=>by
  obtain⟨a1,a2⟩:=h.Rw b o hi;obtain⟨b1,b2⟩:=k.Rw b o a2;exact⟨b1.trans a1,b2⟩
 fB:=λid loc hl=>by
  obtain⟨l1,a1,a2,a3⟩:=h.fB id loc hl;obtain⟨l2,b1,b2,b3⟩:=k.fB id l1 a1;refine⟨l2,b1,by omega,λe=>?_⟩;rcases e with e|e;have e1:loc.cQ=l1.cQ:=by omega
  have e2:l1.cQ=l2.cQ:=by omega
  rw[b3 (.inl e2),a3 (.inl e1)];have h1:=a3 (.inr e);have h2:l1.mp=loc.mp:=congrArg (·.2.2.2.2) h1;exact(b3 (.inr (h2.trans e))).trans h1
theorem bF.jT{w:World}{G:bD}{w':World}{G':bD}{a:AV}{v:Value}(h:bF w G a v)(hs:tG w G w' G') :
  (∀b,0<gT b a v->G'.mR b=G.mR b/\w'.heap[b]?=w.heap[b]?)->bF w' G' a v:=by
 induction h with
 |undef=>exact λ_=>.undef|gone v h=>exact λ_=>.gone v h|bool b=>exact λ_=>.bool b|int k n=>exact λ_=>.int k n|str l s h=>exact λ_=>.str l s h|dV=>exact λ_=>.dV|af=>exact λ_=>.af|hY=>exact λ_=>.hY|jz=>exact λ_=>.jz|kO=>exact λ_=>.kO|agg cs vs hl h ih=>
  intro ho;refine .agg cs vs hl λi c v hc hv=>ih i c v hc hv λb hb=>ho b ?_;have:=wY b cs vs.toList i c v hc (by simpa using hv);simp only[gT];omega
 |fK cs vs hl h ih=>
  intro ho;refine .fK cs vs hl λi c v hc hv=>ih i c v hc hv λb hb=>ho b ?_;have:=wY b cs vs.toList i c v hc (by simpa using hv);simp only[gT];omega
 |eE sz rows a cap lI gY dL iI qf x7 hc hr ih=>
  intro _;refine .eE sz rows a cap lI gY dL iI qf x7 (λi r j c h1 h2=>?_) (λi r j c v h1 h2 h3=>?_);obtain⟨hi,v,hv⟩:=hc i r j c h1 h2;obtain⟨e,rN⟩:=hs.Rw _ _ hi;exact⟨rN,v,e.trans hv⟩;obtain⟨hi,v',FZ⟩:=hc i r j c h1 h2;obtain⟨e,rN⟩:=hs.Rw _ _ hi;rw[e]at h3;refine ih i r j c v h1 h2 h3 λb hb=>?_;rw[fV b c v ((dm r).1 (iI r (dR h1)) c (dR h2))]at hb;omega
 |k8 sz rows a cap lI gY dL iI qf x7 hc hr jl ig ih=>
  intro ho;obtain⟨ht,hh⟩:=ho a.block (by simp[gT]);have oX:∀o,w'.cell? ⟨a.block,o,none⟩=w.cell? ⟨a.block,o,none⟩:=λo=>by simp[World.cell?,hh]
  refine .k8 sz rows a cap lI gY dL iI qf x7 (λi r j c h1 h2=>?_) (λi r j c v h1 h2 h3=>?_) (ht.trans jl) ?_;obtain⟨v,hv⟩:=hc i r j c h1 h2;exact⟨v,(oX _).trans hv⟩;rw[oX]at h3;refine ih i r j c v h1 h2 h3 λb hb=>?_;rw[fV b c v ((dm r).1 (iI r (dR h1)) c (dR h2))]at hb;omega;obtain⟨c,e,h1,h2⟩:=ig;exact⟨c,e,hh.trans h1,h2⟩
 |raw sz rows a cap lI gY dL iI qf x7 hc hr jl ig ih=>
  intro ho;obtain⟨ht,hh⟩:=ho a.block (by simp[gT]);have oX:∀o,w'.cell? ⟨a.block,o,none⟩=w.cell? ⟨a.block,o,none⟩:=λo=>by simp[World.cell?,hh]
  refine .raw sz rows a cap lI gY dL iI qf x7 (λi r j c h1 h2=>?_) (λi r j c v h1 h2 h3=>?_) (ht.trans jl) ?_;obtain⟨v,hv⟩:=hc i r j c h1 h2;exact⟨v,(oX _).trans hv⟩;rw[oX]at h3;refine ih i r j c v h1 h2 h3 λb hb=>?_;rw[fV b c v ((dm r).1 (iI r (dR h1)) c (dR h2))]at hb;omega;obtain⟨c,e,h1,h2⟩:=ig;exact⟨c,e,hh.trans h1,h2⟩
 |mE a=>exact λ_=>.mE a|mu id cQ v loc hp hl hv he=>
  intro _;obtain⟨loc',a1,a2,a3⟩:=hs.fB id loc hl;refine .mu id cQ v loc' hp a1 (by omega) λe=>?_;have e1:cQ=loc.cQ:=by omega
  have e2:=a3 (.inl (by omega));rw[show loc'.a=loc.a from congrArg (·.1) e2,show loc'.len=loc.len from congrArg (·.2.2.1) e2,show loc'.cap=loc.cap from congrArg (·.2.1) e2];exact he e1
 |ptr id cQ i k v loc hp hl hv he=>
  intro _;obtain⟨loc',a1,a2,a3⟩:=hs.fB id loc hl;refine .ptr id cQ i k v loc' hp a1 (by omega) λe=>?_;have e1:cQ=loc.cQ:=by omega
  have e2:=a3 (.inl (by omega));rw[show loc'.a=loc.a from congrArg (·.1) e2,show loc'.sz=loc.sz from congrArg (·.2.2.2.1) e2];exact he e1
 |qP sz rows i k a cap hl ih=>exact λ_=>.qP sz rows i k a cap (ih λb hb=>by simp[gT]at hb)|map id loc b hl hm hb=>
  intro _;obtain⟨loc',a1,a2,a3⟩:=hs.fB id loc hl;have e2:=a3 (.inr hm);exact .map id loc' b a1 ((congrArg (·.2.2.2.2) e2:loc'.mp=loc.mp).trans hm) ((congrArg (·.1) e2:loc'.a=loc.a).trans hb)
 |fn f first l7 vf vc hl hm hn h k ih ik=>
  intro _;refine .fn f first l7 vf vc hl hm hn (λi c v h1 h2=>ih i c v h1 h2 λb hb=>?_) (λi c v h1 h2=>ik i c v h1 h2 λb hb=>?_)
  rw[fV b c v ((dm first).1 hn.1 c (dR h1))]at hb;omega;rw[fV b c v ((dm l7).1 hn.2.1 c (dR h1))]at hb;omega
end Ax
namespace Ax
open Go
def x9:Nat->Value->Option AV
 |0,_=>none|d+1,v=>match v with
  |.bool b=>some (.bool b)|.int k n=>some (.int k n)|.string s=>some (.str s.data.toList)|.pointer none=>some .dV|.slice none 0 0=>some .af|.map none=>some .hY|.nilFunc=>some .jz|.nilIface=>some .kO|.agg cs=>match cs.toList.mapM (x9 d) with|some l=>some (.agg l)|none=>none
  |_=>none
def ya(v:Value)(a:AV):Bool:=match x9 3 v with|some b=>b.gi a|none=>false
def rO:List Value->List AV->Bool
 |[],[]=>true|v::vs,a::as=>ya v a&&rO vs as|_,_=>false
def LY:Operand->Src->Bool
 |.tmp t,.tmp u _=>t==u|.const v,.const a=>ya v a|.func f,.const (.fn g [] [])=>f==g&&decide (f<100000)|_,_=>false
def iq:List Operand->List Src->Bool
 |[],[]=>true|x::xs,s::ss=>LY x s&&iq xs ss|_,_=>false
def nY(P:Program)(t:TypeId):Option Bool:=match P.underlying t with
 |some (.struct _)|some (.array _ _)=>some true|some _=>some false|none=>none
def di(P:Program)(t:TypeId)(n:Nat):Bool:=match P.info? t with|some i=>i.size==n|none=>false
def pT(P:Program)(t:TypeId)(n:Nat):Bool:=match P.info? t with|some i=>i.bytes==n|none=>false
def DP(P:Program)(rec:TypeId->Option (List SK)):Nat->List Field->Option (List SK)
 |_,[]=>some []|off,f::fs=>
  if f.offset = off && f.name != "_" then
   match rec f.type with
   |some ks=>if di P f.type ks.length then (match DP P rec (off+ks.length) fs with|some r=>some (ks++r)|none=>none) else none
   |none=>none
  else none
def DQ(P:Program):Nat->TypeId->Option (List SK)
 |0,_=>none|d+1,t=>match P.underlying t with
  |some .bool=>some [.bool]|some (.int _)=>some [.int]|some .string=>some [.str]|some (.struct fs)=>if P.stoodInHeld t then none else DP P (DQ P d) 0 fs.toList
  |_=>none
def yN(P:Program)(t:TypeId):EqK->Bool
 |.sc .bool=>match P.underlying t with|some .bool=>true|_=>false
 |.sc _=>false|.ptr=>match P.underlying t with|some (.pointer _)=>true|_=>false
 |.sl=>match P.underlying t with|some (.slice _)=>true|_=>false
 |.fn=>match P.underlying t with|some (.func _ _ _)=>true|_=>false
 |.flat ks=>(match P.underlying t with|some (.struct _)=>true|_=>false)&&DQ P 20 t==some ks && !P.eqGuardType P.depth t
def qg(P:Program)(t:TypeId):SK->Bool
 |.bool=>match P.underlying t with|some .bool=>true|_=>false
 |.int=>match P.underlying t with|some (.int _)=>true|_=>false
 |.str=>match P.underlying t with|some .string=>true|_=>false
def o4(P:Program)(t:TypeId)(zero:List AV):Bool:=match P.info? t with
 |some i=>(match i.zero with|some z=>rO z.cells.toList zero&&AV.bw zero|none=>false)
 |none=>false
def se(P:Program)(fs:Array Field):List (Nat×Operand)->List (Nat×Nat)->Bool
 |[],[]=>true|(i,_)::ps,(off,n)::qs=>(match fs[i]? with|some f=>f.offset==off&&di P f.type n|none=>false)&&se P fs ps qs|_,_=>false
def yb(x:Operand)(lo hi mx:Option Operand):List Operand:=x::(lo.toList++hi.toList++mx.toList)
def mOp(S:Nat->Option aL)(P:Program)(o:Oper)(so:aR):Bool:=
 (match o.dst,so.dst with|some a,some b=>a==b|none,none=>true|_,_=>false) &&
 match o.op,so.op with
 |.move x,.move|.assign x,.move=>iq [x] so.args|.pick c a b,.pick=>iq [c,a,b] so.args|.binOp op _ x y _,.td op'=>op==op'&&iq [x,y] so.args|.binOp op t x y _,.ua k neg=>op==(if neg then .neq else .eql)&&iq [x,y] so.args&&yN P t k|.binOp op t x y _,.NO neg=>op==(if neg then .neq else .eql)&&iq [x,y] so.args&&yN P t .sl|.unOp op _ x,.un op'=>op==op'&&iq [x] so.args|.convert s d x,.conv k=>iq [x] so.args&&(match P.underlying s,P.underlying d with|some (.int _),some (.int k')=>k==k'|_,_=>false)|.nilCheck x,.nilCheck=>iq [x] so.args|.extract x i,.extract j=>i==j&&iq [x] so.args|.field t x f,.field off n agg=>iq [x] so.args&&(match P.underlying t with
  |some (.struct fs)=>(match fs[f]? with|some fd=>fd.offset==off&&di P fd.type n&&nY P fd.type==some agg|none=>false)
  |_=>false)
 |.build t parts,.build zero qs=>iq (parts.toList.map (·.2)) so.args&&o4 P t zero&&(match P.underlying t with
  |some (.struct fs)=>(match fs.toList.mapM (λf=>P.info? f.type) with|some _=>se P fs parts.toList qs|none=>false)
  |_=>false)
 |.buildSlice t n parts,.lit sz n' zero qs|.buildSlice t n parts,.JF sz n' zero qs=>n==n'&&iq (parts.toList.map (·.2)) so.args&&(match P.underlying t with
  |some (.slice e)=>di P e sz&&decide (n*sz<=16777216)&&o4 P e zero&&decide (0<sz)&&(zero.length==sz)&&parts.toList.map (·.1)==qs|_=>false)
 |.fieldAddr t x f,.fieldAddr off=>iq [x] so.args&&(match P.underlying t with
  |some (.struct fs)=>(match fs[f]? with
   |some fd=>fd.offset==off&&(match P.info? fd.type with|some i=>i.size != 0|none=>false)|none=>false)
  |_=>false)
 |.indexAddr t x i,.indexAddr sz=>iq [x,i] so.args&&(match P.underlying t with|some (.slice e)=>di P e sz|_=>false)|.index t x i,.index=>iq [x,i] so.args&&(match P.underlying t with|some .string=>true|_=>false)|.slice t x lo hi mx,.slice wV l h m sz=>iq (yb x lo hi mx) so.args&&lo.isSome==l&&hi.isSome==h&&mx.isSome==m&&(!m||h)&&(match P.underlying t with
  |some (.slice e)=>!wV&&di P e sz|some .string=>wV && !m|_=>false)
 |.slice t x none (some hi) none,.qB sz=>iq [x,hi] so.args&&(match P.underlying t with|some (.slice e)=>di P e sz|_=>false)|.load t a,.load agg n _|.load t a,.gW _ agg n _=>iq [a] so.args&&di P t n&&nY P t==some agg&&(agg||n==1)|.store t a v,.store n|.store t a v,.j9 _ n=>iq [a,v] so.args&&di P t n|.alloc t,.alloc zero|.alloc t,.cq _ zero=>so.args.isEmpty&&o4 P t zero|.box _ v,.box _|.box _ v,.vn _ _=>iq [v] so.args|.makeSlice t l c,.nW sz bytes zero _=>iq [l,c] so.args&&(match P.underlying t with
  |some (.slice e)=>di P e sz&&pT P e bytes&&o4 P e zero&&decide (0<sz)&&decide (0<bytes)|_=>false)
 |.makeMap t none,.makeMap=>so.args.isEmpty&&(match P.underlying t with|some (.map _ _)=>true|_=>false)|.mapUpdate t m k v,.mapUpdate kk|.insert t m k v,.mapUpdate kk=>iq [m,k,v] so.args&&(match P.underlying t with
  |some (.map kt _)=>qg P kt kk|_=>false)
 |.lookup t m k ok,.lookup kk zero ok'=>ok==ok'&&iq [m,k] so.args&&(match P.underlying t with
  |some (.map kt et)=>qg P kt kk &&
   (match P.info? et with|some i=>(match i.zero with|some z=>ya z zero|none=>false)|none=>false)
  |_=>false)
 |.makeFunc (.func f) first l7,.makeFunc f' n=>f==f'&&iq (first.toList++l7.toList) so.args&&first.size==n&&decide (f<100000)
 |.call c,.len k=>iq c.args.toList so.args&&c.args.size==1&&(match c.callee,c.argTypes[0]? with
  |.builtin .len,some t=>(match P.underlying t,k with|some .string,.str|some (.slice _),.sl|some (.map _ _),.mp=>true|_,_=>false)
  |_,_=>false)
 |.call c,.uc mx=>iq c.args.toList so.args&&c.args.size==2&&(match c.callee with|.builtin .max=>mx|.builtin .min=>!mx|_=>false)|.call c,.append sz bytes|.call c,.gu sz bytes=>iq c.args.toList so.args&&c.args.size==2&&c.argTypes.size==2&&(match c.callee,c.argTypes[0]?,c.argTypes[1]? with
  |.builtin .append,some t,some u=>(match P.underlying t with|some (.slice e)=>di P e sz&&pT P e bytes&&decide (0<sz)&&decide (0<bytes)&&(match P.info? e with|some i=>(match i.zero with|some z=>z.cells.size==sz|none=>false)|none=>false)|_=>false) &&
   (match P.underlying u with|some (.slice _)|some .string=>true|_=>false)
  |_,_,_=>false)
 |.call c,.copy sz=>iq c.args.toList so.args&&c.args.size==2&&c.argTypes.size==2&&(match c.callee,c.argTypes[0]?,c.argTypes[1]? with
  |.builtin .copy,some t,some u=>(match P.underlying t with|some (.slice e)=>di P e sz|_=>false)&&(match P.underlying u with|some (.slice _)|some .string=>true|_=>false)|_,_,_=>false)
 |.call c,.call i=>(match c.callee with
  |.value (.func f)=>iq c.args.toList so.args&&(match S i with|some sf=>sf.eP==f|none=>false)|_=>false)
 |.call c,.r7=>(match c.callee with
  |.value x=>iq (x::c.args.toList) so.args|_=>false)
 |.makeSlice t l c,.x6 sz bytes zero=>iq [l,c] so.args&&(match P.underlying t with
  |some (.slice e)=>di P e sz&&pT P e bytes&&o4 P e zero&&decide (0<sz)&&decide (0<bytes)|_=>false)
 |.call c,.pQ sz bytes zero=>iq c.args.toList so.args&&c.args.size==2&&c.argTypes.size==2&&(match c.callee,c.argTypes[0]?,c.argTypes[1]? with
  |.builtin .append,some t,some u=>(match P.underlying t with|some (.slice e)=>di P e sz&&pT P e bytes&&o4 P e zero&&decide (0<sz)&&decide (0<bytes)|_=>false) &&
   (match P.underlying u with|some (.int _)=>true|_=>false)
  |_,_,_=>false)
 |.call c,.Pm=>iq c.args.toList so.args&&c.args.size==1&&(match c.callee,c.argTypes[0]? with
  |.builtin .cap,some t=>(match P.underlying t with|some (.slice _)=>true|_=>false)
  |_,_=>false)
 |_,.qB 0=>so.args.isEmpty|_,_=>false
end Ax
namespace Ax
open Go
structure nD where
 jB:Option Nat
 vals:List Value
def lf(w:World)(G:bD)(β:List nD):fL->Value->Prop
 |.none,_=>True|.val a,v=>bF w G a v|.fp j k,v=>∃g b,β[j]?=some g/\g.jB=some b/\v=.pointer (some ⟨b,k,none⟩)
def dg(b:Nat):fL->Value->Nat
 |.val a,v=>gT b a v|_,_=>0
def lN(w:World)(G:bD)(β:List nD):List fL->List Value->Prop
 |[],[]=>True|e::es,v::vs=>lf w G β e v/\lN w G β es vs|_,_=>False
def mS(b:Nat):List fL->List Value->Nat
 |e::es,v::vs=>dg b e v+mS b es vs|_,_=>0
variable {w:World}{G:bD}{β:List nD}
variable{e:fL}{xs:List Value}{v:Value}
theorem lN.one(h:lN w G β [e] xs):∃v,xs=[v]/\lf w G β e v:=by
 match xs,h with
 |[v],h=>exact⟨v,rfl,h.1⟩
theorem lN.two{f:fL}(h:lN w G β [e,f] xs):∃v u,xs=[v,u]/\lf w G β e v/\lf w G β f u:=by
 match xs,h with
 |[v,u],h=>exact⟨v,u,rfl,h.1,h.2.1⟩
theorem lN.cons{es:List fL}(h:lN w G β (e::es) xs):∃v vs,xs=v::vs/\lf w G β e v/\lN w G β es vs:=by
 match xs,h with
 |v::vs,h=>exact⟨v,vs,rfl,h.1,h.2⟩
theorem lN.vals:∀{es:List fL}{xs:List Value}{vs:List AV},lN w G β es xs->jP es=some vs->
  es=vs.map .val/\vs.length=xs.length/\∀(i:Nat) c v,vs[i]?=some c->xs[i]?=some v->bF w G c v
 |[],[],vs,_,h=>by simp[jP]at h;subst h;exact⟨rfl,rfl,λi c v h _=>by simp at h⟩|.val a::es,x::xs,vs,h,hv=>by
  simp only[jP]at hv;split at hv;rename_i vs' CQ;cases hv;obtain⟨e1,e2,e3⟩:=lN.vals h.2 CQ;refine⟨by rw[e1];rfl,by simp[e2],λi c v h1 h2=>?_⟩;cases i with
  |zero=>simp at h1 h2;subst h1;subst h2;exact h.1|succ i=>simp at h1 h2;exact e3 i c v h1 h2
  cases hv
 |.none::es,_::_,vs,_,hv=>by simp[jP]at hv|.fp _ _::es,_::_,vs,_,hv=>by simp[jP]at hv|[],_::_,_,h,_=>h.elim|_::_,[],_,h,_=>h.elim
theorem DR:∀(b:Nat)(vs:List AV)(xs:List Value),mS b (vs.map .val) xs=cL b vs xs
 |_,[],[]=>rfl|_,[],_::_=>rfl|_,_::_,[]=>rfl|b,a::vs,x::xs=>by simp[mS,cL,dg,DR b vs xs]
theorem bF.iz{k:IntKind}{n:Int}(h:bF w G (.int k n) v):v=.int k n:=by cases h;rfl
theorem bF.kA{b:Bool}(h:bF w G (.bool b) v):v=.bool b:=by cases h;rfl
theorem bF.nv{l:List UInt8}(h:bF w G (.str l) v):∃s,v=.string s/\s.data.toList=l:=by
 cases h with|str _ s h=>exact⟨s,rfl,h⟩
theorem bF.ai{a:AV}(h:bF w G a v):bF w G a.ai v:=by
 induction h with
 |undef=>exact .undef|gone v h=>exact .gone v h|bool b=>exact .bool b|int k n=>exact .int k n|str l s h=>exact .str l s h|dV=>exact .dV|af=>exact .af|hY=>exact .hY|jz=>exact .jz|kO=>exact .kO|agg cs vs hl h ih=>
  refine .agg _ vs (by rw[nX];exact hl) λi c v hc hv=>?_;rw[x8]at hc;simp only[acs]at hc;obtain⟨c',h1,rfl⟩:=hc;exact ih i c' v h1 hv
 |fK cs vs hl h ih=>
  refine .fK _ vs (by rw[nX];exact hl) λi c v hc hv=>?_;rw[x8]at hc;simp only[acs]at hc;obtain⟨c',h1,rfl⟩:=hc;exact ih i c' v h1 hv
 |eE sz rows a cap lI gY dL iI qf x7 hc hr ih=>exact .eE sz rows a cap lI gY dL iI qf x7 hc hr|k8 sz rows a cap lI gY dL iI qf x7 hc hr jl ig ih=>
  refine .eE sz rows a cap lI gY dL iI qf x7 (λi r j c h1 h2=>⟨⟨?_,λp hp=>?_⟩,hc i r j c h1 h2⟩) hr;obtain⟨cc,e,h3,_⟩:=ig;exact(Array.getElem?_eq_some_iff.1 h3).1;rw[jl]at hp;cases hp;have hi:i<rows.length:=(aad.1 h1).1;have hj:j<r.length:=(aad.1 h2).1;have hs:r.length=sz:=by
   simp only[cn,aaB,cz]at dL;exact dL r (dR h1)
  have:i*sz+j<rows.length*sz:=by
   calc i*sz+j<i*sz+sz:=by omega
    _=(i+1)*sz:=by rw[Nat.succ_mul]
    _<=rows.length*sz:=Nat.mul_le_mul_right _ hi
  omega
 |raw sz rows a cap lI gY dL iI qf x7 hc hr jl ig ih=>exact .gone _ rfl|mE a=>exact .mE a|mu id cQ v loc hp hl hv he=>exact .mu id cQ v loc hp hl hv he|ptr id cQ i k v loc hp hl hv he=>exact .ptr id cQ i k v loc hp hl hv he|qP sz rows i k a cap hl ih=>exact .qP sz rows i k a cap hl|map id loc b hl hm hb=>exact .map id loc b hl hm hb|fn f first l7 vf vc hl hm hn h k ih ik=>exact .fn f first l7 vf vc hl hm hn h k
theorem lf.ai{e:fL}{v:Value}(h:lf w G β e v):lf w G β e.ai v:=by
 cases e with
 |none=>trivial|val a=>exact bF.ai h|fp j k=>exact h
theorem GC(b:Nat)(e:fL)(v:Value):dg b e.ai v=0:=by
 cases e with
 |none=>rfl|val a=>exact fV b _ _ (vq a)|fp j k=>rfl
mutual
theorem HX:∀(a b:AV),a.gi b=true->a=b
 |.undef,b,h=>by cases b<;>simp[AV.gi]at h<;>rfl|.gone,b,h=>by cases b<;>simp[AV.gi]at h<;>rfl|.dV,b,h=>by cases b<;>simp[AV.gi]at h<;>rfl|.af,b,h=>by cases b<;>simp[AV.gi]at h<;>rfl|.hY,b,h=>by cases b<;>simp[AV.gi]at h<;>rfl|.jz,b,h=>by cases b<;>simp[AV.gi]at h<;>rfl|.kO,b,h=>by cases b<;>simp[AV.gi]at h<;>rfl|.mE,b,h=>by cases b<;>simp[AV.gi]at h<;>rfl|.bool x,b,h=>by cases b<;>simp[AV.gi]at h;rw[h]|.int k x,b,h=>by cases b<;>simp[AV.gi]at h;rw[h.1,h.2]|.str x,b,h=>by cases b<;>simp[AV.gi]at h;rw[h]|.agg x,b,h=>by
  cases b<;>simp[AV.gi]at h;rw[uG _ _ h]
 |.fK x,b,h=>by
  cases b<;>simp[AV.gi]at h;rw[uG _ _ h]
 |.eE s x,b,h=>by
  cases b<;>simp[AV.gi]at h;rw[h.1,uH _ _ h.2]
 |.k8 s x,b,h=>by
  cases b<;>simp[AV.gi]at h;rw[h.1,uH _ _ h.2]
 |.raw s x,b,h=>by
  cases b<;>simp[AV.gi]at h;rw[h.1,uH _ _ h.2]
 |.mu i v,b,h=>by cases b<;>simp[AV.gi]at h;rw[h.1,h.2]|.ptr i v k l,b,h=>by cases b<;>simp[AV.gi]at h;rw[h.1.1.1,h.1.1.2,h.1.2,h.2]|.qP s x i k,b,h=>by
  cases b<;>simp[AV.gi]at h;rw[h.1.1.1,uH _ _ h.1.1.2,h.1.2,h.2]
 |.map i,b,h=>by cases b<;>simp[AV.gi]at h;rw[h]|.fn f x y,b,h=>by
  cases b<;>simp[AV.gi]at h;rw[h.1.1,uG _ _ h.1.2,uG _ _ h.2]
theorem uG:∀(a b:List AV),AV.uD a b=true->a=b
 |[],b,h=>by cases b<;>simp[AV.uD]at h;rfl|x::a,b,h=>by
  cases b with
  |nil=>simp[AV.uD]at h|cons y b=>
   simp[AV.uD]at h;rw[HX x y h.1,uG a b h.2]
theorem uH:∀(a b:List (List AV)),AV.rZ a b=true->a=b
 |[],b,h=>by cases b<;>simp[AV.rZ]at h;rfl|x::a,b,h=>by
  cases b with
  |nil=>simp[AV.rZ]at h|cons y b=>
   simp[AV.rZ]at h;rw[uG x y h.1,uH a b h.2]
end
theorem DS(w:World)(G:bD):∀(d:Nat)(v:Value)(a:AV),x9 d v=some a->bF w G a v/\a.cS=true/\a.aB=true
 |0,_,_,h=>by simp[x9]at h|d+1,v,a,h=>by
  unfold x9 at h;split at h;cases h;exact⟨.bool _,rfl,rfl⟩;cases h;exact⟨.int _ _,rfl,rfl⟩;cases h;exact⟨.str _ _ rfl,rfl,rfl⟩;cases h;exact⟨.dV,rfl,rfl⟩;cases h;exact⟨.af,rfl,rfl⟩;cases h;exact⟨.hY,rfl,rfl⟩;cases h;exact⟨.jz,rfl,rfl⟩;cases h;exact⟨.kO,rfl,rfl⟩;rename_i cs;split at h;rename_i l hl;cases h;have key:∀(vs:List Value) (l:List AV),vs.mapM (x9 d)=some l->vs.length=l.length/\(∀(i:Nat) c v,l[i]?=some c->vs[i]?=some v->bF w G c v/\c.cS=true/\c.aB=true):=by
   intro vs;induction vs with
   |nil=>intro l h;simp at h;subst h;exact⟨rfl,λi c v h _=>by simp at h⟩|cons x vs ih=>
    intro l h;rw[List.mapM_cons]at h;simp only[bind,Option.bind_eq_some_iff,pure,bh]at h;obtain⟨a1,h1,l1,h2,rfl⟩:=h;obtain⟨e1,e2⟩:=ih l1 h2;refine⟨by simp[e1],λi c v hc hv=>?_⟩;cases i with
    |zero=>simp at hc hv;subst hc;subst hv;exact DS w G d _ _ h1|succ i=>simp at hc hv;exact e2 i c v hc hv
  obtain⟨e1,e2⟩:=key _ _ hl;have ko:∀c∈l,c.cS=true/\c.aB=true:=by
   intro c hc;obtain⟨i,hi,rfl⟩:=abo.1 hc;have Q5:i<cs.toList.length:=(by omega);exact(e2 i l[i] cs.toList[i] (aag hi) (aag Q5)).2
  refine⟨.agg l cs (by rw[<-e1];simp) λi c v hc hv=>(e2 i c v hc (by simpa using hv)).1,?_,?_⟩;simp only[AV.cS];exact(dm l).2 λc hc=>(ko c hc).1;simp only[AV.aB];exact(iE l).2 λc hc=>(ko c hc).2;cases h;cases h
theorem zm{a:AV}(h:ya v a=true)(w:World)(G:bD):bF w G a v/\a.cS=true/\a.aB=true:=by
 unfold ya at h;split at h;rename_i b hb;have:=HX _ _ h;subst this;exact DS w G 3 v b hb;cases h
theorem Aa(w:World)(G:bD):∀{vs:List Value}{as:List AV},rO vs as=true->as.length=vs.length/\(∀(i:Nat) c v,as[i]?=some c->vs[i]?=some v->bF w G c v)/\(∀c∈as,c.cS=true/\c.aB=true)
 |[],[],_=>⟨rfl,λi c v h _=>by simp at h,λc h=>by simp at h⟩
 |v::vs,a::as,h=>by
  simp only[rO,aac]at h;obtain⟨e1,e2,e3⟩:=Aa w G h.2;obtain⟨f1,f2,f3⟩:=zm h.1 w G;refine⟨by simp[e1],λi c u hc hu=>?_,λc hc=>?_⟩;cases i with
  |zero=>simp at hc hu;subst hc;subst hu;exact f1|succ i=>simp at hc hu;exact e2 i c u hc hu
  rcases List.mem_cons.1 hc with rfl|hc;exact⟨f2,f3⟩;exact e3 c hc
 |[],_::_,h=>by simp[rO]at h|_::_,[],h=>by simp[rO]at h
end Ax
namespace Ax
open Go
variable {P:Program}{w:World}{G:bD}
variable{t:TypeId}{n:Nat}{x y:Value}{r:Bool}{xs:List Value}{as:List AV}
theorem me(h:di P t n=true):∃i,P.info? t=some i/\i.size=n/\P.cellsOf t=n:=by
 unfold di at h;split at h;rename_i i hi;exact⟨i,hi,by simpa using h,by simp[Program.cellsOf,hi];simpa using h⟩;cases h
theorem fF(h:di P t n=true)(w:World):(Go.sizeOf t).run P w=.ok n w:=by
 obtain⟨i,hi,hs,hc⟩:=me h;rw[run_sizeOf w hi,hc]
def cU(w:World)(G:bD)(as:List AV)(xs:List Value):Prop:=as.length=xs.length/\∀(i:Nat) c v,as[i]?=some c->xs[i]?=some v->bF w G c v
theorem VW{k:SK}{a b:AV}(ht:qg P t k=true)(h:FX k a b=some r)(ha:bF w G a x)(hb:bF w G b y)(D:Nat)(w':World) :
  (Op.equalIn (D+1) t x y).run P w'=.ok r w':=by
 unfold FX at h;split at h;cases h;rw[ha.kA,hb.kA];have hu:P.underlying t=some .bool:=by
  unfold qg at ht;simp only at ht;split at ht<;>simp_all
 exact run_equalIn_bool w' D t _ _ hu;split at h;rename_i k1 p k2 q hk;cases h;subst hk;rw[ha.iz,hb.iz];have hu:∃q,P.underlying t=some (.int q):=by
  unfold qg at ht;simp only at ht;split at ht;exact⟨_,by assumption⟩;cases ht
 obtain⟨q,hu⟩:=hu;exact run_equalIn_int w' D t _ q _ _ hu;cases h;cases h;obtain⟨s,rfl,rfl⟩:=ha.nv;obtain⟨s',rfl,rfl⟩:=hb.nv;have hu:P.underlying t=some .string:=by
  unfold qg at ht;simp only at ht;split at ht<;>simp_all
 rw[run_equalIn_string w' D t _ _ hu,ByteArray.toList_eq,ByteArray.toList_eq];cases h
theorem DT:∀(k1 k2:List SK)(a b:List AV)(r:Bool),FY (k1++k2) a b=some r->
  ∃r1 r2,FY k1 (a.take k1.length) (b.take k1.length)=some r1/\FY k2 (a.drop k1.length) (b.drop k1.length)=some r2/\r=(r1&&r2)
 |[],k2,a,b,r,h=>⟨true,r,by simp[FY],by simpa using h,by simp⟩
 |k::k1,k2,[],b,r,h=>by cases b<;>simp[FY]at h|k::k1,k2,a::as,[],r,h=>by simp[FY]at h|k::k1,k2,a::as,b::bs,r,h=>by
  simp only[acA,FY]at h;split at h;rename_i p q hp hq;cases h;obtain⟨r1,r2,e1,e2,rfl⟩:=DT k1 k2 as bs q hq;exact⟨p&&r1,r2,by simp[FY,hp,e1],by simpa using e2,by simp[Bool.and_assoc]⟩;cases h
theorem DU:∀(ks:List SK)(a b:List AV)(r:Bool),FY ks a b=some r->a.length=ks.length/\b.length=ks.length
 |[],[],[],_,_=>⟨rfl,rfl⟩
 |[],[],_::_,_,h=>by simp[FY]at h|[],_::_,_,_,h=>by simp[FY]at h|_::_,[],_,_,h=>by simp[FY]at h|_::_,_::_,[],_,h=>by simp[FY]at h|k::ks,a::as,b::bs,r,h=>by
  simp only[FY]at h;split at h;rename_i p q hp hq;obtain⟨e1,e2⟩:=DU ks as bs q hq;simp[e1,e2];cases h
theorem Ab{fs:Array Field}{off:Nat}(hu:P.underlying t=some (.struct fs))(hn:di P t n=true)(xs:Array Value)(w:World) :
  (part t xs off).run P w=.ok (.agg (xs.extract off (off+n))) w:=by
 simp[part,isAgg,cj hu,fF hn]
theorem Ce{k:SK}{off:Nat}{v:Value}(hk:qg P t k=true){xs:Array Value}(hx:xs[off]?=some v)(w:World) :
  (part t xs off).run P w=.ok v w:=by
 refine run_part_plain w ?_ hx;unfold qg at hk;unfold Program.plainKey;cases k<;>simp only at hk<;>split at hk<;>simp_all
theorem cU.take(h:cU w G as xs)(n:Nat):cU w G (as.take n) (xs.take n):=by
 refine⟨by simp[h.1],λi c v hc hv=>?_⟩;rw[acv]at hc hv;split at hc;rename_i hi;rw[ah hi]at hv;exact h.2 i c v hc hv;cases hc
theorem cU.drop(h:cU w G as xs)(n:Nat):cU w G (as.drop n) (xs.drop n):=by
 refine⟨by simp[h.1],λi c v hc hv=>?_⟩;rw[adw]at hc hv;exact h.2 _ c v hc hv
def aeG(P:Program)(G:bD)(w:World)(D:Nat)(t:TypeId)(ks:List SK):Prop:=
 (∃k,ks=[k]/\qg P t k=true)\/
 (∃fs,P.underlying t=some (.struct fs))/\∀(xs ys:Array Value) (as bs:List AV) (r:Bool),cU w G as xs.toList->cU w G bs ys.toList->FY ks as bs=some r->
  (Op.equalIn D t (.agg xs) (.agg ys)).run P w=.ok r w
theorem Ac(D:Nat)(xs ys:Array Value)(as bs:List AV)(hx:cU w G as xs.toList)(hy:cU w G bs ys.toList)(rec:TypeId->Option (List SK))
  (aeH:∀t ks,rec t=some ks->aeG P G w (D+1) t ks):∀(fs:List Field) (off:Nat) (ks:List SK) (r:Bool),DP P rec off fs=some ks->FY ks (as.drop off) (bs.drop off)=some r->
  (Op.eqFields (D+1) xs ys fs).run P w=.ok r w
 |[],off,ks,r,h,he=>by
  simp only[DP,bh]at h;subst h;cases ha:as.drop off<;>cases hb:bs.drop off<;>rw[ha,hb]at he<;>simp[FY]at he;subst he;simp[Op.eqFields]
 |f::fs,off,ks,r,h,he=>by
  unfold DP at h;split at h;rename_i hc;simp only[aac,aK,bne_iff_ne]at hc;split at h;rename_i kf hkf;split at h;rename_i oX;split at h;rename_i kr HY;cases h;obtain⟨r1,r2,e1,e2,rfl⟩:=DT kf kr _ _ r he;have ih:=Ac D xs ys as bs hx hy rec aeH fs (off+kf.length) kr r2 HY (by simpa [adC] using e2);have hf : f.name ≠ "_" := hc.2
  have step:∃a b,(part f.type xs f.offset).run P w=.ok a w/\(part f.type ys f.offset).run P w=.ok b w/\(Op.equalIn (D+1) f.type a b).run P w=.ok r1 w:=by
   rw[hc.1];obtain⟨l1,l2⟩:=DU _ _ _ _ e1;rcases aeH _ _ hkf with⟨k,rfl,hk⟩|⟨⟨gs,hu⟩,ko⟩;simp only[abr,List.length_nil,Nat.zero_add]at e1 l1 l2;have ha:∃a,as[off]?=some a:=by
    cases h:as[off]? with
    |some a=>exact⟨a,rfl⟩|none=>rw[ahn]at h;simp at l1;omega
   have hb:∃b,bs[off]?=some b:=by
    cases h:bs[off]? with
    |some a=>exact⟨a,rfl⟩|none=>rw[ahn]at h;simp at l2;omega
   obtain⟨a,ha⟩:=ha;obtain⟨b,hb⟩:=hb;have LG:off<xs.size:=(by have:=(aad.1 ha).1;have:=hx.1;simp at this;omega);have Rx:off<ys.size:=(by have:=(aad.1 hb).1;have:=hy.1;simp at this;omega);have hxa:=hx.2 off a xs[off] ha (by simp[LG]);have hyb:=hy.2 off b ys[off] hb (by simp[Rx]);refine⟨xs[off],ys[off],Ce hk (by simp[LG]) w,Ce hk (by simp[Rx]) w,?_⟩;have:FX k a b=some r1:=by
    have t1:(as.drop off).take 1=[a]:=by
     rw[aaz (aad.1 ha).1,(aad.1 ha).2];simp
    have t2:(bs.drop off).take 1=[b]:=by
     rw[aaz (aad.1 hb).1,(aad.1 hb).2];simp
    rw[t1,t2]at e1;simp only[FY]at e1;split at e1;rename_i p q hp hq;cases hq;simpa [hp] using e1;cases e1
   exact VW hk this hxa hyb D w;refine⟨_,_,Ab hu oX xs w,Ab hu oX ys w,ko _ _ _ _ _ ?_ ?_ e1⟩;have:=(hx.drop off).take kf.length;simpa [agn,List.extract] using this;have:=(hy.drop off).take kf.length;simpa [agn,List.extract] using this
  obtain⟨a,b,p1,p2,p3⟩:=step;simp only[Op.eqFields,hf,ne_eq,not_false_eq_true,aQ,cg,p1,p2,p3,cZ];cases r1;simp;simpa using ih;cases h;cases h;cases h;cases h
theorem JJ:∀(d D:Nat)(t:TypeId)(ks:List SK),d<=D->DQ P d t=some ks->aeG P G w (D+1) t ks
 |0,_,_,_,_,h=>by simp[DQ]at h|d+1,D,t,ks,hd,h=>by
  unfold DQ at h;split at h;cases h;exact .inl ⟨.bool,rfl,by unfold qg;simp[*]⟩;cases h;exact .inl ⟨.int,rfl,by unfold qg;simp[*]⟩;cases h;exact .inl ⟨.str,rfl,by unfold qg;simp[*]⟩;rename_i fs hu;split at h;cases h;rename_i hs;refine .inr ⟨⟨fs,hu⟩,λxs ys as bs r hx hy he=>?_⟩;have hfs:P.fieldsOf t=fs:=by simp[Program.fieldsOf,hu]
  rw[run_equalIn_struct w D t xs ys (by rw[hfs];exact hu) (by simpa using hs),hfs];obtain⟨D',rfl⟩:∃D',D=D'+1:=⟨D-1,by omega⟩;exact Ac D' xs ys as bs hx hy (DQ P d) (λt ks h=>JJ d D' t ks (by omega) h) fs.toList 0 ks r h (by simpa using he);cases h
theorem Pp(h:yN P t (.sc .bool)=true):P.underlying t=some .bool:=by
 simp only[yN]at h;split at h
 assumption
 cases h
theorem Ry(h:yN P t .ptr=true):∃e,P.underlying t=some (.pointer e):=by
 simp only[yN]at h;split at h;exact⟨_,by assumption⟩;cases h
theorem NR(h:yN P t .sl=true):∃e,P.underlying t=some (.slice e):=by
 simp only[yN]at h;split at h;exact⟨_,by assumption⟩;cases h
theorem VX(h:yN P t .fn=true):∃a b c,P.underlying t=some (.func a b c):=by
 simp only[yN]at h;split at h;exact⟨_,_,_,by assumption⟩;cases h
def NS(x:Value):Prop:=(∀k n,x≠.int k n)/\(∀k n,x≠.float k n)/\(∀s,x≠.string s)/\(∀k r i,x≠.complex k r i)
theorem dw(t:TypeId)(h1:x≠.nilIface)(h2:∀cs,x≠.agg cs)(op:BinOp)(xo yo:Operand)(w:World):(eqGuard op t xo yo x y).run P w=.ok () w:=by
 cases op<;>cases x<;>simp_all [eqGuard]
theorem VZ{k:EqK}{a b:AV}(ht:yN P t k=true)(h:Gy k a b=some r)(ha:bF w G a x)(hb:bF w G b y) :
  (Op.equal t x y).run P w=.ok r w/\(∀op (xo yo:Operand),(eqGuard op t xo yo x y).run P w=.ok () w)/\NS x:=by
 unfold Op.equal Op.maxDepth;cases k with
 |sc k=>
  cases k with
  |bool=>
   simp only[Gy]at h;have hu:=Pp ht;unfold FX at h;split at h<;>try cases h
   rw[ha.kA,hb.kA];exact⟨run_equalIn_bool w 9999 t _ _ hu,λop xo yo=>dw t (by simp) (by simp) op xo yo w,by simp,by simp,by simp,by simp⟩;all_goals simp_all
  |int=>simp[yN]at ht|str=>simp[yN]at ht
 |flat ks=>
  unfold Gy at h;split at h<;>try (cases h;done)
  all_goals try (rename_i heq;cases heq;done)
  rename_i ks' as bs heq;cases heq;cases ha with
  |agg _ xs hl hx=>
   cases hb with
   |agg _ ys qZ hy=>
    simp only[yN,aac,Bool.not_eq_true']at ht;obtain⟨⟨hu,hf⟩,hg⟩:=ht;have hfk:DQ P 20 t=some ks:=(by simpa using hf);refine⟨?_,λop xo yo=>run_eqGuard_agg w op t xo yo xs ys hg,by simp,by simp,by simp,by simp⟩;rcases JJ (w:=w) (G:=G) 20 9999 t ks (by omega) hfk with⟨k,rfl,hk⟩|⟨_,ko⟩;exfalso;unfold qg at hk;cases k<;>simp only at hk<;>split at hk<;>simp_all;exact ko xs ys as bs r ⟨by simpa using hl,λi c v h1 h2=>hx i c v h1 (by simpa using h2)⟩ ⟨by simpa using qZ,λi c v h1 h2=>hy i c v h1 (by simpa using h2)⟩ h
 |ptr=>
  obtain⟨e,hu⟩:=Ry ht;have key:∀(p q:Option Addr) (r:Bool),(p=none/\r=q.isNone\/q=none/\r=p.isNone)->(Op.equalIn (9999+1) t (.pointer p) (.pointer q)).run P w=.ok r w:=by
   generalize 9999=D;intro p q r h;rcases h with⟨rfl,rfl⟩|⟨rfl,rfl⟩;cases q<;>simp[Op.equalIn,cj hu];cases p<;>simp[Op.equalIn,cj hu]
  have inv:∀{a x},bF w G a x->(a=.dV->x=.pointer none)/\(∀i v k l,a=.ptr i v k l->∃p,x=.pointer (some p))/\(∀i v k l,a=.qP i v k l->∃p,x=.pointer (some p)):=by
   intro a x h;refine⟨λe=>by subst e;cases h;rfl,λi v k l e=>by subst e;cases h with|ptr _ _ _ _ _ loc hp=>exact hp,λi v k l e=>by subst e;cases h;exact⟨_,rfl⟩⟩
  unfold Gy at h;split at h<;>try (cases h;done)
  all_goals try (rename_i heq;cases heq;done)
  cases h;rw[(inv ha).1 rfl,(inv hb).1 rfl];exact⟨key _ _ _ (.inl ⟨rfl,rfl⟩),λop xo yo=>dw t (by simp) (by simp) op xo yo w,by simp,by simp,by simp,by simp⟩;cases h;obtain⟨p,hp⟩:=(inv hb).2.1 _ _ _ _ rfl;rw[(inv ha).1 rfl,hp];exact⟨key _ _ _ (.inl ⟨rfl,rfl⟩),λop xo yo=>dw t (by simp) (by simp) op xo yo w,by simp,by simp,by simp,by simp⟩;cases h;obtain⟨p,hp⟩:=(inv hb).2.2 _ _ _ _ rfl;rw[(inv ha).1 rfl,hp];exact⟨key _ _ _ (.inl ⟨rfl,rfl⟩),λop xo yo=>dw t (by simp) (by simp) op xo yo w,by simp,by simp,by simp,by simp⟩;cases h;obtain⟨p,hp⟩:=(inv ha).2.1 _ _ _ _ rfl;rw[(inv hb).1 rfl,hp];exact⟨key _ _ _ (.inr ⟨rfl,rfl⟩),λop xo yo=>dw t (by simp) (by simp) op xo yo w,by simp,by simp,by simp,by simp⟩;cases h;obtain⟨p,hp⟩:=(inv ha).2.2 _ _ _ _ rfl;rw[(inv hb).1 rfl,hp];exact⟨key _ _ _ (.inr ⟨rfl,rfl⟩),λop xo yo=>dw t (by simp) (by simp) op xo yo w,by simp,by simp,by simp,by simp⟩
 |sl=>
  obtain⟨e,hu⟩:=NR ht;have V0:∀(q:Option Addr) (n c:Nat),(Op.equalIn (9999+1) t (.slice none 0 0) (.slice q n c)).run P w=.ok q.isNone w:=by
   generalize 9999=D;intro q n c;simp[Op.equalIn,cj hu]
  have Rz:∀(q:Option Addr) (n c:Nat),(Op.equalIn (9999+1) t (.slice q n c) (.slice none 0 0)).run P w=.ok q.isNone w:=by
   generalize 9999=D;intro q n c;cases q<;>simp[Op.equalIn,cj hu]
  have inv:∀{a x},bF w G a x->(a=.af->x=.slice none 0 0)/\(∀s r,a=.eE s r->∃p n c,x=.slice (some p) n c)/\(∀s r,a=.k8 s r->∃p n c,x=.slice (some p) n c)/\(a=.mE->∃p n c,x=.slice (some p) n c):=by
   intro a x h;refine⟨λe=>by subst e;cases h;rfl,λs r e=>by subst e;cases h;exact⟨_,_,_,rfl⟩,λs r e=>by subst e;cases h;exact⟨_,_,_,rfl⟩,λe=>by subst e;cases h;exact⟨_,_,_,rfl⟩⟩
  unfold Gy at h;split at h<;>try (cases h;done)
  all_goals try (rename_i heq;cases heq;done)
  cases h;rw[(inv ha).1 rfl,(inv hb).1 rfl];exact⟨V0 _ _ _,λop xo yo=>dw t (by simp) (by simp) op xo yo w,by simp,by simp,by simp,by simp⟩;cases h;obtain⟨p,n,c,hp⟩:=(inv hb).2.1 _ _ rfl;rw[(inv ha).1 rfl,hp];exact⟨V0 _ _ _,λop xo yo=>dw t (by simp) (by simp) op xo yo w,by simp,by simp,by simp,by simp⟩;cases h;obtain⟨p,n,c,hp⟩:=(inv hb).2.2.1 _ _ rfl;rw[(inv ha).1 rfl,hp];exact⟨V0 _ _ _,λop xo yo=>dw t (by simp) (by simp) op xo yo w,by simp,by simp,by simp,by simp⟩;cases h;obtain⟨p,n,c,hp⟩:=(inv hb).2.2.2 rfl;rw[(inv ha).1 rfl,hp];exact⟨V0 _ _ _,λop xo yo=>dw t (by simp) (by simp) op xo yo w,by simp,by simp,by simp,by simp⟩;cases h;obtain⟨p,n,c,hp⟩:=(inv ha).2.1 _ _ rfl;rw[(inv hb).1 rfl,hp];exact⟨Rz _ _ _,λop xo yo=>dw t (by simp) (by simp) op xo yo w,by simp,by simp,by simp,by simp⟩;cases h;obtain⟨p,n,c,hp⟩:=(inv ha).2.2.1 _ _ rfl;rw[(inv hb).1 rfl,hp];exact⟨Rz _ _ _,λop xo yo=>dw t (by simp) (by simp) op xo yo w,by simp,by simp,by simp,by simp⟩;cases h;obtain⟨p,n,c,hp⟩:=(inv ha).2.2.2 rfl;rw[(inv hb).1 rfl,hp];exact⟨Rz _ _ _,λop xo yo=>dw t (by simp) (by simp) op xo yo w,by simp,by simp,by simp,by simp⟩
 |fn=>
  obtain⟨e1,e2,e3,hu⟩:=VX ht;have k1:∀D,(Op.equalIn (D+1) t .nilFunc .nilFunc).run P w=.ok true w:=λD=>by simp[Op.equalIn,cj hu]
  have k2:∀D f p q,(Op.equalIn (D+1) t .nilFunc (.func f p q)).run P w=.ok false w:=λD f p q=>by simp[Op.equalIn,cj hu]
  have k3:∀D f p q,(Op.equalIn (D+1) t (.func f p q) .nilFunc).run P w=.ok false w:=λD f p q=>by simp[Op.equalIn,cj hu]
  have inv:∀{a x},bF w G a x->(a=.jz->x=.nilFunc)/\(∀f b c,a=.fn f b c->∃p q,x=.func (.func f) p q):=by
   intro a x h;refine⟨λe=>by subst e;cases h;rfl,λs r c e=>by subst e;cases h;exact⟨_,_,rfl⟩⟩
  unfold Gy at h;split at h<;>try (cases h;done)
  all_goals try (rename_i heq;cases heq;done)
  cases h;rw[(inv ha).1 rfl,(inv hb).1 rfl];exact⟨k1 9999,λop xo yo=>dw t (by simp) (by simp) op xo yo w,by simp,by simp,by simp,by simp⟩;cases h;obtain⟨p,q,hp⟩:=(inv hb).2 _ _ _ rfl;rw[(inv ha).1 rfl,hp];exact⟨k2 9999 _ _ _,λop xo yo=>dw t (by simp) (by simp) op xo yo w,by simp,by simp,by simp,by simp⟩;cases h;obtain⟨p,q,hp⟩:=(inv ha).2 _ _ _ rfl;rw[(inv hb).1 rfl,hp];exact⟨k3 9999 _ _ _,λop xo yo=>dw t (by simp) (by simp) op xo yo w,by simp,by simp,by simp,by simp⟩
end Ax
namespace Ax
open Go
variable {P:Program}{w:World}{G:bD}{β:List nD}{ρ:Operand->Value}{o:Oper}
structure wZ (w:World)(G:bD)(sz:Nat)(rows:List (List AV))(loc:lY):Prop where
 GF:cn sz rows=true
 Dd:∀r∈rows,AV.bw r=true
 len:loc.len=rows.length
 size:loc.sz=sz
 uf:loc.vals.length=rows.length
 uI:∀(i:Nat) r xs,rows[i]?=some r->loc.vals[i]?=some xs->cU w G r xs
 qD:(loc.cap=0/\rows=[]/\loc.a.isSome=true)\/∃b off c e,loc.a=some ⟨b,off,none⟩/\0<loc.cap/\w.heap[b]?=some (.cells c e (0,0))/\off+loc.cap*sz<=c.size/\rows.length<=loc.cap/\
  G.mR b=some 0/\∀(i:Nat) xs (j:Nat) x,loc.vals[i]?=some xs->xs[j]?=some x->w.cell? ⟨b,off+(i*sz+j),none⟩=some x
variable{rows:List (List AV)}{st:ay}{a:AV}{t yt:TypeId}{x y:Operand}{neg:Bool}
theorem wZ.cell{sz:Nat}{loc:lY}(h:wZ w G sz rows loc){b off:Nat}(hc:∀(i:Nat) xs (j:Nat) x,loc.vals[i]?=some xs->xs[j]?=some x->w.cell? ⟨b,off+(i*sz+j),none⟩=some x) :
  ∀(i:Nat) r (j:Nat) x,rows[i]?=some r->r[j]?=some x->∃v,w.cell? ⟨b,off+(i*sz+j),none⟩=some v/\bF w G x v:=by
 intro i r j x h1 h2;have hi:i<loc.vals.length:=by rw[h.uf];exact(aad.1 h1).1
 have hv:=aag hi;obtain⟨e1,e2⟩:=h.uI i r _ h1 hv;have hj:j<loc.vals[i].length:=by rw[<-e1];exact(aad.1 h2).1
 exact⟨_,hc i _ j _ hv (aag hj),e2 j x _ h2 (aag hj)⟩
def qE(w:World)(G:bD):dA->lY->Prop
 |.rows cQ sz rows,loc=>loc.mp=false/\loc.cQ=cQ/\wZ w G sz rows loc|.map es,loc=>loc.mp=true/\loc.cap=1/\∃b wW clock,loc.a=some ⟨b,0,none⟩/\w.heap[b]?=some (.map wW clock)/\G.mR b=some 0/\wW.size=es.length/\
   ∀(i:Nat) k v e,es[i]?=some (k,v)->wW[i]?=some e->bF w G k e.key/\bF w G v e.val/\v.cS=true/\k.cS=true
structure j8 (w:World)(G:bD)(st:ay):Prop where
 len:G.ls.length=st.length
 aX:∀(id:Nat) ob loc,st[id]?=some ob->G.ls[id]?=some loc->qE w G ob loc
 nE:∀b p,G.mR b=some p->b<w.heap.size
theorem j8.loc(h:j8 w G st){id:Nat}{ob:dA}(hs:st[id]?=some ob):∃loc,G.ls[id]?=some loc/\qE w G ob loc:=by
 have hi:id<st.length:=(aad.1 hs).1;have:id<G.ls.length:=by rw[h.len];exact hi
 exact⟨G.ls[id],aag this,h.aX id ob _ hs (aag this)⟩
theorem RA(hI:j8 w G st){v:Value}(h:bF w G a v)(hr:ff st a=some rows) :
  ∃p n c,v=.slice p n c/\n=rows.length:=by
 unfold ff at hr;split at hr;cases hr;cases h;exact⟨_,_,_,rfl,rfl⟩;cases hr;cases h;exact⟨_,_,_,rfl,rfl⟩;cases hr;cases h;exact⟨_,_,_,rfl,rfl⟩;cases hr;cases h;exact⟨_,_,_,rfl,rfl⟩;rename_i id cQ;split at hr;rename_i v' sz fJ ja;split at hr;rename_i hv;cases hr;obtain⟨loc,hl,ho⟩:=hI.loc ja;cases h with
 |mu _ _ _ loc' hp qZ FZ he=>
  rw[hl]at qZ;cases qZ;obtain⟨h1,h2,h3⟩:=ho;refine⟨_,_,_,he (by omega),h3.len⟩
 cases hr;cases hr;cases hr
theorem aeI{op:BinOp}(ho:o.op=.binOp op t x y yt){b v:AV}(hv:CP op a b=some v)(ha:bF w G a (ρ x))(hb:bF w G b (ρ y)) :
  ∃u,(execOp ρ o).run P w=.ok (.value u) w/\bF w G v u/\v.cS=true:=by
 unfold CP at hv;split at hv
 ·rename_i k p l q;split at hv
  ·rename_i hk;subst hk;have hx:=ha.iz;have hy:=hb.iz;simp only[execOp,ho,hx,hy];have hg:∀op (w:World),(eqGuard op t x y (.int k p) (.int k q)).run P w=.ok () w:=λop w=>dw t (by simp) (by simp) op x y w;cases op<;>simp only[l8]at hv<;>(try (cases hv;done))<;>(try (split at hv;· cases hv))<;>cases hv;all_goals first
    |(refine⟨_,?_,.int _ _,rfl⟩;simp[binOp,Op.intArith,Op.intBits,hg];done)
    |(refine⟨_,?_,.bool _,rfl⟩;simp[binOp,Op.intCmp,hg];done)
    |(rename_i h0;refine⟨_,?_,.int _ _,rfl⟩;simp[binOp,Op.intDiv,hg,U h0];done)
  cases hv
 rename_i p q;obtain⟨s,hx,rfl⟩:=ha.nv;obtain⟨s',hy,rfl⟩:=hb.nv;simp only[execOp,ho,hx,hy];have hg:∀op (w:World),(eqGuard op t x y (.string s) (.string s')).run P w=.ok () w:=λop w=>dw t (by simp) (by simp) op x y w;have h1:s.data.toList.length=s.size:=by simp
 have h2:s'.data.toList.length=s'.size:=by simp
 split at hv;split at hv;rename_i hle;cases hv;refine⟨.string (s++s'),?_,.str _ _ (by simp),rfl⟩;have:¬(((s.size+s'.size:Nat):Int) > IntKind.i64.max):=by
  rw[h1,h2]at hle;have:IntKind.i64.max=9223372036854775807:=rfl;omega
 simp only[binOp,Op.stringOp,cg,hg,cZ,U this,Sem.run_pure];cases hv;cases hv;exact⟨_,by simp[binOp,Op.stringOp,hg,ByteArray.toList_eq],.bool _,rfl⟩;cases hv;exact⟨_,by simp[binOp,Op.stringOp,hg,ByteArray.toList_eq],.bool _,rfl⟩;cases hv;cases hv
theorem binOp_eql{x:Value}(h:NS x)(t:TypeId)(y:Value):binOp .eql t x y=(do pure (.bool (<-Op.equal t x y))):=by
 obtain⟨h1,h2,h3,h4⟩:=h;cases x<;>first|rfl|(cases y<;>first|rfl|simp_all)
theorem binOp_neq{x:Value}(h:NS x)(t:TypeId)(y:Value):binOp .neq t x y=(do pure (.bool (!(<-Op.equal t x y)))):=by
 obtain⟨h1,h2,h3,h4⟩:=h;cases x<;>first|rfl|(cases y<;>first|rfl|simp_all)
theorem aeJ{k:EqK}(ho:o.op=.binOp (if neg then .neq else .eql) t x y yt)(ht:yN P t k=true){b:AV}{r:Bool}(hr:Gy k a b=some r)
  (ha:bF w G a (ρ x))(hb:bF w G b (ρ y)):∃u,(execOp ρ o).run P w=.ok (.value u) w/\bF w G (.bool (if neg then !r else r)) u:=by
 obtain⟨h1,h2,h3⟩:=VZ ht hr ha hb;refine⟨_,?_,.bool _⟩;simp only[execOp,ho];cases neg;simp[h2,binOp_eql h3,h1];simp[h2,binOp_neq h3,h1]
theorem V1(ho:o.op=.binOp (if neg then .neq else .eql) t x y yt)(ht:yN P t .sl=true)(hI:j8 w G st){id cQ v sz:Nat}(ja:st[id]?=some (.rows v sz rows))(hv:v=cQ)
  (ha:bF w G (.mu id cQ) (ρ x))(hb:bF w G .af (ρ y)):(execOp ρ o).run P w=.ok (.value (.bool neg)) w:=by
 obtain⟨loc,hl,JK⟩:=hI.loc ja;obtain⟨e,hu⟩:=NR ht;have hy:ρ y=.slice none 0 0:=by
  generalize ρ y=z at hb;cases hb;rfl
 obtain⟨p,n,c,hx⟩:∃p n c,ρ x=.slice (some p) n c:=by
  generalize ρ x=z at ha;cases ha with
  |mu _ _ _ loc' hp qZ FZ he=>
   rw[hl]at qZ;cases qZ;obtain⟨h1,h2,h3⟩:=JK;have hz:=he (by omega);rcases h3.qD with⟨_,_,h4⟩|⟨b,off,c,e,h4,_⟩;obtain⟨a,ha⟩:=Option.isSome_iff_exists.1 h4;rw[ha]at hz;exact⟨_,_,_,hz⟩;rw[h4]at hz;exact⟨_,_,_,hz⟩
 have h1:(Op.equal t (ρ x) (ρ y)).run P w=.ok false w:=by
  have Rz:∀(q:Option Addr) (n c:Nat),(Op.equalIn (9999+1) t (.slice q n c) (.slice none 0 0)).run P w=.ok q.isNone w:=by
   generalize 9999=D;intro q n c;cases q<;>simp[Op.equalIn,cj hu]
  rw[hx,hy];unfold Op.equal Op.maxDepth;exact Rz (some p) n c
 have h2:∀op (xo yo:Operand),(eqGuard op t xo yo (ρ x) (ρ y)).run P w=.ok () w:=by
  rw[hx,hy];exact λop xo yo=>dw t (by simp) (by simp) op xo yo w
 have h3:NS (ρ x):=by
  rw[hx];exact⟨by simp,by simp,by simp,by simp⟩
 simp only[execOp,ho];cases neg;simp[h2,binOp_eql h3,h1];simp[h2,binOp_neq h3,h1]
theorem ai9{op:UnOp}(ho:o.op=.unOp op t x){v:AV}(hv:unV op a=some v)(ha:bF w G a (ρ x)) :
  ∃u,(execOp ρ o).run P w=.ok (.value u) w/\bF w G v u/\v.cS=true:=by
 unfold unV at hv;split at hv;rename_i k p;split at hv;cases hv;refine⟨_,?_,.int _ _,rfl⟩;simp only[execOp,ho,ha.iz];simp[Op.unary,Op.intArith];cases hv;rename_i b;split at hv;cases hv;refine⟨_,?_,.bool _,rfl⟩;simp only[execOp,ho,ha.kA];simp[Op.unary];cases hv;cases hv
theorem aaj{s d:TypeId}{k k':IntKind}(ho:o.op=.convert s d x)(hs:P.underlying s=some (.int k'))(hd:P.underlying d=some (.int k)){l:IntKind}{n:Int}(ha:bF w G (.int l n) (ρ x)) :
  (execOp ρ o).run P w=.ok (.value (.int k (k.wrap n))) w:=by
 simp only[execOp,ho,ha.iz];simp[convert,cj hs,cj hd,Conv.intToInt]
theorem aeK{c:Call}(ho:o.op=.call c)(hc:c.callee=.builtin .len)(hx:c.args.toList=[x])(ht:c.argTypes[0]?=some t){k:LK}
  (hu:match k with|.sl=>∃e,P.underlying t=some (.slice e)|.str=>P.underlying t=some .string|.mp=>∃k e,P.underlying t=some (.map k e))
   (hI:j8 w G st)  {n:Nat} (hn:oK st k a=some n) (ha:bF w G a (ρ x)) :
  (execOp ρ o).run P w=.ok (.value (.int .i64 n)) w:=by
 have yW:c.args = #[x]:=by
  have:=congrArg List.toArray hx;simpa using this
 simp only[execOp,ho,resolve,hc,cg,Sem.run_pure,cZ,invoke,builtin,yW];simp only[Builtin.len_];unfold oK at hn;split at hn;obtain⟨s',Ze,rfl⟩:=ha.nv;cases hn;simp[ht,cj hu,Ze,goInt];cases hn;obtain⟨km,em,hu⟩:=hu;cases h:ρ x<;>rw[h]at ha<;>cases ha;simp[ht,cj hu,goInt,h];obtain⟨km,em,hu⟩:=hu;split at hn;rename_i es ja;cases hn;obtain⟨loc,hl,JK⟩:=hI.loc ja;generalize JL:ρ x=xv at ha;cases ha with
 |map _ loc' b qZ hm hb=>
  rw[hl]at qZ;cases qZ;obtain⟨h1,h2,b',wW,clock,h3,h4,h5,h6,h7⟩:=JK;rw[hb]at h3;cases h3;simp[ht,cj hu,JL,goInt,getObj,Sem.run,h4,h6]
 cases hn;obtain⟨e,hu⟩:=hu;split at hn;rename_i rows hr;cases hn;obtain⟨p,m,cc,Ze,rfl⟩:=RA hI ha hr;simp[ht,cj hu,Ze,goInt];cases hn;cases hn
end Ax
namespace Ax
open Go
theorem fh{α:Type}:∀(cs:List α)(k:Nat)(vs:List α),(au cs k vs).length=cs.length
 |[],0,[]=>rfl|[],0,_::_=>rfl|[],_+1,_=>rfl|_::_,0,[]=>rfl|_::cs,0,_::vs=>by simp[au,fh cs 0 vs]|_::cs,k+1,vs=>by simp[au,fh cs k vs]
theorem jU{α:Type}:∀(cs:List α)(k:Nat)(vs:List α)(i:Nat),k+vs.length<=cs.length->
  (au cs k vs)[i]?=if k<=i/\i<k+vs.length then vs[i-k]? else cs[i]?
 |[],0,[],i,_=>by simp[au]|[],0,_::_,i,h=>by simp at h|[],k+1,vs,i,h=>by simp at h|c::cs,0,[],i,_=>by simp[au]|c::cs,0,v::vs,0,_=>by simp[au]|c::cs,0,v::vs,i+1,h=>by
  have:=jU cs 0 vs i (by simp at h ⊢;omega);simp only[au,aeu,this,abr,Nat.zero_add,Nat.sub_zero,Nat.zero_le,true_and];by_cases hi:i<vs.length;simp[hi];simp[hi]
 |c::cs,k+1,vs,0,h=>by simp[au]|c::cs,k+1,vs,i+1,h=>by
  have:=jU cs k vs i (by simp at h;omega);simp only[au,aeu,this];by_cases hi:k<=i/\i<k+vs.length;rw[ah hi,ah (by omega),show i+1-(k+1)=i-k by omega];rw[U hi,U (by omega)]
theorem kB{α:Type}(cs:List α)(k:Nat)(vs:List α)(h:k+vs.length<=cs.length):au cs k vs=cs.take k++vs++cs.drop (k+vs.length):=by
 apply aeE;intro i;rw[jU cs k vs i h];by_cases h1:i<k;rw[U (by omega),aal (by simp;omega),aal (by simp;omega),acv,ah h1];by_cases h2:i<k+vs.length;rw[ah (by omega),aal (by simp;omega),aar (by simp;omega)];simp only[aep];rw[ahI (by omega)];rw[U (by omega),aar (by simp;omega)];simp only[List.length_append,aep,adw];rw[ahI (by omega)];congr 1;omega
theorem DW(b:Nat)(xs:List Value):cL b [] xs=0:=by cases xs<;>rfl
theorem gZ(b:Nat):∀(as bs:List AV)(xs ys:List Value),as.length=xs.length->cL b (as++bs) (xs++ys)=cL b as xs+cL b bs ys
 |[],bs,[],ys,_=>by simp[cL]|[],_,_::_,_,h=>by simp at h|_::_,_,[],_,h=>by simp at h|a::as,bs,x::xs,ys,h=>by
  simp only[acA,cL];rw[gZ b as bs xs ys (by simpa using h)];omega
theorem mh(b n:Nat)(as:List AV)(xs:List Value)(h:as.length=xs.length):cL b as xs=cL b (as.take n) (xs.take n)+cL b (as.drop n) (xs.drop n):=by
 rw[<-gZ b _ _ _ _ (by simp[h]),aey,aey]
theorem yc(b n:Nat)(as:List AV)(xs:List Value)(h:as.length=xs.length):cL b (as.drop n) (xs.drop n)<=cL b as xs:=by
 have:=mh b n as xs h;omega
theorem Pq(b n:Nat)(as:List AV)(xs:List Value)(h:as.length=xs.length):cL b (as.take n) (xs.take n)<=cL b as xs:=by
 have:=mh b n as xs h;omega
theorem sj(b:Nat)(as vs:List AV)(xs ys:List Value)(k:Nat)(h1:as.length=xs.length)(h2:vs.length=ys.length)(h:k+vs.length<=as.length) :
  cL b (au as k vs) (au xs k ys)<=cL b as xs+cL b vs ys:=by
 rw[kB _ _ _ h,kB _ _ _ (by omega)];rw[gZ b _ _ _ _ (by simp;omega),gZ b _ _ _ _ (by simp;omega)];have e1:=mh b k as xs h1;have e2:=yc b vs.length (as.drop k) (xs.drop k) (by simp;omega);rw[adC,adC]at e2;rw[h2]at *;omega
section
variable {w:World}{G:bD}
theorem cU.au{as vs:List AV}{xs ys:List Value}(h:cU w G as xs)(k:cU w G vs ys){n:Nat}(hn:n+vs.length<=as.length):cU w G (Ax.au as n vs) (Ax.au xs n ys):=by
 refine⟨by rw[fh,fh];exact h.1,λi c v hc hv=>?_⟩;have h1:=h.1;have h2:=k.1;rw[jU _ _ _ _ hn]at hc;rw[jU _ _ _ _ (by omega)]at hv;rw[<-h2]at hv;split at hc;rename_i hi;rw[ah hi]at hv;exact k.2 _ c v hc hv;rename_i hi;rw[U hi]at hv;exact h.2 _ c v hc hv
theorem bF.cells{a:AV}{v:Value}(h:bF w G a v):cU w G a.cells v.cells.toList/\∀b,cL b a.cells v.cells.toList=gT b a v:=by
 have one:∀{a:AV} {v:Value},bF w G a v->(∀cs,a≠.agg cs)->(∀cs,v≠.agg cs)->cU w G a.cells v.cells.toList/\∀b,cL b a.cells v.cells.toList=gT b a v:=by
  intro a v h h1 h2;have e1:a.cells=[a]:=by cases a<;>first|rfl|exact aU rfl (h1 _)
  have e2:v.cells = #[v]:=by cases v<;>first|rfl|exact aU rfl (h2 _)
  rw[e1,e2];refine⟨⟨rfl,λi c x hc hx=>?_⟩,λb=>by simp[cL]⟩;cases i with
  |zero=>simp at hc hx;subst hc;subst hx;exact h|succ i=>simp at hc
 cases a with
 |agg cs=>
  cases h with
  |agg _ vs hl hh=>exact⟨⟨by simpa [AV.cells,Value.cells] using hl,λi c x hc hx=>hh i c x hc (by simpa [Value.cells] using hx)⟩,λb=>by simp[AV.cells,Value.cells,gT]⟩
 |gone=>
  refine one h (by simp) λcs e=>?_;subst e;cases h with|gone _ h=>simp[Value.oneCell']at h
 |mu id cQ=>
  refine one h (by simp) λcs e=>?_;subst e;cases h with|mu _ _ _ _ hp=>obtain⟨p,n,c,hp⟩:=hp;cases hp
 |ptr id cQ i k=>
  refine one h (by simp) λcs e=>?_;subst e;cases h with|ptr _ _ _ _ _ _ hp=>obtain⟨p,hp⟩:=hp;cases hp
 |undef=>refine one h (by simp) λcs e=>?_;subst e;generalize hx:Value.agg cs=x at h;cases h;cases hx|bool _|int _ _|str _|dV|af|hY|jz|kO|fK _|eE _ _|k8 _ _|raw _ _|mE|qP _ _ _ _|map _|fn _ _ _=>
  refine one h (by simp) λcs e=>?_;subst e;cases h
theorem RB{a:AV}{v:Value}(h:bF w G a v)(hc:a.dj=true):v.oneCell'=true:=by
 cases h with
 |agg _ _ _ _=>simp[AV.dj]at hc|fK _ _ _ _=>simp[AV.dj]at hc|undef=>simp[AV.dj]at hc|gone _ h=>exact h|mu _ _ _ _ hp=>obtain⟨p,n,c,rfl⟩:=hp;rfl|ptr _ _ _ _ _ _ hp=>obtain⟨p,rfl⟩:=hp;rfl|_=>rfl
theorem cU.V2{as:List AV}{xs:List Value}(h:cU w G as xs)(hc:AV.bw as=true):∀v∈xs,v.oneCell'=true:=by
 intro v hv;obtain⟨i,hi,rfl⟩:=abo.1 hv;have rN:i<as.length:=by have:=h.1;omega
 refine RB (h.2 i as[i] xs[i] (aag rN) (aag hi)) ?_;simp only[AV.bw,aaB]at hc;exact hc _ (List.getElem_mem rN)
theorem cU.mono{as:List AV}{xs:List Value}{w':World}{G':bD}(h:cU w G as xs)(hs:tG w G w' G')(ho:∀b,0<cL b as xs->G'.mR b=G.mR b/\w'.heap[b]?=w.heap[b]?):cU w' G' as xs:=
 ⟨h.1,λi c v hc hv=>(h.2 i c v hc hv).jT hs λb hb=>ho b (by have:=wY b as xs i c v hc hv;omega)⟩
end
theorem LZ(off:Nat)(l:List Value)(cs:Array Value)(h:off+l.length<=cs.size) :
  (l.toArray.zipIdx.foldl (λcs (c,j)=>cs.setIfInBounds (off+j) c) cs).toList=au cs.toList off l:=by
 have key:∀(l:List Value) (s:Nat) (cs:Array Value),off+s+l.length<=cs.size->
   ((l.zipIdx s).foldl (λ(cs:Array Value) (x:Value×Nat)=>cs.setIfInBounds (off+x.2) x.1) cs).toList=au cs.toList (off+s) l:=by
  intro l;induction l with
  |nil=>intro s cs h;simp;rw[kB _ _ _ (by simpa using h)];simp|cons v l ih=>
   intro s cs h;simp only[abr]at h;rw[List.zipIdx_cons,List.foldl_cons,ih (s+1) _ (by simp;omega)];simp only[Array.toList_setIfInBounds];apply aeE;intro i;rw[jU _ _ _ _ (by simp;omega),jU _ _ _ _ (by simp;omega)];simp only[abr];by_cases hi:i=off+s;subst hi;rw[U (by omega),ah (by omega),List.getElem?_set_self (by simp;omega)];simp;by_cases h2:off+s<=i/\i<off+s+(l.length+1);rw[ah (by omega),ah h2];have:i-(off+s)=(i-(off+(s+1)))+1:=by omega
   rw[this,aeu];rw[U (by omega),U h2,List.getElem?_set,U (by omega)]
 have:=key l 0 cs (by simpa using h);simp only[Nat.add_zero]at this;rw[<-this,<-Array.foldl_toList];simp
end Ax
