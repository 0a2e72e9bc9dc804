/- Part of a proof. -/
import Derived.Calls
import Derived.Laws.Sem
import Derived.Laws.Entries
import Derived.ChangeKeysEq
import Derived.Laws.StructEq
import Derived.Laws.Pointers
import Derived.Great.FillDense

open List renaming replicate->acp,all_eq_true->ac3,all_cons->ajs,getElem?_eq_some_iff->aac,mem_iff_getElem->aec,getElem?_eq_getElem->aas,cons_append->aer,getElem?_take->aeq,getElem?_drop->agL,drop_drop->agO,length_cons->aeo,getElem?_eq_none_iff->anX,drop_eq_getElem_cons->adB,getElem?_cons_succ->aeV,ext_getElem?->aiJ,getElem?_append_left->acJ,getElem?_append_right->acP,length_take->aiZ,take_append_drop->aiL
open Option renaming map_eq_some_iff->aex
open Nat renaming add_comm->ai9,min_eq_left->aoe
open Bool renaming and_eq_true->Ee,and_self->ah8
open Array renaming toList_extract->alo
universe u v
theorem U{c:Prop}{h:Decidable c}(n:¬c){g:Sort u}{t e:g}:ite c t e=e:=if_neg n
theorem af{c:Prop}{h:Decidable c}(n:c){g:Sort u}{t e:g}:ite c t e=t:=if_pos n
theorem bh{g:Sort u}{_:Decidable True}(t e:g):ite True t e=t:=if_true t e
theorem br{g:Sort u}{_:Decidable False}(t e:g):ite False t e=e:=if_false t e
theorem aA{p:Prop}[Decidable p]:(decide p=true)=p:=decide_eq_true_eq
theorem cz{p:Prop}[Decidable p](h:p):decide p=true:=decide_eq_true h
theorem eX{p:Prop}[Decidable p](h:¬p):decide p=false:=decide_eq_false h
theorem bw{g:Type u}(a b:g):(some a=some b)=(a=b):=Option.some.injEq a b
theorem cL{g:Type u}{β:Type v}(a:g)(b:β)(c:g)(d:β):((a,b)=(c,d))=(a=c∧b=d):=Prod.mk.injEq a b c d
theorem au{a b:Prop}(h:a)(n:¬a):b:=absurd h n
theorem cn:type_of% @Go.run_underlying:=@Go.run_underlying
theorem cj:type_of% @Go.Sem.run_bind:=@Go.Sem.run_bind
theorem dy:type_of% @Go.Result.andThen_ok:=@Go.Result.andThen_ok
theorem cD{g:Type u}[BEq g][LawfulBEq g]{a b:g}:(a==b)=true↔a=b:=beq_iff_eq
namespace Ax
open Go
inductive AV where
 |undef|gone
 |bool (b:Bool)|int (k:IntKind) (n:Int)|str (s:List UInt8)
 |eP|aF|gu|je|lz
 |agg (cs:List AV)|eY (vs:List AV)
 |dV (sz:Nat) (rows:List (List AV))
 |ju (sz:Nat) (rows:List (List AV))
 |raw (sz:Nat) (rows:List (List AV))
 |oI
 |mu (id cW:Nat)
 |ptr (id cW i k:Nat)
 |tM (sz:Nat) (rows:List (List AV)) (i k:Nat)
 |map (id:Nat)
 |fn (f:Nat) (first nO:List AV)
 deriving Inhabited
mutual
def AV.aH:AV->Bool
 |.mu _ _|.ptr _ _ _ _|.map _=>false|.agg C|.eY C=>AV.aB C|.fn _ a b=>AV.aB a&&AV.aB b|_=>true
def AV.aB:List AV->Bool
 |[]=>true|v::r=>v.aH&&AV.aB r
end
mutual
def AV.ai:AV->AV
 |.ju sz rows=>.dV sz rows|.raw _ _=>.gone|.agg C=>.agg (AV.cC C)|.eY C=>.eY (AV.cC C)|v=>v
def AV.cC:List AV->List AV
 |[]=>[]
 |v::r=>v.ai::AV.cC r
end
mutual
def AV.cU:AV->AV->Bool
 |.undef,.undef|.gone,.gone|.eP,.eP|.aF,.aF|.gu,.gu|.je,.je|.lz,.lz|.oI,.oI=>true|.bool a,.bool b=>a==b|.int k a,.int l b=>k==l&&a==b|.str a,.str b=>a==b|.agg a,.agg b|.eY a,.eY b=>AV.uw a b|.dV s a,.dV t b|.ju s a,.ju t b|.raw s a,.raw t b=>s==t&&AV.qK a b|.mu i v,.mu j w=>i==j&&v==w|.ptr a b c d,.ptr h B C D=>a==h&&b==B&&c==C&&d==D|.tM s a i k,.tM t b j l=>s==t&&AV.qK a b&&i==j&&k==l|.map i,.map j=>i==j|.fn f a b,.fn g c d=>f==g&&AV.uw a c&&AV.uw b d|_,_=>false
def AV.uw:List AV->List AV->Bool
 |[],[]=>true|a::x,b::y=>a.cU b&&AV.uw x y|_,_=>false
def AV.qK:List (List AV)->List (List AV)->Bool
 |[],[]=>true|a::x,b::y=>AV.uw a b&&AV.qK x y|_,_=>false
end
def AV.cells:AV->List AV
 |.agg C=>C|v=>[v]
def AV.cM:AV->Bool
 |.agg _|.eY _|.undef=>false|_=>true
def AV.bC(C:List AV):Bool:=C.all AV.cM
def AV.gi:AV->AV
 |.ju _ _=>.gone|.raw _ _=>.gone|v=>v
inductive fz where
 |none
 |val (v:AV)
 |fp (j k:Nat)
 deriving Inhabited
def fz.ai:fz->fz
 |.val v=>.val v.ai|e=>e
def fz.cU:fz->fz->Bool
 |.none,.none=>true|.val a,.val b=>a.cU b|.fp j k,.fp l m=>j==l&&k==m|_,_=>false
def fz.s9(j:Nat):fz->Bool
 |.fp J _=>J != j|_=>true
inductive dJ where
 |rows (cW sz:Nat) (rows:List (List AV))
 |map (es:List (AV×AV))
 deriving Inhabited
abbrev aj:=List dJ
abbrev bK:=List (List AV)
inductive Src where
 |tmp (t:Nat) (mv:Bool)
 |const (a:AV)
 deriving Inhabited
abbrev tN:=List (Nat×fz)
def dZ:tN->Nat->fz
 |[],_=>.none|(k,e)::r,t=>if k=t then e else dZ r t
def AF:tN->Nat->fz->tN
 |[],t,e=>[(t,e)]
 |(k,x)::r,t,e=>if t<k then (t,e)::(k,x)::r else if t=k then (t,e)::r else (k,x)::AF r t e
def Hu:tN->Nat->tN
 |[],_=>[]
 |(k,x)::r,t=>if k=t then Hu r t else (k,x)::Hu r t
def O9(env:tN):Src->fz
 |.tmp t true=>dZ env t|.tmp t false=>(dZ env t).ai|.const a=>.val a
def pG:tN->Src->tN
 |env,.tmp t true=>Hu env t|env,_=>env
structure St where
 env:tN
 bx:bK
 st:aj
 deriving Inhabited
inductive Mode where
 |pure|mH|AA
 deriving DecidableEq,Inhabited
inductive SK where
 |bool|int|str
 deriving DecidableEq,Inhabited
inductive LK where
 |str|sl|mp
 deriving DecidableEq,Inhabited
inductive EqK where
 |sc (k:SK)
 |ptr|sl|fn
 |flat (ks:List SK)
 deriving DecidableEq,Inhabited
inductive fZ where
 |move
 |pick
 |bin (op:BinOp)
 |eqv (k:EqK) (neg:Bool)
 |Zy (neg:Bool)
 |un (op:UnOp)
 |conv (k:IntKind)
 |Zz
 |len (k:LK)
 |Fu (mx:Bool)
 |nilCheck
 |extract (i:Nat)
 |field (off n:Nat) (agg:Bool)
 |build (zero:List AV) (parts:List (Nat×Nat))
 |lit (sz n:Nat) (zero:List AV) (parts:List Nat)
 |Sv (sz n:Nat) (zero:List AV) (parts:List Nat)
 |fieldAddr (off:Nat)
 |indexAddr (sz:Nat)
 |index
 |slice (AG lo hi mx:Bool) (sz:Nat)
 |vF (sz:Nat)
 |load (agg:Bool) (n:Nat) (take:Bool)
 |yc (j:Nat) (agg:Bool) (n:Nat) (take:Bool)
 |store (n:Nat)
 |xM (j n:Nat)
 |alloc (zero:List AV)
 |xN (j:Nat) (zero:List AV)
 |box (n:Nat)
 |K4 (j n:Nat)
 |append (sz bytes:Nat)
 |jH (sz bytes:Nat)
 |yV (sz bytes:Nat) (zero:List AV) (mt:Bool)
 |DZ (sz bytes:Nat) (zero:List AV)
 |wU (sz bytes:Nat) (zero:List AV)
 |aey
 |makeMap
 |mapUpdate (kk:SK)
 |lookup (kk:SK) (zero:AV) (ok:Bool)
 |makeFunc (f atT:Nat)
 |call (f:Nat)
 |wV
 |copy (sz:Nat)
 deriving Inhabited
structure ct where
 dst:Option Nat
 op:fZ
 args:List Src
 guard:Option (Nat×Bool)
 deriving Inhabited
inductive aT where
 |skip
 |region (dK:List ct) (draw:Option (List (Nat×Nat))) (tc:List Nat)
 |seq (a b:aT)
 |cond (c:Src) (az8:List Nat) (thn:aT) (az9:List Nat) (ZA:aT)
 |block (id:Nat) (body:aT)
 |loop (body:aT)
 |exit (id:Nat)
 |ret
 |ZB (t:Nat)
 |IE (j k:Nat)
 |qL (t off:Nat)
 deriving Inhabited
inductive jv where
 |tmp (t:Nat) (mv:Bool)
 |box (t j n:Nat) (agg:Bool)
 |cell (t:Nat) (n:Nat) (agg:Bool)
 deriving Inhabited
structure aL where
 Sc:Nat
 mode:Mode
 sJ:Nat
 AH:Nat
 tc:List Nat
 results:List jv
 body:aT
 deriving Inhabited
inductive Ex where
 |normal
 |exit (id:Nat)
 |ret (v:AV)
 deriving Inhabited
structure mC where
 call:Nat->Nat->Nat->List AV->aj->Option (AV×aj)
 loop:Nat->Nat->List jv->aT->St->Option (Ex×St)
def cZ:Nat:=140737488355328
def K5:SK->AV->AV->Option Bool
 |.bool,.bool a,.bool b=>some (a==b)|.int,.int k a,.int l b=>if k=l then some (a==b) else none
 |.str,.str a,.str b=>some (a==b)|_,_,_=>none
def KX:List SK->List AV->List AV->Option Bool
 |[],[],[]=>some true|k::K,a::as,b::bs=>match K5 k a b,KX K as bs with
  |some p,some q=>some (p&&q)|_,_=>none
 |_,_,_=>none
def MM:EqK->AV->AV->Option Bool
 |.sc k,a,b=>K5 k a b|.flat K,.agg a,.agg b=>KX K a b|.ptr,.eP,.eP=>some true|.ptr,.eP,.ptr _ _ _ _|.ptr,.eP,.tM _ _ _ _|.ptr,.ptr _ _ _ _,.eP|.ptr,.tM _ _ _ _,.eP=>some false|.fn,.je,.je=>some true|.fn,.je,.fn _ _ _|.fn,.fn _ _ _,.je=>some false|.sl,.aF,.aF=>some true|.sl,.aF,.dV _ _|.sl,.aF,.ju _ _|.sl,.aF,.oI|.sl,.dV _ _,.aF|.sl,.ju _ _,.aF|.sl,.oI,.aF=>some false|_,_,_=>none
def nP(op:BinOp)(k:IntKind)(a b:Int):Option AV:=
 match op with
 |.add=>some (.int k (k.wrap (a+b)))|.sub=>some (.int k (k.wrap (a-b)))|.mul=>some (.int k (k.wrap (a*b)))|.quo=>if b=0 then none else some (.int k (k.wrap (a.tdiv b)))
 |.rem=>if b=0 then none else some (.int k (a.tmod b))
 |.and=>some (.int k (k.wrap ((BitVec.ofInt k.bits a &&& BitVec.ofInt k.bits b).toNat)))|.eql=>some (.bool (a==b))|.neq=>some (.bool (a != b))|.lss=>some (.bool (decide (a<b)))|.leq=>some (.bool (decide (a<=b)))|.gtr=>some (.bool (decide (a > b)))|.geq=>some (.bool (decide (a ≥ b)))|_=>none
def Hv(op:BinOp):AV->AV->Option AV
 |.int k a,.int l b=>if k=l then nP op k a b else none
 |.str a,.str b=>
  match op with
  |.add=>if a.length+b.length<=4611686018427387904 then some (.str (a++b)) else none
  |.eql=>some (.bool (a==b))|.neq=>some (.bool (!(a==b)))|_=>none
 |_,_=>none
def unV(op:UnOp):AV->Option AV
 |.int k a=>match op with|.neg=>some (.int k (k.wrap (0-a)))|_=>none
 |.bool b=>match op with|.not=>some (.bool (!b))|_=>none
 |_=>none
def fA(st:aj):AV->Option (List (List AV))
 |.aF|.oI=>some []|.dV _ rows|.ju _ rows=>some rows|.mu id C=>match st[id]? with
  |some (.rows v _ rows)=>if v=C then some rows else none
  |_=>none
 |_=>none
def qu(s:List UInt8):List (List AV):=s.map λb=>[.int .u8 b.toNat]
def dG(st:aj):AV->Option (List (List AV))
 |.str s=>some (qu s)|.mu id C=>match fA st (.mu id C) with|some rows=>some (rows.map AV.cC)|none=>none
 |v=>fA st v
def cr(sz:Nat)(rows:List (List AV)):Bool:=rows.all λr=>r.length==sz
def td(st:aj):LK->AV->Option Nat
 |.str,.str s=>some s.length|.mp,.gu=>some 0|.mp,.map id=>match st[id]? with|some (.map E)=>some E.length|_=>none
 |.sl,v=>match fA st v with|some rows=>some rows.length|none=>none
 |_,_=>none
def cut(C:List AV)(k n:Nat):Option (List AV):=if k+n<=C.length then some ((C.drop k).take n) else none
def gm(st:aj):AV->Nat->Option (List AV)
 |.ptr id C i k,n=>match st[id]? with
  |some (.rows v _ rows)=>if v=C then match rows[i]? with|some r=>cut r k n|none=>none else none
  |_=>none
 |.tM _ rows i k,n=>match rows[i]? with|some r=>cut r k n|none=>none
 |_,_=>none
def ay{g:Type}:List g->Nat->List g->List g
 |C,0,[]=>C|_::C,0,v::vs=>v::ay C 0 vs|c::C,k+1,vs=>c::ay C k vs|[],_,_=>[]
def bu(wl ah id:Nat)(cells:List AV):Bool:=decide (wl<=id)&&(decide (ah<=id)||AV.aB cells)
def fR(wl ah:Nat)(st:aj):AV->List AV->Option aj
 |.ptr id C i k,cells=>match st[id]? with
  |some (.rows v s rows)=>
   if v=C&&bu wl ah id cells then
    match rows[i]? with
    |some r=>if k+cells.length<=r.length then some (st.set id (.rows v s (rows.set i (ay r k cells)))) else none
    |none=>none
   else none
  |_=>none
 |_,_=>none
def bH(agg:Bool)(cells:List AV):Option AV:=
 if agg then some (.agg cells) else match cells with | [v]=>some v|_=>none
def kq:List AV->List (Nat×Nat)->List AV->Option (List AV)
 |C,[],[]=>some C|C,(off,n)::ps,v::vs=>
  if v.cells.length=n&&off+n<=C.length then kq (ay C off v.cells) ps vs else none
 |_,_,_=>none
def iK(sz:Nat):List (List AV)->List Nat->List AV->Option (List (List AV))
 |rows,[],[]=>some rows|rows,i::ps,v::vs=>if v.cells.length=sz&&i<rows.length then iK sz (rows.set i v.cells) ps vs else none
 |_,_,_=>none
def yd(kk:SK)(k:AV):List (AV×AV)->Option (Option AV)
 |[]=>some none|(a,v)::r=>match K5 kk k a with|some true=>some (some v)|some false=>yd kk k r|none=>none
def IF(kk:SK)(k v:AV):List (AV×AV)->Option (List (AV×AV))
 |[]=>some [(k,v)]|(a,u)::r=>match K5 kk k a with
  |some true=>some ((k,v)::r)|some false=>match IF kk k v r with|some R=>some ((a,u)::R)|none=>none
  |none=>none
def LH:SK->AV->Bool
 |.int,.int _ _|.str,.str _|.bool,.bool _=>true|_,_=>false
def kS:List fz->Option (List AV)
 |[]=>some []|.val v::r=>match kS r with|some vs=>some (v::vs)|none=>none
 |_::_=>none
def HX:List (List AV)->Option (List UInt8)
 |[]=>some []|[.int .u8 n]::r=>if 0<=n/\n<256 then match HX r with|some l=>some (UInt8.ofNat n.toNat::l)|none=>none else none
 |_=>none
def wW(bR:Bool)(g:Int)(l:List fz):Option (Int×List fz):=
 if bR then match l with|.val (.int .i64 n)::r=>some (n,r)|_=>none else some (g,l)
def mL(g:Bool)(S:Nat)(x:AV)(l h:Int)(M:Option Int):Option AV:=
 match g,x with
 |true,.str s=>if M.isNone&&decide (0<=l)&&decide (l<=h)&&decide (h<=s.length) then some (.str ((s.take h.toNat).drop l.toNat)) else none
 |false,.aF=>if l=0&&h=0&&(match M with|some m=>m==0|none=>true) then some .aF else none
 |false,.oI=>if l=0&&h=0&&(match M with|some m=>m==0|none=>true) then some .oI else none
 |false,.dV s rows|false,.ju s rows=>
  match M with
  |none=>if s=S&&decide (0<=l)&&decide (l<=h)&&decide (h<=rows.length) then some (.dV S ((rows.take h.toNat).drop l.toNat)) else none
  |some m=>if l=0&&h=0&&m=0 then some .oI else none
 |_,_=>none
def tR(wl ah sz bytes:Nat)(s:AV)(new:List (List AV))(st:aj)(B:bK):Option (fz×aj×bK):=
 if cr sz new then match s with
  |.aF=>if new.isEmpty then some (.val .aF,st,B) else if new.length*bytes<=cZ then some (.val (.mu st.length 0),st++[.rows 0 sz new],B) else none
  |.oI=>if new.length*bytes<=cZ then some (.val (.mu st.length 0),st++[.rows 0 sz new],B) else none
  |.mu id C=>match st[id]? with
   |some (.rows v l jf)=>
    if v=C&&l=sz&&decide ((jf.length+new.length)*bytes<=cZ)&&decide (wl<=id)&&(decide (ah<=id)||new.all AV.aB) then
     some (.val (.mu id (v+1)),st.set id (.rows (v+1) sz (jf++new)),B) else none
   |_=>none
  |_=>none else none
def bz(wl ah:Nat)(op:fZ)(vals:List fz)(st:aj)(bx:bK):Option (fz×aj×bK):=
 match op with
 |.move=>match vals with
  |[e]=>some (e,st,bx)|_=>none
 |.pick=>match vals with
  |[.val (.bool b),x,y]=>some (if b then x else y,st,bx)|_=>none
 |.bin op=>match vals with
  |[.val x,.val y]=>match Hv op x y with|some v=>some (.val v,st,bx)|none=>none
  |_=>none
 |.eqv k neg=>match vals with
  |[.val x,.val y]=>match MM k x y with|some b=>some (.val (.bool (if neg then !b else b)),st,bx)|none=>none
  |_=>none
 |.Zy neg=>match vals with
  |[.val (.mu id g),.val .aF]=>match st[id]? with
   |some (.rows v _ _)=>if v=g then some (.val (.bool neg),st,bx) else none
   |_=>none
  |_=>none
 |.un op=>match vals with
  |[.val x]=>match unV op x with|some v=>some (.val v,st,bx)|none=>none
  |_=>none
 |.conv k=>match vals with
  |[.val (.int _ n)]=>some (.val (.int k (k.wrap n)),st,bx)|_=>none
 |.Zz=>match vals with
  |[.val x]=>match fA st x with
   |some rows=>match HX rows with|some s=>some (.val (.str s),st,bx)|none=>none
   |none=>none
  |_=>none
 |.len k=>match vals with
  |[.val x]=>match td st k x with|some n=>some (.val (.int .i64 n),st,bx)|none=>none
  |_=>none
 |.Fu M=>match vals with
  |[.val (.int k a),.val (.int l b)]=>
   if k=l then some (.val (.int k (if M then (if b > a then b else a) else (if b<a then b else a))),st,bx) else none
  |_=>none
 |.nilCheck=>match vals with
  |[.fp j k]=>some (.fp j k,st,bx)|[.val x]=>match x with
   |.ptr .. | .tM ..=>some (.val x,st,bx)|_=>none
  |_=>none
 |.extract i=>match vals with
  |[.val (.eY vs)]=>match vs[i]? with|some v=>some (.val v,st,bx)|none=>none
  |_=>none
 |.field off n agg=>match vals with
  |[.val (.agg C)]=>match cut C off n with
   |some r=>match bH agg r with|some v=>some (.val v,st,bx)|none=>none
   |none=>none
  |_=>none
 |.build zero parts=>match vals with
  |l=>match kS l with
   |some vs=>match kq zero parts vs with|some C=>some (.val (.agg C),st,bx)|none=>none
   |none=>none
 |.lit sz n zero parts=>match vals with
  |l=>match kS l with
   |some vs=>match iK sz (acp n zero) parts (AV.cC vs) with
    |some rows=>if rows.all AV.aB&&rows.all AV.bC then some (.val (if n=0 then .oI else .dV sz rows),st,bx) else none
    |none=>none
   |none=>none
 |.Sv sz n zero parts=>match vals with
  |l=>match kS l with
   |some vs=>match iK sz (acp n zero) parts vs with
    |some rows=>if rows.all AV.bC&&decide (0<n) then some (.val (.mu st.length 0),st++[.rows 0 sz rows],bx) else none
    |none=>none
   |none=>none
 |.fieldAddr off=>match vals with
  |[.fp j k]=>some (.fp j (k+off),st,bx)|[.val (.ptr id g i k)]=>some (.val (.ptr id g i (k+off)),st,bx)|[.val (.tM sz rows i k)]=>some (.val (.tM sz rows i (k+off)),st,bx)|_=>none
 |.indexAddr sz=>match vals with
  |[.val x,.val (.int .i64 i)]=>match x with
   |.dV s rows|.ju s rows=>if s=sz&&decide (0<=i)&&decide (i<rows.length) then some (.val (.tM sz rows i.toNat 0),st,bx) else none
   |.mu id g=>match st[id]? with
    |some (.rows v s rows)=>if v=g&&s=sz&&decide (0<=i)&&decide (i<rows.length) then some (.val (.ptr id g i.toNat 0),st,bx) else none
    |_=>none
   |_=>none
  |_=>none
 |.index=>match vals with
  |[.val (.str s),.val (.int .i64 i)]=>
   if 0<=i then match s[i.toNat]? with|some b=>some (.val (.int .u8 b.toNat),st,bx)|none=>none else none
  |_=>none
 |.slice AG lo hi M sz=>match vals with
  |.val x::l=>match td st (if AG then .str else .sl) x with
   |none=>none|some n=>match wW lo 0 l with
    |none=>none|some (a,l)=>match wW hi n l with
     |none=>none|some (b,l)=>match M,l with
      |false,[]=>match mL AG sz x a b none with|some v=>some (.val v,st,bx)|none=>none
      |true,[.val (.int .i64 m)]=>match mL AG sz x a b (some m) with|some v=>some (.val v,st,bx)|none=>none
      |_,_=>none
  |_=>none
 |.vF sz=>match vals with
  |[.val (.mu id g),.val (.int .i64 hi)]=>match st[id]? with
   |some (.rows v s rows)=>if v=g&&s=sz&&decide (0<=hi)&&decide (hi<=rows.length)&&decide (wl<=id) then
     some (.val (.mu id (v+1)),st.set id (.rows (v+1) s (rows.take hi.toNat)),bx) else none
   |_=>none
  |_=>none
 |.load agg n t=>match vals with
  |[.val p]=>match gm st p n with
   |some C=>
    if t then
     match fR wl ah st p (C.map AV.gi),bH agg C with
     |some st',some v=>some (.val v,st',bx)|_,_=>none
    else match bH agg (AV.cC C) with|some v=>some (.val v,st,bx)|none=>none
   |none=>none
  |_=>none
 |.yc j agg n t=>match vals with
  |[.fp J k]=>if j=J then match bx[j]? with
    |some h=>match cut h k n with
     |some C=>
      if t then match bH agg C with|some v=>some (.val v,st,bx.set j (ay h k (C.map AV.gi)))|none=>none
      else match bH agg (AV.cC C) with|some v=>some (.val v,st,bx)|none=>none
     |none=>none
    |none=>none
   else none
  |_=>none
 |.store n=>match vals with
  |[.val p,.val v]=>if v.cells.length=n&&AV.bC v.cells then
    match fR wl ah st p v.cells with|some st'=>some (.none,st',bx)|none=>none else none
  |_=>none
 |.xM j n=>match vals with
  |[.fp J k,.val v]=>if j=J&&v.cells.length=n&&AV.bC v.cells then match bx[j]? with
    |some h=>if k+n<=h.length then some (.none,st,bx.set j (ay h k v.cells)) else none
    |none=>none
   else none
  |_=>none
 |.alloc zero=>match vals with
  |[]=>some (.val (.ptr st.length 0 0 0),st++[.rows 0 zero.length [zero]],bx)|_=>none
 |.xN j zero=>match vals with
  |[]=>if j<bx.length then some (.fp j 0,st,bx.set j zero) else none
  |_=>none
 |.box n=>match vals with
  |[.val v]=>if v.cells.length=n&&AV.bC v.cells then some (.val (.ptr st.length 0 0 0),st++[.rows 0 n [v.cells]],bx) else none
  |_=>none
 |.K4 j n=>match vals with
  |[.val v]=>if j<bx.length&&v.cells.length=n&&AV.bC v.cells then some (.fp j 0,st,bx.set j v.cells) else none
  |_=>none
 |.append sz bytes=>match vals with
  |[.val s,.val x]=>match dG [] x with
   |none=>none|some new=>if cr sz new then match s with
    |.aF|.oI=>if new.isEmpty then some (.val s,st,bx) else if new.length*bytes<=cZ then some (.val (.ju sz new),st,bx) else none
    |.ju q jf=>if q=sz&&decide ((jf.length+new.length)*bytes<=cZ) then some (.val (.ju sz (jf++new)),st,bx) else none
    |_=>none else none
  |_=>none
 |.jH sz bytes=>match vals with
  |[.val s,.val x]=>match dG st x with
   |none=>none|some new=>tR wl ah sz bytes s new st bx
  |_=>none
 |.yV sz bytes zero mt=>match vals with
  |[.val (.int .i64 n),.val (.int .i64 c)]=>
   if 0<=n/\n<=c/\c*bytes<=cZ/\zero.length=sz then
    if mt then some (.val (.mu st.length 0),st++[.rows 0 sz (acp n.toNat zero)],bx)
    else if AV.aB zero then some (.val (.ju sz (acp n.toNat zero)),st,bx) else none
   else none
  |_=>none
 |.DZ sz bytes zero=>match vals with
  |[.val (.int .i64 n),.val (.int .i64 c)]=>
   if 0<=n/\n<=c/\c*bytes<=cZ/\zero.length=sz/\AV.aB zero=true then some (.val (.raw sz (acp n.toNat zero)),st,bx) else none
  |_=>none
 |.wU sz bytes zero=>match vals with
  |[.val s,.val (.int .i64 n)]=>
   if 0<=n/\n*bytes<=cZ/\zero.length=sz/\AV.aB zero=true then tR wl ah sz bytes s (acp n.toNat zero) st bx else none
  |_=>none
 |.aey=>match vals with
  |[.val .aF]=>some (.val (.int .i64 0),st,bx)|_=>none
 |.makeMap=>match vals with
  |[]=>some (.val (.map st.length),st++[.map []],bx)|_=>none
 |.mapUpdate kk=>match vals with
  |[.val (.map id),.val k,.val v]=>match st[id]? with
   |some (.map E)=>if LH kk k&&bu wl ah id [v] then match IF kk k v.ai E with|some z=>some (.none,st.set id (.map z),bx)|none=>none else none
   |_=>none
  |_=>none
 |.lookup kk zero ok=>match vals with
  |[.val m,.val k]=>
   match (match m with|.gu=>some []|.map id=>(match st[id]? with|some (.map E)=>some E|_=>none)|_=>none) with
   |none=>none|some E=>if LH kk k then match yd kk k E with
    |none=>none|some r=>let v:=r.getD zero
     some (.val (if ok then .eY [v,.bool r.isSome] else v),st,bx)
    else none
  |_=>none
 |.makeFunc f n=>match vals with
  |l=>match kS l with
   |some vs=>some (.val (.fn f (AV.cC (vs.take n)) (AV.cC (vs.drop n))),st,bx)|none=>none
 |.copy sz=>match vals with
  |[.val (.mu id g),.val x]=>match st[id]?,dG st x with
   |some (.rows v q jf),some new=>
    if v=g&&q=sz&&cr sz new&&decide (new.length<=jf.length)&&decide (wl<=id)&&(decide (ah<=id)||new.all AV.aB) then
     some (.val (.int .i64 new.length),st.set id (.rows v sz (new++jf.drop new.length)),bx) else none
   |_,_=>none
  |_=>none
 |.call _|.wV=>none
def pH:fZ->List fz->Option (Nat×List AV)
 |.call f,l=>match kS l with
  |some vs=>some (f,vs)|none=>none
 |.wV,.val (.fn f first n)::l=>match kS l with
  |some vs=>some (f,first++vs++n)|none=>none
 |_,_=>none
def iF(O:mC)(wl ah:Nat)(x:Option (Nat×List AV))(st:aj)(bx:bK):Option (fz×aj×bK):=
 match x with
 |some (f,vs)=>match O.call wl ah f vs st with|some (v,s)=>some (.val v,s,bx)|none=>none
 |none=>none
def xO(O:mC)(wl ah:Nat)(op:fZ)(vals:List fz)(st:aj)(bx:bK):Option (fz×aj×bK):=
 match op with
 |.call f=>iF O wl ah (pH (.call f) vals) st bx|.wV=>iF O wl ah (pH .wV vals) st bx|op=>bz wl ah op vals st bx
def fZ.bM:fZ->Option Nat
 |.xN j _|.K4 j _=>some j|_=>none
def CB(env:tN)(dst:Option Nat)(e:fz):tN:=
 match dst with
 |some d=>AF env d e|none=>env
def pZ(env:tN):Option (Nat×Bool)->Option Bool
 |none=>some true|some (t,b)=>match dZ env t with
  |.val (.bool c)=>some (c==b)|.val .undef=>some false|_=>none
def AI(j:Nat)(env:tN):Bool:=env.all λx=>x.2.s9 j
def jA(O:mC)(wl ah:Nat)(o:ct)(s:St):Option St:=
 match pZ s.env o.guard with
 |none=>none|some false=>some { s with env:=CB s.env o.dst (.val .undef) }|some true=>
  match xO O wl ah o.op (o.args.map (O9 s.env)) s.st s.bx with
  |none=>none|some (e,S,I)=>
   match o.op.bM with
   |none=>some ⟨CB (o.args.foldl pG s.env) o.dst e,I,S⟩|some j=>if AI j (CB (o.args.foldl pG s.env) o.dst .none) then some ⟨CB (o.args.foldl pG s.env) o.dst e,I,S⟩ else none
def g8(O:mC)(wl ah:Nat):List ct->St->Option St
 |[],s=>some s|o::l,s=>match jA O wl ah o s with|some S=>g8 O wl ah l S|none=>none
def cR(O:mC)(wl ah:Nat):List ct->St->Option (St×List St)
 |[],s=>some (s,[s])|o::l,s=>match jA O wl ah o s with
  |some S=>match cR O wl ah l S with|some (e,g)=>some (e,s::g)|none=>none
  |none=>none
def cw(O:mC)(wl ah:Nat)(o:ct)(s t:St)(st:aj):Bool:=
 match pZ s.env o.guard with
 |none=>false|some false=>true|some true=>
  match xO O wl ah o.op (o.args.map (O9 s.env)) st s.bx with
  |some (e,_,_)=>(match o.dst with|some d=>(dZ t.env d).cU e|none=>false)
  |none=>false
def xSt(wl ah:Nat)(dK:List ct)(lX:List St)(p q:Nat):Option aj:=
 match dK[p]?,lX[p]?,dK[q]?,lX[q]? with
 |some a,some s,some b,some t=>
  match a.op,a.args.map (O9 s.env),b.op,b.args.map (O9 t.env) with
  |.store _,[.val (.ptr i _ _ _),.val _],.store m,[.val (.ptr j v x y),.val u]=>
   if i=j then none else match bz wl ah (.store m) [.val (.ptr j v x y),.val u] s.st [] with
   |some (_,X,_)=>some X|none=>none
  |_,_,_,_=>none
 |_,_,_,_=>none
def eR(O:mC)(wl ah:Nat)(dK:List ct)(lX:List St):Nat×Nat->Bool
 |(q,w)=>if q<100000 then match dK[q]?,lX[q]?,lX[q+1]?,lX[w]?,lX[w+1]? with
   |some o,some s,some t,some a,some b=>cw O wl ah o s t a.st&&cw O wl ah o s t b.st|_,_,_,_,_=>false
  else match xSt wl ah dK lX (q % 100000) w with
   |none=>false|some X=>if q<200000 then true else match dK[q / 100000-2]?,lX[q / 100000-2]?,lX[q / 100000-2+1]? with
    |some o,some s,some t=>cw O wl ah o s t X|_,_,_=>false
def di(env:tN)(o:ct):Bool:=match o.op.bM with|some j=>AI j env|none=>true
def iL(O:mC)(wl ah:Nat)(dK:List ct)(C:List (Nat×Nat))(s:St):Option St:=
 match cR O wl ah dK s with
 |none=>none|some (e,lX)=>
  if C.all (eR O wl ah dK lX)&&dK.all (di s.env) then some e else none
def kB:List Nat->tN->tN
 |[],env=>env|t::l,env=>kB l (Hu env t)
def vG(env:tN)(c:Src):Option Bool:=
 match O9 env c with
 |.val (.bool b)=>some b|_=>none
def mM(wl:Nat)(v:AV)(st:aj):Option (AV×aj):=
 match v with
 |.mu id C=>match st[id]? with
  |some (.rows v s rows)=>if v=C&&rows.all AV.aB && !rows.isEmpty&&decide (wl<=id) then some (.dV s (rows.map AV.cC),st.set id (.rows (v+1) s [])) else none
  |_=>none
 |v=>if v.aH&&v.cM then some (v.ai,st) else none
def lB(wl:Nat):List AV->aj->Option (List AV×aj)
 |[],st=>some ([],st)|v::l,st=>match mM wl v st with
  |some (V,s)=>match lB wl l s with
   |some (g,W)=>some (V::g,W)|none=>none
  |none=>none
def jV(wl:Nat):List (List AV)->aj->Option (List (List AV)×aj)
 |[],st=>some ([],st)|r::l,st=>match lB wl r st with
  |some (R,s)=>match jV wl l s with
   |some (g,W)=>some (R::g,W)|none=>none
  |none=>none
def jw(wl:Nat)(v:AV)(st:aj):Option (AV×aj):=
 match v with
 |.mu id C=>match st[id]? with
  |some (.rows v S rows)=>if v=C && !rows.isEmpty&&decide (wl<=id) then
    match jV wl rows (st.set id (.rows (v+1) S [])) with
    |some (F,s)=>some (.dV S F,s)|none=>none
   else none
  |_=>none
 |.aF=>some (.aF,st)|_=>none
def qM(wl:Nat)(v:AV)(st:aj):Option (AV×aj):=
 match v with
 |.raw s rows=>some (.mu st.length 0,st++[.rows 0 s rows])|v=>jw wl v st
def IG(s:St):jv->Option AV
 |.tmp t m=>match O9 s.env (.tmp t m) with|.val v=>some v|_=>none
 |.box t j n agg=>match dZ s.env t,s.bx[j]? with|.fp i 0,some h=>if i=j&&h.length=n then bH agg h else none|_,_=>none
 |.cell t n agg=>match dZ s.env t with
  |.val p=>match gm s.st p n with|some C=>bH agg (AV.cC C)|none=>none
  |_=>none
def Dp(s:St):List jv->Option (List AV)
 |[]=>some []|r::l=>match IG s r,Dp s l with
  |some v,some vs=>some (v::vs)|_,_=>none
def CC(s:St)(l:List jv):Option AV:=
 match Dp s l with
 |some [v]=>some v|some vs=>some (.eY vs)|none=>none
def jU(O:mC)(wl ah:Nat)(rs:List jv):aT->St->Option (Ex×St)
 |.skip,s=>some (.normal,s)|.region dK D T,s=>
  match (match D with|none=>g8 O wl ah dK s|some l=>iL O wl ah dK l s) with
  |some g=>some (.normal,{ g with env:=kB T g.env })|none=>none
 |.seq a b,s=>match jU O wl ah rs a s with
  |some (.normal,g)=>jU O wl ah rs b g|r=>r
 |.cond c m a n b,s=>match vG s.env c with
  |some true=>jU O wl ah rs a { s with env:=kB m (pG s.env c) }|some false=>jU O wl ah rs b { s with env:=kB n (pG s.env c) }|none=>none
 |.block id c,s=>match jU O wl ah rs c s with
  |some (.exit I,g)=>if I=id then some (.normal,g) else some (.exit I,g)
  |r=>r
 |.loop c,s=>O.loop wl ah rs c s|.exit id,s=>some (.exit id,s)|.ret,s=>match CC s rs with|some v=>some (.ret v,⟨[],[],s.st⟩)|none=>none
 |.ZB t,s=>match dZ s.env t with
  |.val v=>match jw wl v s.st with
   |some (V,S)=>some (.normal,⟨AF s.env t (.val V),s.bx,S⟩)|none=>none
  |_=>none
 |.IE j k,s=>match s.bx[j]? with
  |some h=>match h[k]? with
   |some v=>match jw wl v s.st with
    |some (V,S)=>some (.normal,⟨s.env,s.bx.set j (ay h k [V]),S⟩)|none=>none
   |none=>none
  |none=>none
 |.qL t off,s=>match dZ s.env t with
  |.val (.ptr id C i k)=>match gm s.st (.ptr id C i (k+off)) 1 with
   |some [v]=>match qM wl v s.st with
    |some (V,S)=>match fR wl ah S (.ptr id C i (k+off)) [V] with
     |some pg=>some (.normal,⟨s.env,s.bx,pg⟩)|none=>none
    |none=>none
   |_=>none
  |_=>none
def LI:Nat->List AV->tN
 |_,[]=>[]
 |k,v::r=>(k,.val v)::LI (k+1) r
def Mode.AJ:Mode->Nat->Nat->Nat
 |.pure,n,_=>n|_,_,wl=>wl
def Mode.tf:Mode->Nat->Nat->Nat
 |.AA,_,ah=>ah|_,n,_=>n
def Mode.oJ(m:Mode)(st:aj)(v:AV)(s:aj):Option (AV×aj):=
 match m with
 |.pure=>if v.aH then some (v,st) else none
 |.mH=>if v.aH then some (v,s.take st.length) else none
 |.AA=>some (v,s)
def K6(rs:List jv):Ex->St->Option AV
 |.exit _,_=>none|.ret v,_=>some v|.normal,s=>CC s rs
def uG(sf:aL)(args:List AV)(st:aj):St:=⟨kB sf.tc (LI 0 args),acp sf.AH [],st⟩
def eN(O:mC)(wl ah:Nat)(S:aL)(args:List AV)(st:aj):Option (AV×aj):=
 if args.length=S.sJ then
  match jU O (S.mode.AJ st.length wl) (S.mode.tf st.length ah) S.results S.body (uG S args st) with
  |some (x,s)=>match K6 S.results x s with
   |some v=>S.mode.oJ st v s.st|none=>none
  |none=>none
 else none
def Ac(sf:aL)(args:List AV):Bool:=decide (sf.mode=.pure)&&AV.aB args
def fU(O:mC)(wl ah:Nat)(sf:aL)(args:List AV)(st:aj):Option (AV×aj):=
 if Ac sf args then (eN O 0 0 sf args []).map λr=>(r.1,st) else eN O wl ah sf args st
def tS(S:Nat->Option aL):Nat->mC
 |0=>⟨λ_ _ _ _ _=>none,λ_ _ _ _ _=>none⟩
 |n+1=>
  ⟨λwl ah f args st=>match S f with
   |some h=>fU (tS S n) wl ah h args st|none=>none,
   λwl ah rs c s=>match jU (tS S n) wl ah rs c s with
   |some (.normal,g)=>(tS S n).loop wl ah rs c g|r=>r⟩
def ZC(tbl MN:List (Option aL))(n:Nat):Option aL:=if n<100000 then (tbl[n]?).getD none else (MN[n-100000]?).getD none
end Ax
namespace Ax
open Go
structure mC.le (A B:mC):Prop where
 call:∀wl ah f args st r,A.call wl ah f args st=some r->B.call wl ah f args st=some r
 loop:∀wl ah rs c s r,A.loop wl ah rs c s=some r->B.loop wl ah rs c s=some r
theorem mC.le_refl(A:mC):A.le A:=⟨λ_ _ _ _ _ _ h=>h,λ_ _ _ _ _ _ h=>h⟩
variable{A B:mC}{st:aj}{r:fz×aj×bK}{dK:List ct}{args:List AV}
theorem mC.le_trans{C:mC}(h:A.le B)(k:B.le C):A.le C:=
 ⟨λ_ _ _ _ _ _ x=>k.call _ _ _ _ _ _ (h.call _ _ _ _ _ _ x),λ_ _ _ _ _ _ x=>k.loop _ _ _ _ _ _ (h.loop _ _ _ _ _ _ x)⟩
structure Sup (o:Nat->mC)(L:mC):Prop where
 mono:∀n,(o n).le (o (n+1))
 call:∀wl ah f args st r,L.call wl ah f args st=some r->∃n,(o n).call wl ah f args st=some r
 loop:∀wl ah rs c s r,L.loop wl ah rs c s=some r->∃n,(o n).loop wl ah rs c s=some r
theorem Sup.le{o:Nat->mC}{L:mC}(h:Sup o L)(n k:Nat):(o n).le (o (n+k)):=by
 induction k with
 |zero=>exact mC.le_refl _|succ k I=>exact mC.le_trans I (h.mono (n+k))
theorem Pm(A B:mC)(wl ah:Nat)(op:fZ)(vals:List fz)(st:aj)(g:bK)(h:∀f,op≠.call f)(H:op≠.wV) :
  xO A wl ah op vals st g=xO B wl ah op vals st g:=by
 cases op<;>first|rfl|exact au rfl (h _)|exact au rfl H
theorem D0(v:A.le B){wl ah:Nat}{x:Option (Nat×List AV)}{g:bK}
  (h:iF A wl ah x st g=some r):iF B wl ah x st g=some r:=by
 unfold iF at h ⊢;split at h;rename_i f vs;cases H:A.call wl ah f vs st with
 |none=>simp[H]at h|some x=>rw[H]at h;rw[v.call _ _ _ _ _ _ H];exact h
 cases h
theorem Pn(v:A.le B){wl ah:Nat}{op:fZ}{vals:List fz}{g:bK}
  (h:xO A wl ah op vals st g=some r):xO B wl ah op vals st g=some r:=by
 by_cases H:∃f,op=.call f;obtain⟨f,rfl⟩:=H;exact D0 v h;by_cases j:op=.wV;subst j;exact D0 v h;rw[<-Pm A B wl ah op vals st g (λf e=>H ⟨f,e⟩) j];exact h
theorem wX(v:A.le B){wl ah:Nat}{o:ct}{s r:St}(h:jA A wl ah o s=some r):jA B wl ah o s=some r:=by
 unfold jA at h ⊢;split at h;cases h;exact h;split at h;cases h;rename_i e S I H;rw[Pn v H];exact h
theorem yW{A B:mC}(v:A.le B){wl ah:Nat}:∀{l:List ct}{s r:St},g8 A wl ah l s=some r->g8 B wl ah l s=some r
 |[],_,_,h=>h|o::l,s,r,h=>by
  unfold g8 at h ⊢;split at h;rename_i S hs;rw[wX v hs];exact yW v h;cases h
theorem uH{A B:mC}(v:A.le B){wl ah:Nat}:∀{l:List ct}{s:St} {r},cR A wl ah l s=some r->cR B wl ah l s=some r
 |[],_,_,h=>h|o::l,s,r,h=>by
  unfold cR at h ⊢;split at h;rename_i S hs;rw[wX v hs];split at h;rename_i e g H;simp only[uH v H];exact h;cases h;cases h
theorem nQ(v:A.le B){wl ah:Nat}{o:ct}{s t:St}(h:cw A wl ah o s t st=true):cw B wl ah o s t st=true:=by
 unfold cw at h ⊢;split at h;cases h
 rfl
 split at h;rename_i e _ _ H;rw[Pn v H];exact h;cases h
theorem wY(v:A.le B){wl ah:Nat}{lX:List St}{x:Nat×Nat}(h:eR A wl ah dK lX x=true):eR B wl ah dK lX x=true:=by
 obtain⟨q,w⟩:=x;unfold eR at h ⊢;by_cases H:q<100000;simp only[H,bh]at h ⊢;split at h;simp only[Ee]at h ⊢;exact⟨nQ v h.1,nQ v h.2⟩;cases h;simp only[H,br]at h ⊢;split at h;cases h;by_cases g:q<200000;simp only[g,bh];simp only[g,br]at h ⊢;split at h;exact nQ v h;cases h
theorem K7(v:A.le B){wl ah:Nat}{C:List (Nat×Nat)}{s r:St}(h:iL A wl ah dK C s=some r):iL B wl ah dK C s=some r:=by
 unfold iL at h ⊢;split at h;cases h;rename_i e lX k;split at h;rename_i H;cases h;rw[uH v k];simp only[Ee,ac3]at H;have g:C.all (eR B wl ah dK lX)=true:=by
  rw[ac3];exact λx l=>wY v (H.1 x l)
 have j:dK.all (di s.env)=true:=by
  rw[ac3];exact H.2
 simp only[g,j,ah8,bh];cases h
theorem nR{A B:mC}(V:A.le B){wl ah:Nat}{rs:List jv}:∀{c:aT}{s:St} {r},jU A wl ah rs c s=some r->jU B wl ah rs c s=some r
 |.skip,_,_,h=>h|.region dK D T,s,r,h=>by
  unfold jU at h ⊢;cases D with
  |none=>
   simp only at h ⊢;split at h;rename_i S hs;rw[yW V hs];exact h;cases h
  |some C=>
   simp only at h ⊢;split at h;rename_i S hs;rw[K7 V hs];exact h;cases h
 |.seq a b,s,r,h=>by
  unfold jU at h ⊢;cases H:jU A wl ah rs a s with
  |none=>rw[H]at h;cases h|some x=>
   rw[H]at h;rw[nR V H];obtain⟨e,S⟩:=x;cases e with
   |normal=>exact nR V h|exit id=>exact h|ret v=>exact h
 |.cond c m a n b,s,r,h=>by
  unfold jU at h ⊢;split at h;exact nR V h;exact nR V h;cases h
 |.block id c,s,r,h=>by
  unfold jU at h ⊢;cases H:jU A wl ah rs c s with
  |none=>rw[H]at h;cases h|some x=>rw[H]at h;rw[nR V H];exact h
 |.loop c,s,r,h=>V.loop _ _ _ _ _ _ h|.exit id,s,r,h=>h|.ret,s,r,h=>h|.ZB t,s,r,h=>h|.IE j k,s,r,h=>h|.qL t off,s,r,h=>h
theorem AK(v:A.le B){wl ah:Nat}{S:aL} {r}(h:eN A wl ah S args st=some r):eN B wl ah S args st=some r:=by
 unfold eN at h ⊢;split at h;rename_i H;rw[af H];cases hs:jU A (S.mode.AJ st.length wl) (S.mode.tf st.length ah) S.results S.body (uG S args st) with
 |none=>rw[hs]at h;cases h|some x=>rw[hs]at h;rw[nR v hs];exact h
 cases h
theorem CX(v:A.le B){wl ah:Nat}{S:aL} {r}(h:fU A wl ah S args st=some r):fU B wl ah S args st=some r:=by
 unfold fU at h ⊢;split at h;rename_i s;rw[af s];cases H:eN A 0 0 S args [] with
 |none=>rw[H]at h;cases h|some x=>rw[H]at h;rw[AK v H];exact h
 rename_i s;rw[U s];exact AK v h
theorem II(S:Nat->Option aL):∀n,(tS S n).le (tS S (n+1))
 |0=>⟨λ_ _ _ _ _ _ h=>(nomatch h),λ_ _ _ _ _ _ h=>(nomatch h)⟩
 |n+1=>by
  have I:=II S n;constructor;intro wl ah f args st r h;show (match S f with|some j=>fU (tS S (n+1)) wl ah j args st|none=>none)=some r;change (match S f with|some j=>fU (tS S n) wl ah j args st|none=>none)=some r at h;cases H:S f with
  |none=>rw[H]at h;cases h|some j=>rw[H]at h;exact CX I h
  intro wl ah rs c s r h;show (match jU (tS S (n+1)) wl ah rs c s with|some (.normal,g)=>(tS S (n+1)).loop wl ah rs c g|r=>r)=some r;change (match jU (tS S n) wl ah rs c s with|some (.normal,g)=>(tS S n).loop wl ah rs c g|r=>r)=some r at h;cases hs:jU (tS S n) wl ah rs c s with
  |none=>rw[hs]at h;cases h|some x=>
   rw[hs]at h;rw[nR I hs];obtain⟨e,g⟩:=x;cases e with
   |normal=>exact I.loop _ _ _ _ _ _ h|exit id=>exact h|ret v=>exact h
open Classical in
noncomputable def aZ (S:Nat->Option aL):mC:=
 ⟨λwl ah f args st=>if h:∃n r,(tS S n).call wl ah f args st=some r then some h.choose_spec.choose else none,
  λwl ah rs c s=>if h:∃n r,(tS S n).loop wl ah rs c s=some r then some h.choose_spec.choose else none⟩
theorem Fv(S:Nat->Option aL)(n k:Nat):(tS S n).le (tS S (n+k)):=by
 induction k with
 |zero=>exact mC.le_refl _|succ k I=>exact mC.le_trans I (II S (n+k))
theorem ye(S:Nat->Option aL):Sup (tS S) (aZ S) where
 mono:=II S
 call:=λwl ah f args st r h=>by
  unfold aZ at h;simp only at h;split at h;rename_i l;cases h;exact⟨_,l.choose_spec.choose_spec⟩;cases h
 loop:=λwl ah rs c s r h=>by
  unfold aZ at h;simp only at h;split at h;rename_i l;cases h;exact⟨_,l.choose_spec.choose_spec⟩;cases h
theorem uI(S:Nat->Option aL)(n:Nat):(tS S n).le (aZ S) where
 call:=λwl ah f args st r h=>by
  have l:∃n r,(tS S n).call wl ah f args st=some r:=⟨n,r,h⟩;have:(aZ S).call wl ah f args st=some l.choose_spec.choose:=by unfold aZ;simp only;rw[dif_pos l]
  have H:=l.choose_spec.choose_spec;have a:=(Fv S n l.choose).call _ _ _ _ _ _ h;have b:=(Fv S l.choose n).call _ _ _ _ _ _ H;rw[ai9]at b;exact this.trans (b.symm.trans a)
 loop:=λwl ah rs c s r h=>by
  have l:∃n r,(tS S n).loop wl ah rs c s=some r:=⟨n,r,h⟩;have:(aZ S).loop wl ah rs c s=some l.choose_spec.choose:=by unfold aZ;simp only;rw[dif_pos l]
  have H:=l.choose_spec.choose_spec;have a:=(Fv S n l.choose).loop _ _ _ _ _ _ h;have b:=(Fv S l.choose n).loop _ _ _ _ _ _ H;rw[ai9]at b;exact this.trans (b.symm.trans a)
section
variable {o:Nat->mC}{L:mC}(hs:Sup o L){wl ah:Nat}
include hs
theorem Gu{x:Option (Nat×List AV)}{st:aj}{B:bK}{r:fz×aj×bK}
  (h:iF L wl ah x st B=some r):∃n,iF (o n) wl ah x st B=some r:=by
 unfold iF at h;split at h;rename_i f vs;cases H:L.call wl ah f vs st with
 |none=>simp[H]at h|some x=>
  obtain⟨n,g⟩:=hs.call _ _ _ _ _ _ H;refine⟨n,?_⟩;rw[H]at h;unfold iF;simp only;rw[g];exact h
 cases h
theorem UI{op:fZ}{vals:List fz}{st:aj}{B:bK}{r:fz×aj×bK}
  (h:xO L wl ah op vals st B=some r):∃n,xO (o n) wl ah op vals st B=some r:=by
 by_cases H:∃f,op=.call f;obtain⟨f,rfl⟩:=H;exact Gu hs h;by_cases g:op=.wV;subst g;exact Gu hs h;exact⟨0,by rw[<-Pm L (o 0) wl ah op vals st B (λf e=>H ⟨f,e⟩) g];exact h⟩
theorem IJ{p:ct}{s r:St}(h:jA L wl ah p s=some r):∃n,jA (o n) wl ah p s=some r:=by
 unfold jA at h;split at h;cases h;rename_i H;exact⟨0,by unfold jA;rw[H];exact h⟩;rename_i H;split at h;cases h;rename_i e S I g;obtain⟨n,j⟩:=UI hs g;exact⟨n,by unfold jA;rw[H];simp only;rw[j];exact h⟩
theorem Gw:∀{l:List ct}{s r:St},g8 L wl ah l s=some r->∃n,g8 (o n) wl ah l s=some r
 |[],_,_,h=>⟨0,h⟩
 |p::l,s,r,h=>by
  unfold g8 at h;split at h;rename_i S j;obtain⟨n,g⟩:=IJ hs j;obtain⟨m,H⟩:=Gw h;refine⟨n+m,?_⟩;unfold g8;rw[wX (hs.le n m) g];simp only;exact yW (by rw[ai9];exact hs.le m n) H;cases h
theorem Gx:∀{l:List ct}{s:St} {r},cR L wl ah l s=some r->∃n,cR (o n) wl ah l s=some r
 |[],_,_,h=>⟨0,h⟩
 |p::l,s,r,h=>by
  unfold cR at h;split at h;rename_i S j;split at h;rename_i e q k;obtain⟨n,g⟩:=IJ hs j;obtain⟨m,H⟩:=Gx k;refine⟨n+m,?_⟩;unfold cR;rw[wX (hs.le n m) g];simp only;rw[uH (by rw[ai9];exact hs.le m n) H];exact h;cases h;cases h
theorem xP{p:ct}{s t:St}{st:aj}(h:cw L wl ah p s t st=true):∃n,cw (o n) wl ah p s t st=true:=by
 unfold cw at h;split at h;cases h;rename_i H;exact⟨0,by unfold cw;rw[H]⟩;rename_i H;split at h;rename_i e a b g;obtain⟨n,j⟩:=UI hs g;exact⟨n,by unfold cw;rw[H];simp only;rw[j];exact h⟩;cases h
theorem Sx{dK:List ct}{lX:List St}{x:Nat×Nat}(h:eR L wl ah dK lX x=true):∃n,eR (o n) wl ah dK lX x=true:=by
 obtain⟨q,w⟩:=x;unfold eR at h ⊢;by_cases H:q<100000;simp only[H,bh]at h ⊢;split at h;simp only[Ee]at h ⊢;obtain⟨n,k⟩:=xP hs h.1;obtain⟨m,j⟩:=xP hs h.2;exact⟨n+m,nQ (hs.le n m) k,nQ (by rw[ai9];exact hs.le m n) j⟩;cases h;simp only[H,br]at h ⊢;split at h;cases h;by_cases g:q<200000;simp only[g,bh,exists_const];simp only[g,br]at h ⊢;split at h;exact xP hs h;cases h
theorem LJ{dK:List ct}{lX:List St}:∀{l:List (Nat×Nat)},l.all (eR L wl ah dK lX)=true->∃n,l.all (eR (o n) wl ah dK lX)=true
 |[],_=>⟨0,rfl⟩
 |x::l,h=>by
  simp only[ajs,Ee]at h;obtain⟨n,g⟩:=Sx hs h.1;obtain⟨m,H⟩:=LJ h.2;refine⟨n+m,?_⟩;simp only[ajs,Ee];refine⟨wY (hs.le n m) g,?_⟩;rw[ac3]at H ⊢;exact λx j=>wY (by rw[ai9];exact hs.le m n) (H x j)
theorem MO{dK:List ct}{C:List (Nat×Nat)}{s r:St}(h:iL L wl ah dK C s=some r):∃n,iL (o n) wl ah dK C s=some r:=by
 unfold iL at h;split at h;cases h;rename_i e lX k;split at h;rename_i H;cases h;simp only[Ee]at H;obtain⟨n,j⟩:=Gx hs k;obtain⟨m,g⟩:=LJ hs H.1;refine⟨n+m,?_⟩;unfold iL;rw[uH (hs.le n m) j];have:C.all (eR (o (n+m)) wl ah dK lX)=true:=by
  rw[ac3]at g ⊢;exact λx l=>wY (by rw[ai9];exact hs.le m n) (g x l)
 simp only[this,H.2,ah8,bh];cases h
theorem yX{rs:List jv}:∀{c:aT}{s:St} {r},jU L wl ah rs c s=some r->∃n,jU (o n) wl ah rs c s=some r
 |.skip,_,_,h=>⟨0,h⟩
 |.region dK D T,s,r,h=>by
  unfold jU at h;cases D with
  |none=>
   simp only at h;split at h;rename_i S p;obtain⟨n,g⟩:=Gw hs p;exact⟨n,by unfold jU;simp only;rw[g];exact h⟩;cases h
  |some C=>
   simp only at h;split at h;rename_i S p;obtain⟨n,g⟩:=MO hs p;exact⟨n,by unfold jU;simp only;rw[g];exact h⟩;cases h
 |.seq a b,s,r,h=>by
  unfold jU at h;cases H:jU L wl ah rs a s with
  |none=>rw[H]at h;cases h|some x=>
   rw[H]at h;obtain⟨n,g⟩:=yX H;obtain⟨e,S⟩:=x;cases e with
   |normal=>
    obtain⟨m,q⟩:=yX h;refine⟨n+m,?_⟩;unfold jU;rw[nR (hs.le n m) g];exact nR (by rw[ai9];exact hs.le m n) q
   |exit id=>exact⟨n,by unfold jU;rw[g];exact h⟩|ret v=>exact⟨n,by unfold jU;rw[g];exact h⟩
 |.cond c y a z b,s,r,h=>by
  unfold jU at h;split at h;rename_i l;obtain⟨n,g⟩:=yX h;exact⟨n,by unfold jU;rw[l];exact g⟩;rename_i l;obtain⟨n,g⟩:=yX h;exact⟨n,by unfold jU;rw[l];exact g⟩;cases h
 |.block id c,s,r,h=>by
  unfold jU at h;cases H:jU L wl ah rs c s with
  |none=>rw[H]at h;cases h|some x=>
   rw[H]at h;obtain⟨n,g⟩:=yX H;exact⟨n,by unfold jU;rw[g];exact h⟩
 |.loop c,s,r,h=>hs.loop _ _ _ _ _ _ h|.exit id,s,r,h=>⟨0,h⟩
 |.ret,s,r,h=>⟨0,h⟩
 |.ZB t,s,r,h=>⟨0,h⟩
 |.IE j k,s,r,h=>⟨0,h⟩
 |.qL t off,s,r,h=>⟨0,h⟩
theorem CY{S:aL}{args:List AV}{st:aj} {r}(h:eN L wl ah S args st=some r):∃n,eN (o n) wl ah S args st=some r:=by
 unfold eN at h;split at h;rename_i H;cases l:jU L (S.mode.AJ st.length wl) (S.mode.tf st.length ah) S.results S.body (uG S args st) with
 |none=>rw[l]at h;cases h|some x=>
  rw[l]at h;obtain⟨n,g⟩:=yX hs l;exact⟨n,by unfold eN;rw[af H,g];exact h⟩
 cases h
theorem MQ{S:aL}{args:List AV}{st:aj} {r}(h:fU L wl ah S args st=some r):∃n,fU (o n) wl ah S args st=some r:=by
 unfold fU at h;split at h;rename_i s;cases H:eN L 0 0 S args [] with
 |none=>rw[H]at h;cases h|some x=>
  rw[H]at h;obtain⟨n,g⟩:=CY hs H;exact⟨n,by unfold fU;rw[af s,g];exact h⟩
 rename_i s;obtain⟨n,g⟩:=CY hs h;exact⟨n,by unfold fU;rw[U s];exact g⟩
end
theorem UJ{g:Type}{a b:Option g}(h:∀r,a=some r↔b=some r):a=b:=by
 cases a with
 |none=>cases b with
  |none=>rfl|some y=>exact au ((h y).2 rfl) (by simp)
 |some x=>exact((h x).1 rfl).symm
theorem Fw(S:Nat->Option aL)(wl ah f:Nat)(args:List AV)(st:aj) :
  (aZ S).call wl ah f args st=match S f with
   |some sf=>fU (aZ S) wl ah sf args st|none=>none:=by
 refine UJ λr=>⟨λh=>?_,λh=>?_⟩;obtain⟨n,g⟩:=(ye S).call _ _ _ _ _ _ h;cases n with
 |zero=>cases g|succ n=>
  change (match S f with|some sf=>fU (tS S n) wl ah sf args st|none=>none)=some r at g;cases H:S f with
  |none=>rw[H]at g;cases g|some sf=>rw[H]at g;exact CX (uI S n) g
 cases H:S f with
 |none=>rw[H]at h;cases h|some sf=>
  rw[H]at h;obtain⟨n,g⟩:=MQ (ye S) h;refine(uI S (n+1)).call _ _ _ _ _ _ ?_;show (match S f with|some sf=>fU (tS S n) wl ah sf args st|none=>none)=some r;rw[H];exact g
theorem WZ(S:Nat->Option aL)(wl ah:Nat)(rs:List jv)(c:aT)(s:St) :
  (aZ S).loop wl ah rs c s=match jU (aZ S) wl ah rs c s with
   |some (.normal,j)=>(aZ S).loop wl ah rs c j|r=>r:=by
 refine UJ λr=>⟨λh=>?_,λh=>?_⟩;obtain⟨n,g⟩:=(ye S).loop _ _ _ _ _ _ h;cases n with
 |zero=>cases g|succ n=>
  change (match jU (tS S n) wl ah rs c s with|some (.normal,j)=>(tS S n).loop wl ah rs c j|r=>r)=some r at g;cases l:jU (tS S n) wl ah rs c s with
  |none=>rw[l]at g;cases g|some x=>
   rw[l]at g;rw[nR (uI S n) l];obtain⟨e,j⟩:=x;cases e with
   |normal=>exact(uI S n).loop _ _ _ _ _ _ g|exit id=>exact g|ret v=>exact g
 cases l:jU (aZ S) wl ah rs c s with
 |none=>rw[l]at h;cases h|some x=>
  rw[l]at h;obtain⟨n,g⟩:=yX (ye S) l;obtain⟨e,j⟩:=x;have key:∀m,(tS S m).le (aZ S):=uI S;cases e with
  |normal=>
   obtain⟨m,H⟩:=(ye S).loop _ _ _ _ _ _ h;refine(uI S (n+m+1)).loop _ _ _ _ _ _ ?_;show (match jU (tS S (n+m)) wl ah rs c s with|some (.normal,j)=>(tS S (n+m)).loop wl ah rs c j|r=>r)=some r;rw[nR (Fv S n m) g];exact(by rw[ai9];exact Fv S m n:(tS S m).le (tS S (n+m))).loop _ _ _ _ _ _ H
  |exit id=>
   refine(uI S (n+1)).loop _ _ _ _ _ _ ?_;show (match jU (tS S n) wl ah rs c s with|some (.normal,j)=>(tS S n).loop wl ah rs c j|r=>r)=some r;rw[g];exact h
  |ret v=>
   refine(uI S (n+1)).loop _ _ _ _ _ _ ?_;show (match jU (tS S n) wl ah rs c s with|some (.normal,j)=>(tS S n).loop wl ah rs c j|r=>r)=some r;rw[g];exact h
end Ax
namespace Ax
theorem IK{O:mC}{wl ah:Nat}{rs:List jv}{t off:Nat}{s S:St}{x:Ex}(h:jU O wl ah rs (.qL t off) s=some (x,S)) :
  x=.normal/\∃id C i k v V qg pg,dZ s.env t=.val (.ptr id C i k)/\gm s.st (.ptr id C i (k+off)) 1=some [v]/\qM wl v s.st=some (V,qg)/\fR wl ah qg (.ptr id C i (k+off)) [V]=some pg/\S=⟨s.env,s.bx,pg⟩:=by
 unfold jU at h;split at h;rename_i id C i k H;split at h;rename_i v g;split at h;rename_i V qg j;split at h;rename_i pg l;cases h;exact⟨rfl,id,C,i,k,v,V,qg,pg,H,g,j,l,rfl⟩;cases h;cases h;cases h;cases h
end Ax
namespace Ax
open Go
mutual
def AV.de:AV->Bool
 |.ju _ _|.raw _ _=>false|.agg C|.eY C=>AV.fJ C|_=>true
def AV.fJ:List AV->Bool
 |[]=>true|v::r=>v.de&&AV.fJ r
end
structure nM where
 a:Option Addr
 cap:Nat
 len:Nat
 sz:Nat
 cW:Nat
 mp:Bool
 vals:List (List Value)
def nM.hd(l:nM):Option Addr×Nat×Nat×Nat×Bool:=(l.a,l.cap,l.len,l.sz,l.mp)
structure bD where
 ls:List nM
 oY:Nat->Option Nat
def Imm(w:World)(G:bD)(b o:Nat):Prop:=b<w.heap.size/\∀p,G.oY b=some p->o<p
inductive bF (w:World) (G:bD):AV->Value->Prop
 |undef:bF w G .undef Go.undef
 |gone (v:Value) (h:v.oneCell'=true):bF w G .gone v
 |bool (b:Bool):bF w G (.bool b) (.bool b)
 |int (k:IntKind) (n:Int):bF w G (.int k n) (.int k n)
 |str (l:List UInt8) (s:ByteArray) (h:s.data.toList=l):bF w G (.str l) (.string s)
 |eP:bF w G .eP (.pointer none)
 |aF:bF w G .aF (.slice none 0 0)
 |gu:bF w G .gu (.map none)
 |je:bF w G .je .nilFunc
 |lz:bF w G .lz .nilIface
 |agg (cs:List AV) (vs:Array Value) (hl:cs.length=vs.size) (h:∀(i:Nat) c v,cs[i]?=some c->vs[i]?=some v->bF w G c v):bF w G (.agg cs) (.agg vs)
 |eY (cs:List AV) (vs:Array Value) (hl:cs.length=vs.size) (h:∀(i:Nat) c v,cs[i]?=some c->vs[i]?=some v->bF w G c v):bF w G (.eY cs) (.tuple vs)
 |dV (sz:Nat) (rows:List (List AV)) (a:Addr) (cap:Nat) (nU:a.spot=none) (iA:rows.length<=cap) (cm:cr sz rows=true)
   (ee:∀r∈rows,AV.fJ r=true) (sK:∀r∈rows,AV.aB r=true) (CZ:∀r∈rows,AV.bC r=true)
   (hc:∀(i:Nat) r (j:Nat) c,rows[i]?=some r->r[j]?=some c->Imm w G a.block (a.off+(i*sz+j))/\∃v,w.cell? ⟨a.block,a.off+(i*sz+j),none⟩=some v)
   (hr:∀(i:Nat) r (j:Nat) c v,rows[i]?=some r->r[j]?=some c->w.cell? ⟨a.block,a.off+(i*sz+j),none⟩=some v->bF w G c v) :
   bF w G (.dV sz rows) (.slice (some a) rows.length cap)
 |ju (sz:Nat) (rows:List (List AV)) (a:Addr) (cap:Nat) (nU:a.spot=none) (iA:rows.length<=cap) (cm:cr sz rows=true)
   (ee:∀r∈rows,AV.fJ r=true) (sK:∀r∈rows,AV.aB r=true) (CZ:∀r∈rows,AV.bC r=true)
   (hc:∀(i:Nat) r (j:Nat) c,rows[i]?=some r->r[j]?=some c->∃v,w.cell? ⟨a.block,a.off+(i*sz+j),none⟩=some v)
   (hr:∀(i:Nat) r (j:Nat) c v,rows[i]?=some r->r[j]?=some c->w.cell? ⟨a.block,a.off+(i*sz+j),none⟩=some v->bF w G c v)
   (jW:G.oY a.block=some (a.off+rows.length*sz))
   (iG:∃c e,w.heap[a.block]?=some (.cells c e (0,0))/\a.off+cap*sz<=c.size) :
   bF w G (.ju sz rows) (.slice (some a) rows.length cap)
 |raw (sz:Nat) (rows:List (List AV)) (a:Addr) (cap:Nat) (nU:a.spot=none) (iA:rows.length<=cap) (cm:cr sz rows=true)
   (ee:∀r∈rows,AV.fJ r=true) (sK:∀r∈rows,AV.aB r=true) (CZ:∀r∈rows,AV.bC r=true)
   (hc:∀(i:Nat) r (j:Nat) c,rows[i]?=some r->r[j]?=some c->∃v,w.cell? ⟨a.block,a.off+(i*sz+j),none⟩=some v)
   (hr:∀(i:Nat) r (j:Nat) c v,rows[i]?=some r->r[j]?=some c->w.cell? ⟨a.block,a.off+(i*sz+j),none⟩=some v->bF w G c v)
   (jW:G.oY a.block=some 0)
   (iG:∃c e,w.heap[a.block]?=some (.cells c e (0,0))/\a.off+cap*sz<=c.size) :
   bF w G (.raw sz rows) (.slice (some a) rows.length cap)
 |oI (a:Addr):bF w G .oI (.slice (some a) 0 0)
 |mu (id cW:Nat) (v:Value) (loc:nM) (hp:∃p n c,v=.slice p n c) (hl:G.ls[id]?=some loc) (hv:cW<=loc.cW) (he:cW=loc.cW->v=.slice loc.a loc.len loc.cap):bF w G (.mu id cW) v
 |ptr (id cW i k:Nat) (v:Value) (loc:nM) (hp:∃a,v=.pointer (some a)) (hl:G.ls[id]?=some loc) (hv:cW<=loc.cW)
   (he:cW=loc.cW->∃a,loc.a=some a/\v=.pointer (some ⟨a.block,a.off+(i*loc.sz+k),none⟩)):bF w G (.ptr id cW i k) v
 |tM (sz:Nat) (rows:List (List AV)) (i k:Nat) (a:Addr) (cap:Nat) (hs:bF w G (.dV sz rows) (.slice (some a) rows.length cap)) :
   bF w G (.tM sz rows i k) (.pointer (some ⟨a.block,a.off+(i*sz+k),none⟩))
 |map (id:Nat) (loc:nM) (b:Nat) (hl:G.ls[id]?=some loc) (hm:loc.mp=true) (hb:loc.a=some ⟨b,0,none⟩):bF w G (.map id) (.map (some b))
 |fn (f:Nat) (first nO:List AV) (vf vc:Array Value) (hl:first.length=vf.size) (hm:nO.length=vc.size)
   (hn:AV.fJ first=true/\AV.fJ nO=true/\f<100000)
   (h:∀(i:Nat) c v,first[i]?=some c->vf[i]?=some v->bF w G c v) (k:∀(i:Nat) c v,nO[i]?=some c->vc[i]?=some v->bF w G c v) :
   bF w G (.fn f first nO) (.func (.func f) vf vc)
mutual
def iw(b:Nat):AV->Value->Nat
 |.ju _ _,.slice (some a) _ _=>if a.block=b then 1 else 0
 |.raw _ _,.slice (some a) _ _=>if a.block=b then 1 else 0
 |.agg C,.agg vs=>cP b C vs.toList|.eY C,.tuple vs=>cP b C vs.toList|_,_=>0
def cP(b:Nat):List AV->List Value->Nat
 |c::C,v::vs=>iw b c v+cP b C vs|_,_=>0
end
theorem AM(b:Nat):∀(C:List AV)(vs:List Value)(i:Nat)(c:AV)(v:Value),C[i]?=some c->vs[i]?=some v->iw b c v<=cP b C vs
 |[],_,_,_,_,h,_=>by simp at h|_::_,[],_,_,_,_,h=>by simp at h|c::C,v::vs,0,g,V,h,k=>by
  simp at h k;subst h;subst k;simp only[cP];omega
 |c::C,v::vs,i+1,g,V,h,k=>by
  simp at h k;have:=AM b C vs i g V h k;simp only[cP];omega
mutual
theorem gw(b:Nat):∀(a:AV)(v:Value),a.de=true->iw b a v=0
 |.ju _ _,_,h=>by simp[AV.de]at h|.raw _ _,_,h=>by simp[AV.de]at h|.agg C,.agg vs,h=>by simp only[iw];exact eZ b C vs.toList (by simpa [AV.de] using h)|.eY C,.tuple vs,h=>by simp only[iw];exact eZ b C vs.toList (by simpa [AV.de] using h)
 |.undef,_,_|.gone,_,_|.bool _,_,_|.int _ _,_,_|.str _,_,_|.eP,_,_|.aF,_,_|.gu,_,_|.je,_,_|.lz,_,_
 |.dV _ _,_,_|.oI,_,_|.mu _ _,_,_|.ptr _ _ _ _,_,_|.tM _ _ _ _,_,_|.map _,_,_|.fn _ _ _,_,_=>by simp[iw]
 |.agg C,.bool _,_|.agg C,.int _ _,_|.agg C,.float _ _,_|.agg C,.complex _ _ _,_|.agg C,.string _,_|.agg C,.pointer _,_|.agg C,.slice _ _ _,_
 |.agg C,.map _,_|.agg C,.chan _,_|.agg C,.func _ _ _,_|.agg C,.nilFunc,_|.agg C,.iface _ _,_|.agg C,.nilIface,_|.agg C,.tuple _,_=>by simp[iw]
 |.eY C,.bool _,_|.eY C,.int _ _,_|.eY C,.float _ _,_|.eY C,.complex _ _ _,_|.eY C,.string _,_|.eY C,.pointer _,_|.eY C,.slice _ _ _,_
 |.eY C,.map _,_|.eY C,.chan _,_|.eY C,.func _ _ _,_|.eY C,.nilFunc,_|.eY C,.iface _ _,_|.eY C,.nilIface,_|.eY C,.agg _,_=>by simp[iw]
theorem eZ(b:Nat):∀(C:List AV)(vs:List Value),AV.fJ C=true->cP b C vs=0
 |[],_,_=>by simp[cP]|_::_,[],_=>by simp[cP]|c::C,v::vs,h=>by
  simp[AV.fJ]at h;simp only[cP,gw b c v h.1,eZ b C vs h.2]
end
mutual
theorem yY:∀a:AV,a.ai.de=true
 |.ju _ _=>by simp[AV.ai,AV.de]|.raw _ _=>by simp[AV.ai,AV.de]|.agg C=>by simp only[AV.ai,AV.de];exact iV C|.eY C=>by simp only[AV.ai,AV.de];exact iV C|.undef|.gone|.bool _|.int _ _|.str _|.eP|.aF|.gu|.je|.lz|.dV _ _|.oI|.mu _ _|.ptr _ _ _ _|.tM _ _ _ _|.map _|.fn _ _ _=>by simp[AV.ai,AV.de]
theorem iV:∀C:List AV,AV.fJ (AV.cC C)=true
 |[]=>rfl|c::C=>by simp only[AV.cC,AV.fJ,yY c,iV C,ah8]
end
theorem BR:∀(C:List AV)(i:Nat),(AV.cC C)[i]?=(C[i]?).map AV.ai
 |[],i=>by simp[AV.cC]|c::C,0=>by simp[AV.cC]|c::C,i+1=>by simp[AV.cC,BR C i]
theorem qN:∀(C:List AV),(AV.cC C).length=C.length
 |[]=>rfl|c::C=>by simp[AV.cC,qN C]
theorem dD:∀(C:List AV),AV.fJ C=true↔∀c∈C,c.de=true
 |[]=>by simp[AV.fJ]|c::C=>by simp[AV.fJ,dD C]
theorem iW:∀(C:List AV),AV.aB C=true↔∀c∈C,c.aH=true
 |[]=>by simp[AV.aB]|c::C=>by simp[AV.aB,iW C]
theorem eB{g:Type}{l:List g}{i:Nat}{x:g}(h:l[i]?=some x):x∈l:=List.mem_of_getElem? h
structure wZ (w:World)(G:bD)(w':World)(G':bD):Prop where
 ZD:∀b o,Imm w G b o->w'.cell? ⟨b,o,none⟩=w.cell? ⟨b,o,none⟩/\Imm w' G' b o
 fP:∀(id:Nat) loc,G.ls[id]?=some loc->∃loc',G'.ls[id]?=some loc'/\loc.cW<=loc'.cW/\(loc.cW=loc'.cW\/loc.mp=true->loc'.hd=loc.hd)
theorem wZ.refl(w:World)(G:bD):wZ w G w G:=⟨λ_ _ h=>⟨rfl,h⟩,λ_ loc h=>⟨loc,h,Nat.le_refl _,λ_=>rfl⟩⟩
theorem wZ.trans{w G w' G' W g}(h:wZ w G w' G')(k:wZ w' G' W g):wZ w G W g where
 ZD:=λb o hi=>by
  obtain⟨j,a2⟩:=h.ZD b o hi;obtain⟨b1,B⟩:=k.ZD b o a2;exact⟨b1.trans j,B⟩
 fP:=λid loc hl=>by
  obtain⟨l,j,a2,m⟩:=h.fP id loc hl;obtain⟨p,b1,B,n⟩:=k.fP id l j;refine⟨p,b1,by omega,λe=>?_⟩;rcases e with e|e;have E:loc.cW=l.cW:=by omega
  have q:l.cW=p.cW:=by omega
  rw[n (.inl q),m (.inl E)];have H:=m (.inr e);have r:l.mp=loc.mp:=congrArg (·.2.2.2.2) H;exact(n (.inr (r.trans e))).trans H
theorem bF.kV{w:World}{G:bD}{w':World}{G':bD}{a:AV}{v:Value}(h:bF w G a v)(hs:wZ w G w' G') :
  (∀b,0<iw b a v->G'.oY b=G.oY b/\w'.heap[b]?=w.heap[b]?)->bF w' G' a v:=by
 induction h with
 |undef=>exact λ_=>.undef|gone v h=>exact λ_=>.gone v h|bool b=>exact λ_=>.bool b|int k n=>exact λ_=>.int k n|str l s h=>exact λ_=>.str l s h|eP=>exact λ_=>.eP|aF=>exact λ_=>.aF|gu=>exact λ_=>.gu|je=>exact λ_=>.je|lz=>exact λ_=>.lz|agg K vs t h I=>
  intro z;refine .agg K vs t λi c v q p=>I i c v q p λb m=>z b ?_;have:=AM b K vs.toList i c v q (by simpa using p);simp only[iw];omega
 |eY K vs t h I=>
  intro z;refine .eY K vs t λi c v q p=>I i c v q p λb m=>z b ?_;have:=AM b K vs.toList i c v q (by simpa using p);simp only[iw];omega
 |dV sz rows a cap O N J x S C q hr I=>
  intro _;refine .dV sz rows a cap O N J x S C (λi r j c H g=>?_) (λi r j c v H g y=>?_);obtain⟨hi,v,p⟩:=q i r j c H g;obtain⟨e,j7⟩:=hs.ZD _ _ hi;exact⟨j7,v,e.trans p⟩;obtain⟨hi,v',CF⟩:=q i r j c H g;obtain⟨e,j7⟩:=hs.ZD _ _ hi;rw[e]at y;refine I i r j c v H g y λb m=>?_;rw[gw b c v ((dD r).1 (x r (eB H)) c (eB g))]at m;omega
 |ju sz rows a cap O N J x S C q hr Z Y I=>
  intro z;obtain⟨X,M⟩:=z a.block (by simp[iw]);have Q:∀o,w'.cell? ⟨a.block,o,none⟩=w.cell? ⟨a.block,o,none⟩:=λo=>by simp[World.cell?,M]
  refine .ju sz rows a cap O N J x S C (λi r j c H g=>?_) (λi r j c v H g y=>?_) (X.trans Z) ?_;obtain⟨v,p⟩:=q i r j c H g;exact⟨v,(Q _).trans p⟩;rw[Q]at y;refine I i r j c v H g y λb m=>?_;rw[gw b c v ((dD r).1 (x r (eB H)) c (eB g))]at m;omega;obtain⟨c,e,H,g⟩:=Y;exact⟨c,e,M.trans H,g⟩
 |raw sz rows a cap O N J x S C q hr Z Y I=>
  intro z;obtain⟨X,M⟩:=z a.block (by simp[iw]);have Q:∀o,w'.cell? ⟨a.block,o,none⟩=w.cell? ⟨a.block,o,none⟩:=λo=>by simp[World.cell?,M]
  refine .raw sz rows a cap O N J x S C (λi r j c H g=>?_) (λi r j c v H g y=>?_) (X.trans Z) ?_;obtain⟨v,p⟩:=q i r j c H g;exact⟨v,(Q _).trans p⟩;rw[Q]at y;refine I i r j c v H g y λb m=>?_;rw[gw b c v ((dD r).1 (x r (eB H)) c (eB g))]at m;omega;obtain⟨c,e,H,g⟩:=Y;exact⟨c,e,M.trans H,g⟩
 |oI a=>exact λ_=>.oI a|mu id F v loc W t p U=>
  intro _;obtain⟨loc',B,a2,D⟩:=hs.fP id loc t;refine .mu id F v loc' W B (by omega) λe=>?_;have T:F=loc.cW:=by omega
  have E:=D (.inl (by omega));rw[show loc'.a=loc.a from congrArg (·.1) E,show loc'.len=loc.len from congrArg (·.2.2.1) E,show loc'.cap=loc.cap from congrArg (·.2.1) E];exact U T
 |ptr id F i k v loc W t p U=>
  intro _;obtain⟨loc',B,a2,D⟩:=hs.fP id loc t;refine .ptr id F i k v loc' W B (by omega) λe=>?_;have T:F=loc.cW:=by omega
  have E:=D (.inl (by omega));rw[show loc'.a=loc.a from congrArg (·.1) E,show loc'.sz=loc.sz from congrArg (·.2.2.2.1) E];exact U T
 |tM sz rows i k a cap t I=>exact λ_=>.tM sz rows i k a cap (I λb m=>by simp[iw]at m)|map id loc b t R m=>
  intro _;obtain⟨loc',B,a2,D⟩:=hs.fP id loc t;have E:=D (.inr R);exact .map id loc' b B ((congrArg (·.2.2.2.2) E:loc'.mp=loc.mp).trans R) ((congrArg (·.1) E:loc'.a=loc.a).trans m)
 |fn f first nO vf vc t R V h k I ik=>
  intro _;refine .fn f first nO vf vc t R V (λi c v H g=>I i c v H g λb m=>?_) (λi c v H g=>ik i c v H g λb m=>?_)
  rw[gw b c v ((dD first).1 V.1 c (eB H))]at m;omega;rw[gw b c v ((dD nO).1 V.2.1 c (eB H))]at m;omega
end Ax
namespace Ax
open Go
def BS:Nat->Value->Option AV
 |0,_=>none|d+1,v=>match v with
  |.bool b=>some (.bool b)|.int k n=>some (.int k n)|.string s=>some (.str s.data.toList)|.pointer none=>some .eP|.slice none 0 0=>some .aF|.map none=>some .gu|.nilFunc=>some .je|.nilIface=>some .lz|.agg C=>match C.toList.mapM (BS d) with|some l=>some (.agg l)|none=>none
  |_=>none
def BU(v:Value)(a:AV):Bool:=match BS 3 v with|some b=>b.cU a|none=>false
def vh:List Value->List AV->Bool
 |[],[]=>true|v::vs,a::as=>BU v a&&vh vs as|_,_=>false
def Sy:Operand->Src->Bool
 |.tmp t,.tmp u _=>t==u|.const v,.const a=>BU v a|.func f,.const (.fn g [] [])=>f==g&&decide (f<100000)|_,_=>false
def iM:List Operand->List Src->Bool
 |[],[]=>true|x::xs,s::S=>Sy x s&&iM xs S|_,_=>false
def qO(P:Program)(t:TypeId):Option Bool:=match P.underlying t with
 |some (.struct _)|some (.array _ _)=>some true|some _=>some false|none=>none
def dA(P:Program)(t:TypeId)(n:Nat):Bool:=match P.info? t with|some i=>i.size==n|none=>false
def sL(P:Program)(t:TypeId)(n:Nat):Bool:=match P.info? t with|some i=>i.bytes==n|none=>false
def IL(P:Program)(rec:TypeId->Option (List SK)):Nat->List Field->Option (List SK)
 |_,[]=>some []|off,f::fs=>
  if f.offset = off && f.name != "_" then
   match rec f.type with
   |some ks=>if dA P f.type ks.length then (match IL P rec (off+ks.length) fs with|some r=>some (ks++r)|none=>none) else none
   |none=>none
  else none
def IM(P:Program):Nat->TypeId->Option (List SK)
 |0,_=>none|d+1,t=>match P.underlying t with
  |some .bool=>some [.bool]|some (.int _)=>some [.int]|some .string=>some [.str]|some (.struct fs)=>if P.stoodInHeld t then none else IL P (IM P d) 0 fs.toList
  |_=>none
def CG(P:Program)(t:TypeId):EqK->Bool
 |.sc .bool=>match P.underlying t with|some .bool=>true|_=>false
 |.sc _=>false|.ptr=>match P.underlying t with|some (.pointer _)=>true|_=>false
 |.sl=>match P.underlying t with|some (.slice _)=>true|_=>false
 |.fn=>match P.underlying t with|some (.func _ _ _)=>true|_=>false
 |.flat K=>(match P.underlying t with|some (.struct _)=>true|_=>false)&&IM P 20 t==some K && !P.eqGuardType P.depth t
def tg(P:Program)(t:TypeId):SK->Bool
 |.bool=>match P.underlying t with|some .bool=>true|_=>false
 |.int=>match P.underlying t with|some (.int _)=>true|_=>false
 |.str=>match P.underlying t with|some .string=>true|_=>false
def rK(P:Program)(t:TypeId)(zero:List AV):Bool:=match P.info? t with
 |some i=>(match i.zero with|some z=>vh z.cells.toList zero&&AV.bC zero|none=>false)
 |none=>false
def vH(P:Program)(fs:Array Field):List (Nat×Operand)->List (Nat×Nat)->Bool
 |[],[]=>true|(i,_)::ps,(off,n)::q=>(match fs[i]? with|some f=>f.offset==off&&dA P f.type n|none=>false)&&vH P fs ps q|_,_=>false
def BW(x:Operand)(l h M:Option Operand):List Operand:=x::(l.toList++h.toList++M.toList)
def mOp(S:Nat->Option aL)(P:Program)(o:Oper)(so:ct):Bool:=
 (match o.dst,so.dst with|some a,some b=>a==b|none,none=>true|_,_=>false) &&
 match o.op,so.op with
 |.move x,.move|.assign x,.move=>iM [x] so.args|.pick c a b,.pick=>iM [c,a,b] so.args|.binOp op _ x y _,.bin O=>op==O&&iM [x,y] so.args|.binOp op t x y _,.eqv k neg=>op==(if neg then .neq else .eql)&&iM [x,y] so.args&&CG P t k|.binOp op t x y _,.Zy neg=>op==(if neg then .neq else .eql)&&iM [x,y] so.args&&CG P t .sl|.unOp op _ x,.un O=>op==O&&iM [x] so.args|.convert s d x,.conv k=>iM [x] so.args&&(match P.underlying s,P.underlying d with|some (.int _),some (.int C)=>k==C|_,_=>false)|.nilCheck x,.nilCheck=>iM [x] so.args|.extract x i,.extract j=>i==j&&iM [x] so.args|.field t x f,.field off n agg=>iM [x] so.args&&(match P.underlying t with
  |some (.struct fs)=>(match fs[f]? with|some F=>F.offset==off&&dA P F.type n&&qO P F.type==some agg|none=>false)
  |_=>false)
 |.build t parts,.build zero q=>iM (parts.toList.map (·.2)) so.args&&rK P t zero&&(match P.underlying t with
  |some (.struct fs)=>(match fs.toList.mapM (λf=>P.info? f.type) with|some _=>vH P fs parts.toList q|none=>false)
  |_=>false)
 |.buildSlice t n parts,.lit sz N zero q|.buildSlice t n parts,.Sv sz N zero q=>n==N&&iM (parts.toList.map (·.2)) so.args&&(match P.underlying t with
  |some (.slice e)=>dA P e sz&&decide (n*sz<=16777216)&&rK P e zero&&decide (0<sz)&&(zero.length==sz)&&parts.toList.map (·.1)==q|_=>false)
 |.fieldAddr t x f,.fieldAddr off=>iM [x] so.args&&(match P.underlying t with
  |some (.struct fs)=>(match fs[f]? with
   |some F=>F.offset==off&&(match P.info? F.type with|some i=>i.size != 0|none=>false)|none=>false)
  |_=>false)
 |.indexAddr t x i,.indexAddr sz=>iM [x,i] so.args&&(match P.underlying t with|some (.slice e)=>dA P e sz|_=>false)|.index t x i,.index=>iM [x,i] so.args&&(match P.underlying t with|some .string=>true|_=>false)|.slice t x r H M,.slice p l h m sz=>iM (BW x r H M) so.args&&r.isSome==l&&H.isSome==h&&M.isSome==m&&(!m||h)&&(match P.underlying t with
  |some (.slice e)=>!p&&dA P e sz|some .string=>p && !m|_=>false)
 |.slice t x none (some H) none,.vF sz=>iM [x,H] so.args&&(match P.underlying t with|some (.slice e)=>dA P e sz|_=>false)|.load t a,.load agg n _|.load t a,.yc _ agg n _=>iM [a] so.args&&dA P t n&&qO P t==some agg&&(agg||n==1)|.store t a v,.store n|.store t a v,.xM _ n=>iM [a,v] so.args&&dA P t n|.alloc t,.alloc zero|.alloc t,.xN _ zero=>so.args.isEmpty&&rK P t zero|.box _ v,.box _|.box _ v,.K4 _ _=>iM [v] so.args|.makeSlice t l c,.yV sz bytes zero _=>iM [l,c] so.args&&(match P.underlying t with
  |some (.slice e)=>dA P e sz&&sL P e bytes&&rK P e zero&&decide (0<sz)&&decide (0<bytes)|_=>false)
 |.makeMap t none,.makeMap=>so.args.isEmpty&&(match P.underlying t with|some (.map _ _)=>true|_=>false)|.mapUpdate t m k v,.mapUpdate kk|.insert t m k v,.mapUpdate kk=>iM [m,k,v] so.args&&(match P.underlying t with
  |some (.map K _)=>tg P K kk|_=>false)
 |.lookup t m k ok,.lookup kk zero g=>ok==g&&iM [m,k] so.args&&(match P.underlying t with
  |some (.map K E)=>tg P K kk &&
   (match P.info? E with|some i=>(match i.zero with|some z=>BU z zero|none=>false)|none=>false)
  |_=>false)
 |.makeFunc (.func f) first D,.makeFunc B n=>f==B&&iM (first.toList++D.toList) so.args&&first.size==n&&decide (f<100000)
 |.call c,.len k=>iM c.args.toList so.args&&c.args.size==1&&(match c.callee,c.argTypes[0]? with
  |.builtin .len,some t=>(match P.underlying t,k with|some .string,.str|some (.slice _),.sl|some (.map _ _),.mp=>true|_,_=>false)
  |_,_=>false)
 |.call c,.Fu M=>iM c.args.toList so.args&&c.args.size==2&&(match c.callee with|.builtin .max=>M|.builtin .min=>!M|_=>false)|.call c,.append sz bytes|.call c,.jH sz bytes=>iM c.args.toList so.args&&c.args.size==2&&c.argTypes.size==2&&(match c.callee,c.argTypes[0]?,c.argTypes[1]? with
  |.builtin .append,some t,some u=>(match P.underlying t with|some (.slice e)=>dA P e sz&&sL P e bytes&&decide (0<sz)&&decide (0<bytes)&&(match P.info? e with|some i=>(match i.zero with|some z=>z.cells.size==sz|none=>false)|none=>false)|_=>false) &&
   (match P.underlying u with|some (.slice _)|some .string=>true|_=>false)
  |_,_,_=>false)
 |.call c,.copy sz=>iM c.args.toList so.args&&c.args.size==2&&c.argTypes.size==2&&(match c.callee,c.argTypes[0]?,c.argTypes[1]? with
  |.builtin .copy,some t,some u=>(match P.underlying t with|some (.slice e)=>dA P e sz|_=>false)&&(match P.underlying u with|some (.slice _)|some .string=>true|_=>false)|_,_,_=>false)
 |.call c,.call i=>(match c.callee with
  |.value (.func f)=>iM c.args.toList so.args&&(match S i with|some I=>I.Sc==f|none=>false)|_=>false)
 |.call c,.wV=>(match c.callee with
  |.value x=>iM (x::c.args.toList) so.args|_=>false)
 |.makeSlice t l c,.DZ sz bytes zero=>iM [l,c] so.args&&(match P.underlying t with
  |some (.slice e)=>dA P e sz&&sL P e bytes&&rK P e zero&&decide (0<sz)&&decide (0<bytes)|_=>false)
 |.call c,.wU sz bytes zero=>iM c.args.toList so.args&&c.args.size==2&&c.argTypes.size==2&&(match c.callee,c.argTypes[0]?,c.argTypes[1]? with
  |.builtin .append,some t,some u=>(match P.underlying t with|some (.slice e)=>dA P e sz&&sL P e bytes&&rK P e zero&&decide (0<sz)&&decide (0<bytes)|_=>false) &&
   (match P.underlying u with|some (.int _)=>true|_=>false)
  |_,_,_=>false)
 |_,.vF 0=>so.args.isEmpty|_,_=>false
end Ax
namespace Ax
open Go
structure qh where
 kC:Option Nat
 vals:List Value
def mX(w:World)(G:bD)(β:List qh):fz->Value->Prop
 |.none,_=>True|.val a,v=>bF w G a v|.fp j k,v=>∃g b,β[j]?=some g/\g.kC=some b/\v=.pointer (some ⟨b,k,none⟩)
def dz(b:Nat):fz->Value->Nat
 |.val a,v=>iw b a v|_,_=>0
def nD(w:World)(G:bD)(β:List qh):List fz->List Value->Prop
 |[],[]=>True|e::E,v::vs=>mX w G β e v/\nD w G β E vs|_,_=>False
def oZ(b:Nat):List fz->List Value->Nat
 |e::E,v::vs=>dz b e v+oZ b E vs|_,_=>0
variable {w:World}{G:bD}{β:List qh}
variable{e:fz}{xs:List Value}{v:Value}
theorem nD.one(h:nD w G β [e] xs):∃v,xs=[v]/\mX w G β e v:=by
 match xs,h with
 |[v],h=>exact⟨v,rfl,h.1⟩
theorem nD.two{f:fz}{x:List Value}(h:nD w G β [e,f] x):∃v u,x=[v,u]/\mX w G β e v/\mX w G β f u:=by
 match x,h with
 |[v,u],h=>exact⟨v,u,rfl,h.1,h.2.1⟩
theorem nD.cons{E:List fz}(h:nD w G β (e::E) xs):∃v vs,xs=v::vs/\mX w G β e v/\nD w G β E vs:=by
 match xs,h with
 |v::vs,h=>exact⟨v,vs,rfl,h.1,h.2⟩
theorem nD.vals:∀{E:List fz}{xs:List Value}{vs:List AV},nD w G β E xs->kS E=some vs->
  E=vs.map .val/\vs.length=xs.length/\∀(i:Nat) c v,vs[i]?=some c->xs[i]?=some v->bF w G c v
 |[],[],vs,_,h=>by simp[kS]at h;subst h;exact⟨rfl,rfl,λi c v h _=>by simp at h⟩|.val a::E,x::xs,vs,h,p=>by
  simp only[kS]at p;split at p;rename_i vs' D;cases p;obtain⟨j,q,k⟩:=nD.vals h.2 D;refine⟨by rw[j];rfl,by simp[q],λi c v H g=>?_⟩;cases i with
  |zero=>simp at H g;subst H;subst g;exact h.1|succ i=>simp at H g;exact k i c v H g
  cases p
 |.none::E,_::_,vs,_,p=>by simp[kS]at p|.fp _ _::E,_::_,vs,_,p=>by simp[kS]at p|[],_::_,_,h,_=>h.elim|_::_,[],_,h,_=>h.elim
theorem IN:∀(b:Nat)(vs:List AV)(X:List Value),oZ b (vs.map .val) X=cP b vs X
 |_,[],[]=>rfl|_,[],_::_=>rfl|_,_::_,[]=>rfl|b,a::vs,x::X=>by simp[oZ,cP,dz,IN b vs X]
theorem bF.iN{k:IntKind}{n:Int}(h:bF w G (.int k n) v):v=.int k n:=by cases h;rfl
theorem bF.l6{b:Bool}(h:bF w G (.bool b) v):v=.bool b:=by cases h;rfl
theorem bF.p5{l:List UInt8}(h:bF w G (.str l) v):∃s,v=.string s/\s.data.toList=l:=by
 cases h with|str _ s h=>exact⟨s,rfl,h⟩
theorem bF.ai{a:AV}(h:bF w G a v):bF w G a.ai v:=by
 induction h with
 |undef=>exact .undef|gone v h=>exact .gone v h|bool b=>exact .bool b|int k n=>exact .int k n|str l s h=>exact .str l s h|eP=>exact .eP|aF=>exact .aF|gu=>exact .gu|je=>exact .je|lz=>exact .lz|agg F vs H h I=>
  refine .agg _ vs (by rw[qN];exact H) λi c v g q=>?_;rw[BR]at g;simp only[aex]at g;obtain⟨z,m,rfl⟩:=g;exact I i z v m q
 |eY F vs H h I=>
  refine .eY _ vs (by rw[qN];exact H) λi c v g q=>?_;rw[BR]at g;simp only[aex]at g;obtain⟨z,m,rfl⟩:=g;exact I i z v m q
 |dV sz rows a cap O N J x S C g y I=>exact .dV sz rows a cap O N J x S C g y|ju sz rows a cap O N J x S C g y Z Y I=>
  refine .dV sz rows a cap O N J x S C (λi r j c m E=>⟨⟨?_,λp t=>?_⟩,g i r j c m E⟩) y;obtain⟨W,e,K,_⟩:=Y;exact(Array.getElem?_eq_some_iff.1 K).1;rw[Z]at t;cases t;have hi:i<rows.length:=(aac.1 m).1;have X:j<r.length:=(aac.1 E).1;have hs:r.length=sz:=by
   simp only[cr,ac3,cD]at J;exact J r (eB m)
  have:i*sz+j<rows.length*sz:=by
   calc i*sz+j<i*sz+sz:=by omega
    _=(i+1)*sz:=by rw[Nat.succ_mul]
    _<=rows.length*sz:=Nat.mul_le_mul_right _ hi
  omega
 |raw sz rows a cap O N J x S C g y Z Y I=>exact .gone _ rfl|oI a=>exact .oI a|mu id B v loc t H q U=>exact .mu id B v loc t H q U|ptr id B i k v loc t H q U=>exact .ptr id B i k v loc t H q U|tM sz rows i k a cap H I=>exact .tM sz rows i k a cap H|map id loc b H D M=>exact .map id loc b H D M|fn f first R T V H D Q h k I ik=>exact .fn f first R T V H D Q h k
theorem mX.ai{e:fz}{v:Value}(h:mX w G β e v):mX w G β e.ai v:=by
 cases e with
 |none=>trivial|val a=>exact bF.ai h|fp j k=>exact h
theorem LM(b:Nat)(e:fz)(v:Value):dz b e.ai v=0:=by
 cases e with
 |none=>rfl|val a=>exact gw b _ _ (yY a)|fp j k=>rfl
mutual
theorem MR:∀(a b:AV),a.cU b=true->a=b
 |.undef,b,h=>by cases b<;>simp[AV.cU]at h<;>rfl|.gone,b,h=>by cases b<;>simp[AV.cU]at h<;>rfl|.eP,b,h=>by cases b<;>simp[AV.cU]at h<;>rfl|.aF,b,h=>by cases b<;>simp[AV.cU]at h<;>rfl|.gu,b,h=>by cases b<;>simp[AV.cU]at h<;>rfl|.je,b,h=>by cases b<;>simp[AV.cU]at h<;>rfl|.lz,b,h=>by cases b<;>simp[AV.cU]at h<;>rfl|.oI,b,h=>by cases b<;>simp[AV.cU]at h<;>rfl|.bool x,b,h=>by cases b<;>simp[AV.cU]at h;rw[h]|.int k x,b,h=>by cases b<;>simp[AV.cU]at h;rw[h.1,h.2]|.str x,b,h=>by cases b<;>simp[AV.cU]at h;rw[h]|.agg x,b,h=>by
  cases b<;>simp[AV.cU]at h;rw[yf _ _ h]
 |.eY x,b,h=>by
  cases b<;>simp[AV.cU]at h;rw[yf _ _ h]
 |.dV s x,b,h=>by
  cases b<;>simp[AV.cU]at h;rw[h.1,yg _ _ h.2]
 |.ju s x,b,h=>by
  cases b<;>simp[AV.cU]at h;rw[h.1,yg _ _ h.2]
 |.raw s x,b,h=>by
  cases b<;>simp[AV.cU]at h;rw[h.1,yg _ _ h.2]
 |.mu i v,b,h=>by cases b<;>simp[AV.cU]at h;rw[h.1,h.2]|.ptr i v k l,b,h=>by cases b<;>simp[AV.cU]at h;rw[h.1.1.1,h.1.1.2,h.1.2,h.2]|.tM s x i k,b,h=>by
  cases b<;>simp[AV.cU]at h;rw[h.1.1.1,yg _ _ h.1.1.2,h.1.2,h.2]
 |.map i,b,h=>by cases b<;>simp[AV.cU]at h;rw[h]|.fn f x y,b,h=>by
  cases b<;>simp[AV.cU]at h;rw[h.1.1,yf _ _ h.1.2,yf _ _ h.2]
theorem yf:∀(a b:List AV),AV.uw a b=true->a=b
 |[],b,h=>by cases b<;>simp[AV.uw]at h;rfl|x::a,b,h=>by
  cases b with
  |nil=>simp[AV.uw]at h|cons y b=>
   simp[AV.uw]at h;rw[MR x y h.1,yf a b h.2]
theorem yg:∀(a b:List (List AV)),AV.qK a b=true->a=b
 |[],b,h=>by cases b<;>simp[AV.qK]at h;rfl|x::a,b,h=>by
  cases b with
  |nil=>simp[AV.qK]at h|cons y b=>
   simp[AV.qK]at h;rw[yf x y h.1,yg a b h.2]
end
theorem IP(w:World)(G:bD):∀(d:Nat)(v:Value)(a:AV),BS d v=some a->bF w G a v/\a.de=true/\a.aH=true
 |0,_,_,h=>by simp[BS]at h|d+1,v,a,h=>by
  unfold BS at h;split at h;cases h;exact⟨.bool _,rfl,rfl⟩;cases h;exact⟨.int _ _,rfl,rfl⟩;cases h;exact⟨.str _ _ rfl,rfl,rfl⟩;cases h;exact⟨.eP,rfl,rfl⟩;cases h;exact⟨.aF,rfl,rfl⟩;cases h;exact⟨.gu,rfl,rfl⟩;cases h;exact⟨.je,rfl,rfl⟩;cases h;exact⟨.lz,rfl,rfl⟩;rename_i C;split at h;rename_i l r;cases h;have key:∀(vs:List Value) (l:List AV),vs.mapM (BS d)=some l->vs.length=l.length/\(∀(i:Nat) c v,l[i]?=some c->vs[i]?=some v->bF w G c v/\c.de=true/\c.aH=true):=by
   intro vs;induction vs with
   |nil=>intro l h;simp at h;subst h;exact⟨rfl,λi c v h _=>by simp at h⟩|cons x vs I=>
    intro l h;rw[List.mapM_cons]at h;simp only[bind,Option.bind_eq_some_iff,pure,bw]at h;obtain⟨t,k,s,m,rfl⟩:=h;obtain⟨E,q⟩:=I s m;refine⟨by simp[E],λi c v H p=>?_⟩;cases i with
    |zero=>simp at H p;subst H;subst p;exact IP w G d _ _ k|succ i=>simp at H p;exact q i c v H p
  obtain⟨E,q⟩:=key _ _ r;have g:∀c∈l,c.de=true/\c.aH=true:=by
   intro c H;obtain⟨i,n,rfl⟩:=aec.1 H;have j:i<C.toList.length:=(by omega);exact(q i l[i] C.toList[i] (aas n) (aas j)).2
  refine⟨.agg l C (by rw[<-E];simp) λi c v H p=>(q i c v H (by simpa using p)).1,?_,?_⟩;simp only[AV.de];exact(dD l).2 λc H=>(g c H).1;simp only[AV.aH];exact(iW l).2 λc H=>(g c H).2;cases h;cases h
theorem Dr{a:AV}(h:BU v a=true)(w:World)(G:bD):bF w G a v/\a.de=true/\a.aH=true:=by
 unfold BU at h;split at h;rename_i b l;have:=MR _ _ h;subst this;exact IP w G 3 v b l;cases h
theorem D1(w:World)(G:bD):∀{vs:List Value}{as:List AV},vh vs as=true->as.length=vs.length/\(∀(i:Nat) c v,as[i]?=some c->vs[i]?=some v->bF w G c v)/\(∀c∈as,c.de=true/\c.aH=true)
 |[],[],_=>⟨rfl,λi c v h _=>by simp at h,λc h=>by simp at h⟩
 |v::vs,a::as,h=>by
  simp only[vh,Ee]at h;obtain⟨E,q,k⟩:=D1 w G h.2;obtain⟨F,j,l⟩:=Dr h.1 w G;refine⟨by simp[E],λi c u H g=>?_,λc H=>?_⟩;cases i with
  |zero=>simp at H g;subst H;subst g;exact F|succ i=>simp at H g;exact q i c u H g
  rcases List.mem_cons.1 H with rfl|H;exact⟨j,l⟩;exact k c H
 |[],_::_,h=>by simp[vh]at h|_::_,[],h=>by simp[vh]at h
end Ax
namespace Ax
open Go
variable {P:Program}{w:World}{G:bD}
variable{t:TypeId}{n:Nat}{x y:Value}{r:Bool}{as:List AV}{xs:List Value}
theorem nW(h:dA P t n=true):∃i,P.info? t=some i/\i.size=n/\P.cellsOf t=n:=by
 unfold dA at h;split at h;rename_i i H;exact⟨i,H,by simpa using h,by simp[Program.cellsOf,H];simpa using h⟩;cases h
theorem fL(h:dA P t n=true)(w:World):(Go.sizeOf t).run P w=.ok n w:=by
 obtain⟨i,hi,hs,H⟩:=nW h;rw[run_sizeOf w hi,H]
def dg(w:World)(G:bD)(as:List AV)(xs:List Value):Prop:=as.length=xs.length/\∀(i:Nat) c v,as[i]?=some c->xs[i]?=some v->bF w G c v
theorem aeA{k:SK}{a b:AV}(X:tg P t k=true)(h:K5 k a b=some r)(H:bF w G a x)(l:bF w G b y)(D:Nat)(W:World) :
  (Op.equalIn (D+1) t x y).run P W=.ok r W:=by
 unfold K5 at h;split at h;cases h;rw[H.l6,l.l6];have g:P.underlying t=some .bool:=by
  unfold tg at X;simp only at X;split at X<;>simp_all
 exact run_equalIn_bool W D t _ _ g;split at h;rename_i K p m q j;cases h;subst j;rw[H.iN,l.iN];have g:∃q,P.underlying t=some (.int q):=by
  unfold tg at X;simp only at X;split at X;exact⟨_,by assumption⟩;cases X
 obtain⟨q,g⟩:=g;exact run_equalIn_int W D t _ q _ _ g;cases h;cases h;obtain⟨s,rfl,rfl⟩:=H.p5;obtain⟨S,rfl,rfl⟩:=l.p5;have g:P.underlying t=some .string:=by
  unfold tg at X;simp only at X;split at X<;>simp_all
 rw[run_equalIn_string W D t _ _ g,ByteArray.toList_eq,ByteArray.toList_eq];cases h
theorem IQ:∀(K m:List SK)(a b:List AV)(r:Bool),KX (K++m) a b=some r->
  ∃R g,KX K (a.take K.length) (b.take K.length)=some R/\KX m (a.drop K.length) (b.drop K.length)=some g/\r=(R&&g)
 |[],m,a,b,r,h=>⟨true,r,by simp[KX],by simpa using h,by simp⟩
 |k::K,m,[],b,r,h=>by cases b<;>simp[KX]at h|k::K,m,a::as,[],r,h=>by simp[KX]at h|k::K,m,a::as,b::bs,r,h=>by
  simp only[aer,KX]at h;split at h;rename_i p q H l;cases h;obtain⟨R,g,E,j,rfl⟩:=IQ K m as bs q l;exact⟨p&&R,g,by simp[KX,H,E],by simpa using j,by simp[Bool.and_assoc]⟩;cases h
theorem IS:∀(K:List SK)(a b:List AV)(r:Bool),KX K a b=some r->a.length=K.length/\b.length=K.length
 |[],[],[],_,_=>⟨rfl,rfl⟩
 |[],[],_::_,_,h=>by simp[KX]at h|[],_::_,_,_,h=>by simp[KX]at h|_::_,[],_,_,h=>by simp[KX]at h|_::_,_::_,[],_,h=>by simp[KX]at h|k::K,a::as,b::bs,r,h=>by
  simp only[KX]at h;split at h;rename_i p q j l;obtain⟨E,g⟩:=IS K as bs q l;simp[E,g];cases h
theorem D2{fs:Array Field}{off:Nat}(h:P.underlying t=some (.struct fs))(g:dA P t n=true)(x:Array Value)(w:World) :
  (part t x off).run P w=.ok (.agg (x.extract off (off+n))) w:=by
 simp[part,isAgg,cn h,fL g]
theorem Gy{k:SK}{off:Nat}{v:Value}(j:tg P t k=true){x:Array Value}(l:x[off]?=some v)(w:World) :
  (part t x off).run P w=.ok v w:=by
 refine run_part_plain w ?_ l;unfold tg at j;unfold Program.plainKey;cases k<;>simp only at j<;>split at j<;>simp_all
theorem dg.take(h:dg w G as xs)(n:Nat):dg w G (as.take n) (xs.take n):=by
 refine⟨by simp[h.1],λi c v H p=>?_⟩;rw[aeq]at H p;split at H;rename_i hi;rw[af hi]at p;exact h.2 i c v H p;cases H
theorem dg.drop(h:dg w G as xs)(n:Nat):dg w G (as.drop n) (xs.drop n):=by
 refine⟨by simp[h.1],λi c v H p=>?_⟩;rw[agL]at H p;exact h.2 _ c v H p
def aoy(P:Program)(G:bD)(w:World)(D:Nat)(t:TypeId)(K:List SK):Prop:=
 (∃k,K=[k]/\tg P t k=true)\/
 (∃fs,P.underlying t=some (.struct fs))/\∀(x y:Array Value) (as bs:List AV) (r:Bool),dg w G as x.toList->dg w G bs y.toList->KX K as bs=some r->
  (Op.equalIn D t (.agg x) (.agg y)).run P w=.ok r w
theorem D3(D:Nat)(xs ys:Array Value)(as bs:List AV)(hx:dg w G as xs.toList)(hy:dg w G bs ys.toList)(rec:TypeId->Option (List SK))
  (aoz:∀t ks,rec t=some ks->aoy P G w (D+1) t ks):∀(fs:List Field) (off:Nat) (ks:List SK) (r:Bool),IL P rec off fs=some ks->KX ks (as.drop off) (bs.drop off)=some r->
  (Op.eqFields (D+1) xs ys fs).run P w=.ok r w
 |[],off,ks,r,h,he=>by
  simp only[IL,bw]at h;subst h;cases ha:as.drop off<;>cases hb:bs.drop off<;>rw[ha,hb]at he<;>simp[KX]at he;subst he;simp[Op.eqFields]
 |f::fs,off,ks,r,h,he=>by
  unfold IL at h;split at h;rename_i hc;simp only[Ee,aA,bne_iff_ne]at hc;split at h;rename_i kf hkf;split at h;rename_i qv;split at h;rename_i kr Po;cases h;obtain⟨r1,r2,e1,e2,rfl⟩:=IQ kf kr _ _ r he;have ih:=D3 D xs ys as bs hx hy rec aoz fs (off+kf.length) kr r2 Po (by simpa [agO] using e2);have hf : f.name ≠ "_" := hc.2
  have step:∃a b,(part f.type xs f.offset).run P w=.ok a w/\(part f.type ys f.offset).run P w=.ok b w/\(Op.equalIn (D+1) f.type a b).run P w=.ok r1 w:=by
   rw[hc.1];obtain⟨l1,l2⟩:=IS _ _ _ _ e1;rcases aoz _ _ hkf with⟨k,rfl,hk⟩|⟨⟨gs,hu⟩,lQ⟩;simp only[aeo,List.length_nil,Nat.zero_add]at e1 l1 l2;have ha:∃a,as[off]?=some a:=by
    cases h:as[off]? with
    |some a=>exact⟨a,rfl⟩|none=>rw[anX]at h;simp at l1;omega
   have hb:∃b,bs[off]?=some b:=by
    cases h:bs[off]? with
    |some a=>exact⟨a,rfl⟩|none=>rw[anX]at h;simp at l2;omega
   obtain⟨a,ha⟩:=ha;obtain⟨b,hb⟩:=hb;have Sw:off<xs.size:=(by have:=(aac.1 ha).1;have:=hx.1;simp at this;omega);have W3:off<ys.size:=(by have:=(aac.1 hb).1;have:=hy.1;simp at this;omega);have hxa:=hx.2 off a xs[off] ha (by simp[Sw]);have hyb:=hy.2 off b ys[off] hb (by simp[W3]);refine⟨xs[off],ys[off],Gy hk (by simp[Sw]) w,Gy hk (by simp[W3]) w,?_⟩;have:K5 k a b=some r1:=by
    have t1:(as.drop off).take 1=[a]:=by
     rw[adB (aac.1 ha).1,(aac.1 ha).2];simp
    have t2:(bs.drop off).take 1=[b]:=by
     rw[adB (aac.1 hb).1,(aac.1 hb).2];simp
    rw[t1,t2]at e1;simp only[KX]at e1;split at e1;rename_i p q hp hq;cases hq;simpa [hp] using e1;cases e1
   exact aeA hk this hxa hyb D w;refine⟨_,_,D2 hu qv xs w,D2 hu qv ys w,lQ _ _ _ _ _ ?_ ?_ e1⟩;have:=(hx.drop off).take kf.length;simpa [alo,List.extract] using this;have:=(hy.drop off).take kf.length;simpa [alo,List.extract] using this
  obtain⟨a,b,p1,p2,p3⟩:=step;simp only[Op.eqFields,hf,ne_eq,not_false_eq_true,bh,cj,p1,p2,p3,dy];cases r1;simp;simpa using ih;cases h;cases h;cases h;cases h
theorem Pp:∀(d D:Nat)(t:TypeId)(K:List SK),d<=D->IM P d t=some K->aoy P G w (D+1) t K
 |0,_,_,_,_,h=>by simp[IM]at h|d+1,D,t,K,m,h=>by
  unfold IM at h;split at h;cases h;exact .inl ⟨.bool,rfl,by unfold tg;simp[*]⟩;cases h;exact .inl ⟨.int,rfl,by unfold tg;simp[*]⟩;cases h;exact .inl ⟨.str,rfl,by unfold tg;simp[*]⟩;rename_i fs j;split at h;cases h;rename_i hs;refine .inr ⟨⟨fs,j⟩,λx y as bs r l k U=>?_⟩;have H:P.fieldsOf t=fs:=by simp[Program.fieldsOf,j]
  rw[run_equalIn_struct w D t x y (by rw[H];exact j) (by simpa using hs),H];obtain⟨g,rfl⟩:∃g,D=g+1:=⟨D-1,by omega⟩;exact D3 g x y as bs l k (IM P d) (λt K h=>Pp d g t K (by omega) h) fs.toList 0 K r h (by simpa using U);cases h
theorem W4(h:CG P t (.sc .bool)=true):P.underlying t=some .bool:=by
 simp only[CG]at h;split at h
 assumption
 cases h
theorem ZE(h:CG P t .ptr=true):∃e,P.underlying t=some (.pointer e):=by
 simp only[CG]at h;split at h;exact⟨_,by assumption⟩;cases h
theorem UK(h:CG P t .sl=true):∃e,P.underlying t=some (.slice e):=by
 simp only[CG]at h;split at h;exact⟨_,by assumption⟩;cases h
theorem aeB(h:CG P t .fn=true):∃a b c,P.underlying t=some (.func a b c):=by
 simp only[CG]at h;split at h;exact⟨_,_,_,by assumption⟩;cases h
def UL(x:Value):Prop:=(∀k n,x≠.int k n)/\(∀k n,x≠.float k n)/\(∀s,x≠.string s)/\(∀k r i,x≠.complex k r i)
theorem dH(t:TypeId)(h:x≠.nilIface)(H:∀C,x≠.agg C)(op:BinOp)(X Y:Operand)(w:World):(eqGuard op t X Y x y).run P w=.ok () w:=by
 cases op<;>cases x<;>simp_all [eqGuard]
theorem aeC{k:EqK}{a b:AV}(B:CG P t k=true)(h:MM k a b=some r)(H:bF w G a x)(g:bF w G b y) :
  (Op.equal t x y).run P w=.ok r w/\(∀op (X Y:Operand),(eqGuard op t X Y x y).run P w=.ok () w)/\UL x:=by
 unfold Op.equal Op.maxDepth;cases k with
 |sc k=>
  cases k with
  |bool=>
   simp only[MM]at h;have m:=W4 B;unfold K5 at h;split at h<;>try cases h
   rw[H.l6,g.l6];exact⟨run_equalIn_bool w 9999 t _ _ m,λop X Y=>dH t (by simp) (by simp) op X Y w,by simp,by simp,by simp,by simp⟩;all_goals simp_all
  |int=>simp[CG]at B|str=>simp[CG]at B
 |flat K=>
  unfold MM at h;split at h<;>try (cases h;done)
  all_goals try (rename_i heq;cases heq;done)
  rename_i W as bs heq;cases heq;cases H with
  |agg _ J Q R=>
   cases g with
   |agg _ M wQ S=>
    simp only[CG,Ee,Bool.not_eq_true']at B;obtain⟨⟨m,N⟩,O⟩:=B;have F:IM P 20 t=some K:=(by simpa using N);refine⟨?_,λop X Y=>run_eqGuard_agg w op t X Y J M O,by simp,by simp,by simp,by simp⟩;rcases Pp (w:=w) (G:=G) 20 9999 t K (by omega) F with⟨k,rfl,I⟩|⟨_,lQ⟩;exfalso;unfold tg at I;cases k<;>simp only at I<;>split at I<;>simp_all;exact lQ J M as bs r ⟨by simpa using Q,λi c v C E=>R i c v C (by simpa using E)⟩ ⟨by simpa using wQ,λi c v C E=>S i c v C (by simpa using E)⟩ h
 |ptr=>
  obtain⟨e,m⟩:=ZE B;have key:∀(p q:Option Addr) (r:Bool),(p=none/\r=q.isNone\/q=none/\r=p.isNone)->(Op.equalIn (9999+1) t (.pointer p) (.pointer q)).run P w=.ok r w:=by
   generalize 9999=D;intro p q r h;rcases h with⟨rfl,rfl⟩|⟨rfl,rfl⟩;cases q<;>simp[Op.equalIn,cn m];cases p<;>simp[Op.equalIn,cn m]
  have inv:∀{a x},bF w G a x->(a=.eP->x=.pointer none)/\(∀i v k l,a=.ptr i v k l->∃p,x=.pointer (some p))/\(∀i v k l,a=.tM i v k l->∃p,x=.pointer (some p)):=by
   intro a x h;refine⟨λe=>by subst e;cases h;rfl,λi v k l e=>by subst e;cases h with|ptr _ _ _ _ _ loc j=>exact j,λi v k l e=>by subst e;cases h;exact⟨_,rfl⟩⟩
  unfold MM at h;split at h<;>try (cases h;done)
  all_goals try (rename_i heq;cases heq;done)
  cases h;rw[(inv H).1 rfl,(inv g).1 rfl];exact⟨key _ _ _ (.inl ⟨rfl,rfl⟩),λop X Y=>dH t (by simp) (by simp) op X Y w,by simp,by simp,by simp,by simp⟩;cases h;obtain⟨p,j⟩:=(inv g).2.1 _ _ _ _ rfl;rw[(inv H).1 rfl,j];exact⟨key _ _ _ (.inl ⟨rfl,rfl⟩),λop X Y=>dH t (by simp) (by simp) op X Y w,by simp,by simp,by simp,by simp⟩;cases h;obtain⟨p,j⟩:=(inv g).2.2 _ _ _ _ rfl;rw[(inv H).1 rfl,j];exact⟨key _ _ _ (.inl ⟨rfl,rfl⟩),λop X Y=>dH t (by simp) (by simp) op X Y w,by simp,by simp,by simp,by simp⟩;cases h;obtain⟨p,j⟩:=(inv H).2.1 _ _ _ _ rfl;rw[(inv g).1 rfl,j];exact⟨key _ _ _ (.inr ⟨rfl,rfl⟩),λop X Y=>dH t (by simp) (by simp) op X Y w,by simp,by simp,by simp,by simp⟩;cases h;obtain⟨p,j⟩:=(inv H).2.2 _ _ _ _ rfl;rw[(inv g).1 rfl,j];exact⟨key _ _ _ (.inr ⟨rfl,rfl⟩),λop X Y=>dH t (by simp) (by simp) op X Y w,by simp,by simp,by simp,by simp⟩
 |sl=>
  obtain⟨e,m⟩:=UK B;have z:∀(q:Option Addr) (n c:Nat),(Op.equalIn (9999+1) t (.slice none 0 0) (.slice q n c)).run P w=.ok q.isNone w:=by
   generalize 9999=D;intro q n c;simp[Op.equalIn,cn m]
  have Z:∀(q:Option Addr) (n c:Nat),(Op.equalIn (9999+1) t (.slice q n c) (.slice none 0 0)).run P w=.ok q.isNone w:=by
   generalize 9999=D;intro q n c;cases q<;>simp[Op.equalIn,cn m]
  have inv:∀{a x},bF w G a x->(a=.aF->x=.slice none 0 0)/\(∀s r,a=.dV s r->∃p n c,x=.slice (some p) n c)/\(∀s r,a=.ju s r->∃p n c,x=.slice (some p) n c)/\(a=.oI->∃p n c,x=.slice (some p) n c):=by
   intro a x h;refine⟨λe=>by subst e;cases h;rfl,λs r e=>by subst e;cases h;exact⟨_,_,_,rfl⟩,λs r e=>by subst e;cases h;exact⟨_,_,_,rfl⟩,λe=>by subst e;cases h;exact⟨_,_,_,rfl⟩⟩
  unfold MM at h;split at h<;>try (cases h;done)
  all_goals try (rename_i heq;cases heq;done)
  cases h;rw[(inv H).1 rfl,(inv g).1 rfl];exact⟨z _ _ _,λop X Y=>dH t (by simp) (by simp) op X Y w,by simp,by simp,by simp,by simp⟩;cases h;obtain⟨p,n,c,j⟩:=(inv g).2.1 _ _ rfl;rw[(inv H).1 rfl,j];exact⟨z _ _ _,λop X Y=>dH t (by simp) (by simp) op X Y w,by simp,by simp,by simp,by simp⟩;cases h;obtain⟨p,n,c,j⟩:=(inv g).2.2.1 _ _ rfl;rw[(inv H).1 rfl,j];exact⟨z _ _ _,λop X Y=>dH t (by simp) (by simp) op X Y w,by simp,by simp,by simp,by simp⟩;cases h;obtain⟨p,n,c,j⟩:=(inv g).2.2.2 rfl;rw[(inv H).1 rfl,j];exact⟨z _ _ _,λop X Y=>dH t (by simp) (by simp) op X Y w,by simp,by simp,by simp,by simp⟩;cases h;obtain⟨p,n,c,j⟩:=(inv H).2.1 _ _ rfl;rw[(inv g).1 rfl,j];exact⟨Z _ _ _,λop X Y=>dH t (by simp) (by simp) op X Y w,by simp,by simp,by simp,by simp⟩;cases h;obtain⟨p,n,c,j⟩:=(inv H).2.2.1 _ _ rfl;rw[(inv g).1 rfl,j];exact⟨Z _ _ _,λop X Y=>dH t (by simp) (by simp) op X Y w,by simp,by simp,by simp,by simp⟩;cases h;obtain⟨p,n,c,j⟩:=(inv H).2.2.2 rfl;rw[(inv g).1 rfl,j];exact⟨Z _ _ _,λop X Y=>dH t (by simp) (by simp) op X Y w,by simp,by simp,by simp,by simp⟩
 |fn=>
  obtain⟨e1,e2,e3,m⟩:=aeB B;have T:∀D,(Op.equalIn (D+1) t .nilFunc .nilFunc).run P w=.ok true w:=λD=>by simp[Op.equalIn,cn m]
  have U:∀D f p q,(Op.equalIn (D+1) t .nilFunc (.func f p q)).run P w=.ok false w:=λD f p q=>by simp[Op.equalIn,cn m]
  have V:∀D f p q,(Op.equalIn (D+1) t (.func f p q) .nilFunc).run P w=.ok false w:=λD f p q=>by simp[Op.equalIn,cn m]
  have inv:∀{a x},bF w G a x->(a=.je->x=.nilFunc)/\(∀f b c,a=.fn f b c->∃p q,x=.func (.func f) p q):=by
   intro a x h;refine⟨λe=>by subst e;cases h;rfl,λs r c e=>by subst e;cases h;exact⟨_,_,rfl⟩⟩
  unfold MM at h;split at h<;>try (cases h;done)
  all_goals try (rename_i heq;cases heq;done)
  cases h;rw[(inv H).1 rfl,(inv g).1 rfl];exact⟨T 9999,λop X Y=>dH t (by simp) (by simp) op X Y w,by simp,by simp,by simp,by simp⟩;cases h;obtain⟨p,q,j⟩:=(inv g).2 _ _ _ rfl;rw[(inv H).1 rfl,j];exact⟨U 9999 _ _ _,λop X Y=>dH t (by simp) (by simp) op X Y w,by simp,by simp,by simp,by simp⟩;cases h;obtain⟨p,q,j⟩:=(inv H).2 _ _ _ rfl;rw[(inv g).1 rfl,j];exact⟨V 9999 _ _ _,λop X Y=>dH t (by simp) (by simp) op X Y w,by simp,by simp,by simp,by simp⟩
end Ax
namespace Ax
open Go
variable {P:Program}{w:World}{G:bD}{β:List qh}{ρ:Operand->Value}{o:Oper}
structure AN (w:World)(G:bD)(sz:Nat)(rows:List (List AV))(loc:nM):Prop where
 yT:cr sz rows=true
 HY:∀r∈rows,AV.bC r=true
 len:loc.len=rows.length
 size:loc.sz=sz
 xQ:loc.vals.length=rows.length
 yh:∀(i:Nat) r xs,rows[i]?=some r->loc.vals[i]?=some xs->dg w G r xs
 tT:(loc.cap=0/\rows=[]/\loc.a.isSome=true)\/∃b off c e,loc.a=some ⟨b,off,none⟩/\0<loc.cap/\w.heap[b]?=some (.cells c e (0,0))/\off+loc.cap*sz<=c.size/\rows.length<=loc.cap/\
  G.oY b=some 0/\∀(i:Nat) xs (j:Nat) x,loc.vals[i]?=some xs->xs[j]?=some x->w.cell? ⟨b,off+(i*sz+j),none⟩=some x
variable{rows:List (List AV)}{st:aj}{a:AV}{t:TypeId}{x y:Operand}{neg:Bool}
theorem AN.cell{s:Nat}{loc:nM}(h:AN w G s rows loc){b off:Nat}(l:∀(i:Nat) k (j:Nat) x,loc.vals[i]?=some k->k[j]?=some x->w.cell? ⟨b,off+(i*s+j),none⟩=some x) :
  ∀(i:Nat) r (j:Nat) x,rows[i]?=some r->r[j]?=some x->∃v,w.cell? ⟨b,off+(i*s+j),none⟩=some v/\bF w G x v:=by
 intro i r j x H g;have m:i<loc.vals.length:=by rw[h.xQ];exact(aac.1 H).1
 have p:=aas m;obtain⟨E,q⟩:=h.yh i r _ H p;have X:j<loc.vals[i].length:=by rw[<-E];exact(aac.1 g).1
 exact⟨_,l i _ j _ p (aas X),q j x _ g (aas X)⟩
def tU(w:World)(G:bD):dJ->nM->Prop
 |.rows C sz rows,loc=>loc.mp=false/\loc.cW=C/\AN w G sz rows loc|.map E,loc=>loc.mp=true/\loc.cap=1/\∃b z clock,loc.a=some ⟨b,0,none⟩/\w.heap[b]?=some (.map z clock)/\G.oY b=some 0/\z.size=E.length/\
   ∀(i:Nat) k v e,E[i]?=some (k,v)->z[i]?=some e->bF w G k e.key/\bF w G v e.val/\v.de=true/\k.de=true
structure lN (w:World)(G:bD)(st:aj):Prop where
 len:G.ls.length=st.length
 bO:∀(id:Nat) ob loc,st[id]?=some ob->G.ls[id]?=some loc->tU w G ob loc
 qi:∀b p,G.oY b=some p->b<w.heap.size
theorem lN.loc(h:lN w G st){id:Nat}{ob:dJ}(hs:st[id]?=some ob):∃loc,G.ls[id]?=some loc/\tU w G ob loc:=by
 have hi:id<st.length:=(aac.1 hs).1;have:id<G.ls.length:=by rw[h.len];exact hi
 exact⟨G.ls[id],aas this,h.bO id ob _ hs (aas this)⟩
theorem ZG(g:lN w G st){v:Value}(h:bF w G a v)(H:fA st a=some rows) :
  ∃p n c,v=.slice p n c/\n=rows.length:=by
 unfold fA at H;split at H;cases H;cases h;exact⟨_,_,_,rfl,rfl⟩;cases H;cases h;exact⟨_,_,_,rfl,rfl⟩;cases H;cases h;exact⟨_,_,_,rfl,rfl⟩;cases H;cases h;exact⟨_,_,_,rfl,rfl⟩;rename_i id m;split at H;rename_i V S F I;split at H;rename_i t;cases H;obtain⟨loc,k,z⟩:=g.loc I;cases h with
 |mu _ _ _ l s W C U=>
  rw[k]at W;cases W;obtain⟨q,r,j⟩:=z;refine⟨_,_,_,U (by omega),j.len⟩
 cases H;cases H;cases H
theorem aoA{op:BinOp}{Y:TypeId}(z:o.op=.binOp op t x y Y){b v:AV}(h:Hv op a b=some v)(m:bF w G a (ρ x))(n:bF w G b (ρ y)) :
  ∃u,(execOp ρ o).run P w=.ok (.value u) w/\bF w G v u/\v.de=true:=by
 unfold Hv at h;split at h
 ·rename_i k p l q;split at h
  ·rename_i D;subst D;have g:=m.iN;have j:=n.iN;simp only[execOp,z,g,j];have O:∀op (w:World),(eqGuard op t x y (.int k p) (.int k q)).run P w=.ok () w:=λop w=>dH t (by simp) (by simp) op x y w;cases op<;>simp only[nP]at h<;>(try (cases h;done))<;>(try (split at h;· cases h))<;>cases h;all_goals first
    |(refine⟨_,?_,.int _ _,rfl⟩;simp[binOp,Op.intArith,Op.intBits,O];done)
    |(refine⟨_,?_,.bool _,rfl⟩;simp[binOp,Op.intCmp,O];done)
    |(rename_i r;refine⟨_,?_,.int _ _,rfl⟩;simp[binOp,Op.intDiv,O,U r];done)
  cases h
 rename_i p q;obtain⟨s,g,rfl⟩:=m.p5;obtain⟨S,j,rfl⟩:=n.p5;simp only[execOp,z,g,j];have O:∀op (w:World),(eqGuard op t x y (.string s) (.string S)).run P w=.ok () w:=λop w=>dH t (by simp) (by simp) op x y w;have B:s.data.toList.length=s.size:=by simp
 have C:S.data.toList.length=S.size:=by simp
 split at h;split at h;rename_i H;cases h;refine⟨.string (s++S),?_,.str _ _ (by simp),rfl⟩;have:¬(((s.size+S.size:Nat):Int) > IntKind.i64.max):=by
  rw[B,C]at H;have:IntKind.i64.max=9223372036854775807:=rfl;omega
 simp only[binOp,Op.stringOp,cj,O,dy,U this,Sem.run_pure];cases h;cases h;exact⟨_,by simp[binOp,Op.stringOp,O,ByteArray.toList_eq],.bool _,rfl⟩;cases h;exact⟨_,by simp[binOp,Op.stringOp,O,ByteArray.toList_eq],.bool _,rfl⟩;cases h;cases h
theorem binOp_eql{x:Value}(h:UL x)(t:TypeId)(y:Value):binOp .eql t x y=(do pure (.bool (<-Op.equal t x y))):=by
 obtain⟨H,g,j,l⟩:=h;cases x<;>first|rfl|(cases y<;>first|rfl|simp_all)
theorem binOp_neq{x:Value}(h:UL x)(t:TypeId)(y:Value):binOp .neq t x y=(do pure (.bool (!(<-Op.equal t x y)))):=by
 obtain⟨H,g,j,l⟩:=h;cases x<;>first|rfl|(cases y<;>first|rfl|simp_all)
theorem aoB{Y:TypeId}{k:EqK}(z:o.op=.binOp (if neg then .neq else .eql) t x y Y)(X:CG P t k=true){b:AV}{r:Bool}(m:MM k a b=some r)
  (g:bF w G a (ρ x))(l:bF w G b (ρ y)):∃u,(execOp ρ o).run P w=.ok (.value u) w/\bF w G (.bool (if neg then !r else r)) u:=by
 obtain⟨h,H,j⟩:=aeC X m g l;refine⟨_,?_,.bool _⟩;simp only[execOp,z];cases neg;simp[H,binOp_eql j,h];simp[H,binOp_neq j,h]
theorem aeE{O:TypeId}(J:o.op=.binOp (if neg then .neq else .eql) t x y O)(K:CG P t .sl=true)(F:lN w G st){id C v sz:Nat}(N:st[id]?=some (.rows v sz rows))(S:v=C)
  (H:bF w G (.mu id C) (ρ x))(r:bF w G .aF (ρ y)):(execOp ρ o).run P w=.ok (.value (.bool neg)) w:=by
 obtain⟨loc,I,E⟩:=F.loc N;obtain⟨e,M⟩:=UK K;have s:ρ y=.slice none 0 0:=by
  generalize ρ y=z at r;cases r;rfl
 obtain⟨p,n,c,m⟩:∃p n c,ρ x=.slice (some p) n c:=by
  generalize ρ x=z at H;cases H with
  |mu _ _ _ B R W Q U=>
   rw[I]at W;cases W;obtain⟨g,k,j⟩:=E;have h:=U (by omega);rcases j.tT with⟨_,_,l⟩|⟨b,off,c,e,l,_⟩;obtain⟨a,H⟩:=Option.isSome_iff_exists.1 l;rw[H]at h;exact⟨_,_,_,h⟩;rw[l]at h;exact⟨_,_,_,h⟩
 have g:(Op.equal t (ρ x) (ρ y)).run P w=.ok false w:=by
  have Z:∀(q:Option Addr) (n c:Nat),(Op.equalIn (9999+1) t (.slice q n c) (.slice none 0 0)).run P w=.ok q.isNone w:=by
   generalize 9999=D;intro q n c;cases q<;>simp[Op.equalIn,cn M]
  rw[m,s];unfold Op.equal Op.maxDepth;exact Z (some p) n c
 have k:∀op (X Y:Operand),(eqGuard op t X Y (ρ x) (ρ y)).run P w=.ok () w:=by
  rw[m,s];exact λop X Y=>dH t (by simp) (by simp) op X Y w
 have j:UL (ρ x):=by
  rw[m];exact⟨by simp,by simp,by simp,by simp⟩
 simp only[execOp,J];cases neg;simp[k,binOp_eql j,g];simp[k,binOp_neq j,g]
theorem atU{op:UnOp}(z:o.op=.unOp op t x){v:AV}(h:unV op a=some v)(H:bF w G a (ρ x)) :
  ∃u,(execOp ρ o).run P w=.ok (.value u) w/\bF w G v u/\v.de=true:=by
 unfold unV at h;split at h;rename_i k p;split at h;cases h;refine⟨_,?_,.int _ _,rfl⟩;simp only[execOp,z,H.iN];simp[Op.unary,Op.intArith];cases h;rename_i b;split at h;cases h;refine⟨_,?_,.bool _,rfl⟩;simp only[execOp,z,H.l6];simp[Op.unary];cases h;cases h
theorem ajq{s d:TypeId}{k C:IntKind}(z:o.op=.convert s d x)(hs:P.underlying s=some (.int C))(m:P.underlying d=some (.int k)){l:IntKind}{n:Int}(H:bF w G (.int l n) (ρ x)) :
  (execOp ρ o).run P w=.ok (.value (.int k (k.wrap n))) w:=by
 simp only[execOp,z,H.iN];simp[convert,cn hs,cn m,Conv.intToInt]
theorem aoC{c:Call}(I:o.op=.call c)(D:c.callee=.builtin .len)(K:c.args.toList=[x])(X:c.argTypes[0]?=some t){k:LK}
  (H:match k with|.sl=>∃e,P.underlying t=some (.slice e)|.str=>P.underlying t=some .string|.mp=>∃k e,P.underlying t=some (.map k e))
   (r:lN w G st)  {n:Nat} (g:td st k a=some n) (l:bF w G a (ρ x)) :
  (execOp ρ o).run P w=.ok (.value (.int .i64 n)) w:=by
 have C:c.args = #[x]:=by
  have:=congrArg List.toArray K;simpa using this
 simp only[execOp,I,resolve,D,cj,Sem.run_pure,dy,invoke,builtin,C];simp only[Builtin.len_];unfold td at g;split at g;obtain⟨s',j,rfl⟩:=l.p5;cases g;simp[X,cn H,j,goInt];cases g;obtain⟨N,em,H⟩:=H;cases h:ρ x<;>rw[h]at l<;>cases l;simp[X,cn H,goInt,h];obtain⟨N,em,H⟩:=H;split at g;rename_i S M;cases g;obtain⟨loc,F,E⟩:=r.loc M;generalize v:ρ x=xv at l;cases l with
 |map _ s b W Z B=>
  rw[F]at W;cases W;obtain⟨T,U,Q,O,clock,q,y,V,z,Y⟩:=E;rw[B]at q;cases q;simp[X,cn H,v,goInt,getObj,Sem.run,y,z]
 cases g;obtain⟨e,H⟩:=H;split at g;rename_i rows J;cases g;obtain⟨p,m,R,j,rfl⟩:=ZG r l J;simp[X,cn H,j,goInt];cases g;cases g
end Ax
namespace Ax
open Go
theorem fF{g:Type}:∀(C:List g)(k:Nat)(vs:List g),(ay C k vs).length=C.length
 |[],0,[]=>rfl|[],0,_::_=>rfl|[],_+1,_=>rfl|_::_,0,[]=>rfl|_::C,0,_::vs=>by simp[ay,fF C 0 vs]|_::C,k+1,vs=>by simp[ay,fF C k vs]
theorem kW{g:Type}:∀(C:List g)(k:Nat)(vs:List g)(i:Nat),k+vs.length<=C.length->
  (ay C k vs)[i]?=if k<=i/\i<k+vs.length then vs[i-k]? else C[i]?
 |[],0,[],i,_=>by simp[ay]|[],0,_::_,i,h=>by simp at h|[],k+1,vs,i,h=>by simp at h|c::C,0,[],i,_=>by simp[ay]|c::C,0,v::vs,0,_=>by simp[ay]|c::C,0,v::vs,i+1,h=>by
  have:=kW C 0 vs i (by simp at h ⊢;omega);simp only[ay,aeV,this,aeo,Nat.zero_add,Nat.sub_zero,Nat.zero_le,true_and];by_cases H:i<vs.length;simp[H];simp[H]
 |c::C,k+1,vs,0,h=>by simp[ay]|c::C,k+1,vs,i+1,h=>by
  have:=kW C k vs i (by simp at h;omega);simp only[ay,aeV,this];by_cases H:k<=i/\i<k+vs.length;rw[af H,af (by omega),show i+1-(k+1)=i-k by omega];rw[U H,U (by omega)]
theorem l7{g:Type}(C:List g)(k:Nat)(vs:List g)(h:k+vs.length<=C.length):ay C k vs=C.take k++vs++C.drop (k+vs.length):=by
 apply aiJ;intro i;rw[kW C k vs i h];by_cases H:i<k;rw[U (by omega),acJ (by simp;omega),acJ (by simp;omega),aeq,af H];by_cases j:i<k+vs.length;rw[af (by omega),acJ (by simp;omega),acP (by simp;omega)];simp only[aiZ];rw[aoe (by omega)];rw[U (by omega),acP (by simp;omega)];simp only[List.length_append,aiZ,agL];rw[aoe (by omega)];congr 1;omega
theorem IT(b:Nat)(x:List Value):cP b [] x=0:=by cases x<;>rfl
theorem iB(b:Nat):∀(as bs:List AV)(xs y:List Value),as.length=xs.length->cP b (as++bs) (xs++y)=cP b as xs+cP b bs y
 |[],bs,[],y,_=>by simp[cP]|[],_,_::_,_,h=>by simp at h|_::_,_,[],_,h=>by simp at h|a::as,bs,x::xs,y,h=>by
  simp only[aer,cP];rw[iB b as bs xs y (by simpa using h)];omega
theorem nX(b n:Nat)(as:List AV)(x:List Value)(h:as.length=x.length):cP b as x=cP b (as.take n) (x.take n)+cP b (as.drop n) (x.drop n):=by
 rw[<-iB b _ _ _ _ (by simp[h]),aiL,aiL]
theorem BX(b n:Nat)(as:List AV)(xs:List Value)(h:as.length=xs.length):cP b (as.drop n) (xs.drop n)<=cP b as xs:=by
 have:=nX b n as xs h;omega
theorem W5(b n:Nat)(as:List AV)(x:List Value)(h:as.length=x.length):cP b (as.take n) (x.take n)<=cP b as x:=by
 have:=nX b n as x h;omega
theorem vI(b:Nat)(as vs:List AV)(x y:List Value)(k:Nat)(H:as.length=x.length)(g:vs.length=y.length)(h:k+vs.length<=as.length) :
  cP b (ay as k vs) (ay x k y)<=cP b as x+cP b vs y:=by
 rw[l7 _ _ _ h,l7 _ _ _ (by omega)];rw[iB b _ _ _ _ (by simp;omega),iB b _ _ _ _ (by simp;omega)];have E:=nX b k as x H;have q:=BX b vs.length (as.drop k) (x.drop k) (by simp;omega);rw[agO,agO]at q;rw[g]at *;omega
section
variable {w:World}{G:bD}
theorem dg.ay{as vs:List AV}{xs ys:List Value}(h:dg w G as xs)(k:dg w G vs ys){n:Nat}(l:n+vs.length<=as.length):dg w G (Ax.ay as n vs) (Ax.ay xs n ys):=by
 refine⟨by rw[fF,fF];exact h.1,λi c v H p=>?_⟩;have m:=h.1;have j:=k.1;rw[kW _ _ _ _ l]at H;rw[kW _ _ _ _ (by omega)]at p;rw[<-j]at p;split at H;rename_i g;rw[af g]at p;exact k.2 _ c v H p;rename_i g;rw[U g]at p;exact h.2 _ c v H p
theorem bF.cells{a:AV}{v:Value}(h:bF w G a v):dg w G a.cells v.cells.toList/\∀b,cP b a.cells v.cells.toList=iw b a v:=by
 have one:∀{a:AV} {v:Value},bF w G a v->(∀C,a≠.agg C)->(∀C,v≠.agg C)->dg w G a.cells v.cells.toList/\∀b,cP b a.cells v.cells.toList=iw b a v:=by
  intro a v h m r;have E:a.cells=[a]:=by cases a<;>first|rfl|exact au rfl (m _)
  have q:v.cells = #[v]:=by cases v<;>first|rfl|exact au rfl (r _)
  rw[E,q];refine⟨⟨rfl,λi c x H l=>?_⟩,λb=>by simp[cP]⟩;cases i with
  |zero=>simp at H l;subst H;subst l;exact h|succ i=>simp at H
 cases a with
 |agg C=>
  cases h with
  |agg _ vs s M=>exact⟨⟨by simpa [AV.cells,Value.cells] using s,λi c x H l=>M i c x H (by simpa [Value.cells] using l)⟩,λb=>by simp[AV.cells,Value.cells,iw]⟩
 |gone=>
  refine one h (by simp) λC e=>?_;subst e;cases h with|gone _ h=>simp[Value.oneCell']at h
 |mu id g=>
  refine one h (by simp) λC e=>?_;subst e;cases h with|mu _ _ _ _ j=>obtain⟨p,n,c,j⟩:=j;cases j
 |ptr id g i k=>
  refine one h (by simp) λC e=>?_;subst e;cases h with|ptr _ _ _ _ _ _ j=>obtain⟨p,j⟩:=j;cases j
 |undef=>refine one h (by simp) λC e=>?_;subst e;generalize l:Value.agg C=x at h;cases h;cases l|bool _|int _ _|str _|eP|aF|gu|je|lz|eY _|dV _ _|ju _ _|raw _ _|oI|tM _ _ _ _|map _|fn _ _ _=>
  refine one h (by simp) λC e=>?_;subst e;cases h
theorem ZH{a:AV}{v:Value}(h:bF w G a v)(H:a.cM=true):v.oneCell'=true:=by
 cases h with
 |agg _ _ _ _=>simp[AV.cM]at H|eY _ _ _ _=>simp[AV.cM]at H|undef=>simp[AV.cM]at H|gone _ h=>exact h|mu _ _ _ _ j=>obtain⟨p,n,c,rfl⟩:=j;rfl|ptr _ _ _ _ _ _ j=>obtain⟨p,rfl⟩:=j;rfl|_=>rfl
theorem dg.aeF{as:List AV}{x:List Value}(h:dg w G as x)(H:AV.bC as=true):∀v∈x,v.oneCell'=true:=by
 intro v p;obtain⟨i,g,rfl⟩:=aec.1 p;have j:i<as.length:=by have:=h.1;omega
 refine ZH (h.2 i as[i] x[i] (aas j) (aas g)) ?_;simp only[AV.bC,ac3]at H;exact H _ (List.getElem_mem j)
theorem dg.mono{as:List AV}{xs:List Value}{w':World}{G':bD}(h:dg w G as xs)(hs:wZ w G w' G')(z:∀b,0<cP b as xs->G'.oY b=G.oY b/\w'.heap[b]?=w.heap[b]?):dg w' G' as xs:=
 ⟨h.1,λi c v H p=>(h.2 i c v H p).kV hs λb l=>z b (by have:=AM b as xs i c v H p;omega)⟩
end
theorem Sz(off:Nat)(l:List Value)(C:Array Value)(h:off+l.length<=C.size) :
  (l.toArray.zipIdx.foldl (λC (c,j)=>C.setIfInBounds (off+j) c) C).toList=ay C.toList off l:=by
 have key:∀(l:List Value) (s:Nat) (C:Array Value),off+s+l.length<=C.size->
   ((l.zipIdx s).foldl (λ(C:Array Value) (x:Value×Nat)=>C.setIfInBounds (off+x.2) x.1) C).toList=ay C.toList (off+s) l:=by
  intro l;induction l with
  |nil=>intro s C h;simp;rw[l7 _ _ _ (by simpa using h)];simp|cons v l I=>
   intro s C h;simp only[aeo]at h;rw[List.zipIdx_cons,List.foldl_cons,I (s+1) _ (by simp;omega)];simp only[Array.toList_setIfInBounds];apply aiJ;intro i;rw[kW _ _ _ _ (by simp;omega),kW _ _ _ _ (by simp;omega)];simp only[aeo];by_cases g:i=off+s;subst g;rw[U (by omega),af (by omega),List.getElem?_set_self (by simp;omega)];simp;by_cases H:off+s<=i/\i<off+s+(l.length+1);rw[af (by omega),af H];have:i-(off+s)=(i-(off+(s+1)))+1:=by omega
   rw[this,aeV];rw[U (by omega),U H,List.getElem?_set,U (by omega)]
 have:=key l 0 C (by simpa using h);simp only[Nat.add_zero]at this;rw[<-this,<-Array.foldl_toList];simp
end Ax
