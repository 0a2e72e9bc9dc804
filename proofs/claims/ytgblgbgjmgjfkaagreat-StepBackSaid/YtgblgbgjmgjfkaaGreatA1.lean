/- Part of a proof. -/
import Derived.Calls
import Derived.Laws.Sem
import Derived.Laws.Entries
import Derived.ChangeKeysEq
import Derived.Laws.StructEq
import Derived.Laws.Pointers
import Derived.Great.FillDense

open List renaming length->Q
open Option renaming some->Z,none->K
open Bool renaming true->Y,false->X
open Decidable renaming decide->V
open List renaming replicate->aag,all_eq_true->aam,all_cons->ahd,getElem?_eq_some_iff->aad,mem_iff_getElem->aav,getElem?_eq_getElem->aae,cons_append->abb,getElem?_take->abv,getElem?_drop->afw,drop_drop->afC,length_cons->aaK,getElem?_eq_none_iff->amp,drop_eq_getElem_cons->aan,getElem?_cons_succ->afi,ext_getElem?->agi,getElem?_append_left->aaj,getElem?_append_right->aak,length_take->ahP,take_append_drop->agk
open Option renaming map_eq_some_iff->adM
open Nat renaming add_comm->ah0,min_eq_left->anz
open Bool renaming and_eq_true->E6,and_self->afH
open Array renaming toList_extract->aj5
universe u v
theorem U{c:Prop}{h:Decidable c}(n:¬c){g:Sort u}{t e:g}:ite c t e=e:=if_neg n
theorem af{c:Prop}{h:Decidable c}(n:c){g:Sort u}{t e:g}:ite c t e=t:=if_pos n
theorem bz{g:Sort u}{_:Decidable True}(t e:g):ite True t e=t:=if_true t e
theorem bC{g:Sort u}{_:Decidable False}(t e:g):ite False t e=e:=if_false t e
theorem aC{p:Prop}[Decidable p]:(decide p=Y)=p:=decide_eq_true_eq
theorem cH{p:Prop}[Decidable p](h:p):decide p=Y:=decide_eq_true h
theorem eX{p:Prop}[Decidable p](h:¬p):decide p=X:=decide_eq_false h
theorem bE{g:Type u}(a b:g):(Z a=Z b)=(a=b):=Option.some.injEq a b
theorem cR{g:Type u}{β:Type v}(a:g)(b:β)(c:g)(d:β):((a,b)=(c,d))=(a=c∧b=d):=Prod.mk.injEq a b c d
theorem bH{a b:Prop}(h:a)(n:¬a):b:=absurd h n
theorem ct:type_of% @Go.run_underlying:=@Go.run_underlying
theorem cq:type_of% @Go.Sem.run_bind:=@Go.Sem.run_bind
theorem dA:type_of% @Go.Result.andThen_ok:=@Go.Result.andThen_ok
theorem cJ{g:Type u}[BEq g][LawfulBEq g]{a b:g}:(a==b)=Y↔a=b:=beq_iff_eq
theorem ah{c:Prop}{h:Decidable c}(n:¬c:=by omega){g:Sort u}{t e:g}:ite c t e=e:=if_neg n
theorem dM{c:Prop}{h:Decidable c}(n:c:=by omega){g:Sort u}{t e:g}:ite c t e=t:=if_pos n
theorem au{a b:Prop}(h:a)(n:¬a:=by omega):b:=absurd h n
namespace Ax
open Go
inductive AV where
 |undef|gone
 |bool (b:Bool)|int (k:IntKind) (n:Int)|str (s:List UInt8)
 |ff|aF|gR|jx|me
 |agg (cs:List AV)|fC (vs:List AV)
 |eE (sz:Nat) (rows:List (List AV))
 |iY (sz:Nat) (rows:List (List AV))
 |raw (sz:Nat) (rows:List (List AV))
 |pP
 |mu (id di:Nat)
 |ptr (id di i k:Nat)
 |uL (sz:Nat) (rows:List (List AV)) (i k:Nat)
 |map (id:Nat)
 |fn (f:Nat) (first oM:List AV)
 deriving Inhabited
mutual
def AV.aH:AV->Bool
 |.mu _ _|.ptr _ _ _ _|.map _=>X|.agg C|.fC C=>AV.aD C|.fn _ a b=>AV.aD a&&AV.aD b|_=>Y
def AV.aD:List AV->Bool
 |[]=>Y|v::r=>v.aH&&AV.aD r
end
mutual
def AV.aj:AV->AV
 |.iY sz rows=>.eE sz rows|.raw _ _=>.gone|.agg C=>.agg (AV.cP C)|.fC C=>.fC (AV.cP C)|v=>v
def AV.cP:List AV->List AV
 |[]=>[]
 |v::r=>v.aj::AV.cP r
end
mutual
def AV.de:AV->AV->Bool
 |.undef,.undef|.gone,.gone|.ff,.ff|.aF,.aF|.gR,.gR|.jx,.jx|.me,.me|.pP,.pP=>Y|.bool a,.bool b=>a==b|.int k a,.int l b=>k==l&&a==b|.str a,.str b=>a==b|.agg a,.agg b|.fC a,.fC b=>AV.vk a b|.eE s a,.eE t b|.iY s a,.iY t b|.raw s a,.raw t b=>s==t&&AV.rM a b|.mu i v,.mu j w=>i==j&&v==w|.ptr a b c d,.ptr h B C D=>a==h&&b==B&&c==C&&d==D|.uL s a i k,.uL t b j l=>s==t&&AV.rM a b&&i==j&&k==l|.map i,.map j=>i==j|.fn f a b,.fn g c d=>f==g&&AV.vk a c&&AV.vk b d|_,_=>X
def AV.vk:List AV->List AV->Bool
 |[],[]=>Y|a::x,b::y=>a.de b&&AV.vk x y|_,_=>X
def AV.rM:List (List AV)->List (List AV)->Bool
 |[],[]=>Y|a::x,b::y=>AV.vk a b&&AV.rM x y|_,_=>X
end
def AV.cells:AV->List AV
 |.agg C=>C|v=>[v]
def AV.cT:AV->Bool
 |.agg _|.fC _|.undef=>X|_=>Y
def AV.bG(C:List AV):Bool:=C.all AV.cT
def AV.gK:AV->AV
 |.iY _ _=>.gone|.raw _ _=>.gone|v=>v
inductive kz where
 |none
 |val (v:AV)
 |fp (j k:Nat)
 deriving Inhabited
def kz.aj:kz->kz
 |.val v=>.val v.aj|e=>e
def kz.de:kz->kz->Bool
 |.none,.none=>Y|.val a,.val b=>a.de b|.fp j k,.fp l m=>j==l&&k==m|_,_=>X
def kz.ue(j:Nat):kz->Bool
 |.fp J _=>J != j|_=>Y
inductive iW where
 |rows (di sz:Nat) (rows:List (List AV))
 |map (es:List (AV×AV))
 deriving Inhabited
abbrev aO:=List iW
abbrev jM:=List (List AV)
inductive Src where
 |tmp (t:Nat) (mv:Bool)
 |const (a:AV)
 deriving Inhabited
abbrev xJ:=List (Nat×kz)
def eG:xJ->Nat->kz
 |[],_=>.none|(k,e)::r,t=>if k=t then e else eG r t
def BA:xJ->Nat->kz->xJ
 |[],t,e=>[(t,e)]
 |(k,x)::r,t,e=>if t<k then (t,e)::(k,x)::r else if t=k then (t,e)::r else (k,x)::BA r t e
def Ip:xJ->Nat->xJ
 |[],_=>[]
 |(k,x)::r,t=>if k=t then Ip r t else (k,x)::Ip r t
def P9(env:xJ):Src->kz
 |.tmp t Y=>eG env t|.tmp t X=>(eG env t).aj|.const a=>.val a
def qv:xJ->Src->xJ
 |env,.tmp t Y=>Ip env t|env,_=>env
structure St where
 env:xJ
 bx:jM
 st:aO
 deriving Inhabited
inductive Mode where
 |pure|nC|Bw
 deriving DecidableEq,Inhabited
inductive SK where
 |bool|int|str
 deriving DecidableEq,Inhabited
inductive LK where
 |str|sl|mp
 deriving DecidableEq,Inhabited
inductive EqK where
 |sc (k:SK)
 |ptr|sl|fn
 |flat (ks:List SK)
 deriving DecidableEq,Inhabited
inductive eu where
 |move
 |pick
 |bin (op:BinOp)
 |eqv (k:EqK) (neg:Bool)
 |aaB (neg:Bool)
 |un (op:UnOp)
 |conv (k:IntKind)
 |aaC
 |len (k:LK)
 |Gu (mx:Bool)
 |nilCheck
 |extract (i:Nat)
 |field (off n:Nat) (agg:Bool)
 |build (zero:List AV) (parts:List (Nat×Nat))
 |lit (sz n:Nat) (zero:List AV) (parts:List Nat)
 |Ts (sz n:Nat) (zero:List AV) (parts:List Nat)
 |fieldAddr (off:Nat)
 |indexAddr (sz:Nat)
 |index
 |slice (DK lo hi mx:Bool) (sz:Nat)
 |wC (sz:Nat)
 |load (agg:Bool) (n:Nat) (take:Bool)
 |yV (j:Nat) (agg:Bool) (n:Nat) (take:Bool)
 |store (n:Nat)
 |yz (j n:Nat)
 |alloc (zero:List AV)
 |yA (j:Nat) (zero:List AV)
 |box (n:Nat)
 |LP (j n:Nat)
 |append (sz bytes:Nat)
 |j8 (sz bytes:Nat)
 |zN (sz bytes:Nat) (zero:List AV) (mt:Bool)
 |EI (sz bytes:Nat) (zero:List AV)
 |xK (sz bytes:Nat) (zero:List AV)
 |afK
 |makeMap
 |mapUpdate (kk:SK)
 |lookup (kk:SK) (zero:AV) (ok:Bool)
 |makeFunc (f avz:Nat)
 |call (f:Nat)
 |xL
 |copy (sz:Nat)
 deriving Inhabited
structure eN where
 dst:Option Nat
 op:eu
 args:List Src
 guard:Option (Nat×Bool)
 deriving Inhabited
inductive aW where
 |skip
 |region (dZ:List eN) (draw:Option (List (Nat×Nat))) (uf:List Nat)
 |seq (a b:aW)
 |cond (c:Src) (aBO:List Nat) (thn:aW) (aBP:List Nat) (els:aW)
 |block (id:Nat) (body:aW)
 |loop (body:aW)
 |exit (id:Nat)
 |ret
 |frz (t:Nat)
 |Jv (j k:Nat)
 |rN (t off:Nat)
 deriving Inhabited
inductive qg where
 |tmp (t:Nat) (mv:Bool)
 |box (t j n:Nat) (agg:Bool)
 |cell (t:Nat) (n:Nat) (agg:Bool)
 deriving Inhabited
structure aQ where
 Te:Nat
 mode:Mode
 tP:Nat
 BB:Nat
 uf:List Nat
 results:List qg
 body:aW
 deriving Inhabited
inductive Ex where
 |normal
 |exit (id:Nat)
 |ret (v:AV)
 deriving Inhabited
structure sN where
 call:Nat->Nat->Nat->List AV->aO->Option (AV×aO)
 loop:Nat->Nat->List qg->aW->St->Option (Ex×St)
def dj:Nat:=140737488355328
def LQ:SK->AV->AV->Option Bool
 |.bool,.bool a,.bool b=>Z (a==b)|.int,.int k a,.int l b=>if k=l then Z (a==b) else K
 |.str,.str a,.str b=>Z (a==b)|_,_,_=>K
def LF:List SK->List AV->List AV->Option Bool
 |[],[],[]=>Z Y|k::g,a::as,b::bs=>match LQ k a b,LF g as bs with
  |some p,Z q=>Z (p&&q)|_,_=>K
 |_,_,_=>K
def NC:EqK->AV->AV->Option Bool
 |.sc k,a,b=>LQ k a b|.flat g,.agg a,.agg b=>LF g a b|.ptr,.ff,.ff=>Z Y|.ptr,.ff,.ptr _ _ _ _|.ptr,.ff,.uL _ _ _ _|.ptr,.ptr _ _ _ _,.ff|.ptr,.uL _ _ _ _,.ff=>Z X|.fn,.jx,.jx=>Z Y|.fn,.jx,.fn _ _ _|.fn,.fn _ _ _,.jx=>Z X|.sl,.aF,.aF=>Z Y|.sl,.aF,.eE _ _|.sl,.aF,.iY _ _|.sl,.aF,.pP|.sl,.eE _ _,.aF|.sl,.iY _ _,.aF|.sl,.pP,.aF=>Z X|_,_,_=>K
def oN(op:BinOp)(k:IntKind)(a b:Int):Option AV:=
 match op with
 |.add=>Z (.int k (k.wrap (a+b)))|.sub=>Z (.int k (k.wrap (a-b)))|.mul=>Z (.int k (k.wrap (a*b)))|.quo=>if b=0 then K else Z (.int k (k.wrap (a.tdiv b)))
 |.rem=>if b=0 then K else Z (.int k (a.tmod b))
 |.and=>Z (.int k (k.wrap ((BitVec.ofInt k.bits a &&& BitVec.ofInt k.bits b).toNat)))|.eql=>Z (.bool (a==b))|.neq=>Z (.bool (a != b))|.lss=>Z (.bool (V (a<b)))|.leq=>Z (.bool (V (a<=b)))|.gtr=>Z (.bool (V (a > b)))|.geq=>Z (.bool (V (a ≥ b)))|_=>K
def Iq(op:BinOp):AV->AV->Option AV
 |.int k a,.int l b=>if k=l then oN op k a b else K
 |.str a,.str b=>
  match op with
  |.add=>if Q a+Q b<=4611686018427387904 then Z (.str (a++b)) else K
  |.eql=>Z (.bool (a==b))|.neq=>Z (.bool (!(a==b)))|_=>K
 |_,_=>K
def unV(op:UnOp):AV->Option AV
 |.int k a=>match op with|.neg=>Z (.int k (k.wrap (0-a)))|_=>K
 |.bool b=>match op with|.not=>Z (.bool (!b))|_=>K
 |_=>K
def fO(st:aO):AV->Option (List (List AV))
 |.aF|.pP=>Z []|.eE _ rows|.iY _ rows=>Z rows|.mu id D=>match st[id]? with
  |some (.rows v _ rows)=>if v=D then Z rows else K
  |_=>K
 |_=>K
def qY(s:List UInt8):List (List AV):=s.map λb=>[.int .u8 b.toNat]
def dO(st:aO):AV->Option (List (List AV))
 |.str s=>Z (qY s)|.mu id D=>match fO st (.mu id D) with|some rows=>Z (rows.map AV.cP)|none=>K
 |v=>fO st v
def cy(sz:Nat)(rows:List (List AV)):Bool:=rows.all λr=>Q r==sz
def uh(st:aO):LK->AV->Option Nat
 |.str,.str s=>Z (Q s)|.mp,.gR=>Z 0|.mp,.map id=>match st[id]? with|some (.map E)=>Z (Q E)|_=>K
 |.sl,v=>match fO st v with|some rows=>Z (Q rows)|none=>K
 |_,_=>K
def cut(C:List AV)(k n:Nat):Option (List AV):=if k+n<=Q C then Z ((C.drop k).take n) else K
def gP(st:aO):AV->Nat->Option (List AV)
 |.ptr id D i k,n=>match st[id]? with
  |some (.rows v _ rows)=>if v=D then match rows[i]? with|some r=>cut r k n|none=>K else K
  |_=>K
 |.uL _ rows i k,n=>match rows[i]? with|some r=>cut r k n|none=>K
 |_,_=>K
def aB{g:Type}:List g->Nat->List g->List g
 |C,0,[]=>C|_::C,0,v::vs=>v::aB C 0 vs|c::C,k+1,vs=>c::aB C k vs|[],_,_=>[]
def bw(wl ai id:Nat)(cells:List AV):Bool:=V (wl<=id)&&(V (ai<=id)||AV.aD cells)
def gT(wl ai:Nat)(st:aO):AV->List AV->Option aO
 |.ptr id D i k,cells=>match st[id]? with
  |some (.rows v s rows)=>
   if v=D&&bw wl ai id cells then
    match rows[i]? with
    |some r=>if k+Q cells<=Q r then Z (st.set id (.rows v s (rows.set i (aB r k cells)))) else K
    |none=>K
   else K
  |_=>K
 |_,_=>K
def bO(agg:Bool)(cells:List AV):Option AV:=
 if agg then Z (.agg cells) else match cells with | [v]=>Z v|_=>K
def kV:List AV->List (Nat×Nat)->List AV->Option (List AV)
 |C,[],[]=>Z C|C,(off,n)::ps,v::vs=>
  if Q v.cells=n&&off+n<=Q C then kV (aB C off v.cells) ps vs else K
 |_,_,_=>K
def jc(s:Nat):List (List AV)->List Nat->List AV->Option (List (List AV))
 |rows,[],[]=>Z rows|rows,i::ps,v::vs=>if Q v.cells=s&&i<Q rows then jc s (rows.set i v.cells) ps vs else K
 |_,_,_=>K
def yW(kk:SK)(k:AV):List (AV×AV)->Option (Option AV)
 |[]=>Z K|(a,v)::r=>match LQ kk k a with|some Y=>Z (Z v)|some X=>yW kk k r|none=>K
def Jw(kk:SK)(k v:AV):List (AV×AV)->Option (List (AV×AV))
 |[]=>Z [(k,v)]|(a,u)::r=>match LQ kk k a with
  |some Y=>Z ((k,v)::r)|some X=>match Jw kk k v r with|some R=>Z ((a,u)::R)|none=>K
  |none=>K
def Mm:SK->AV->Bool
 |.int,.int _ _|.str,.str _|.bool,.bool _=>Y|_,_=>X
def lQ:List kz->Option (List AV)
 |[]=>Z []|.val v::r=>match lQ r with|some vs=>Z (v::vs)|none=>K
 |_::_=>K
def IT:List (List AV)->Option (List UInt8)
 |[]=>Z []|[.int .u8 n]::r=>if 0<=n/\n<256 then match IT r with|some l=>Z (UInt8.ofNat n.toNat::l)|none=>K else K
 |_=>K
def EJ(bY:Bool)(g:Int)(l:List kz):Option (Int×List kz):=
 if bY then match l with|.val (.int .i64 n)::r=>Z (n,r)|_=>K else Z (g,l)
def nG(D:Bool)(S:Nat)(x:AV)(l h:Int)(M:Option Int):Option AV:=
 match D,x with
 |true,.str s=>if M.isNone&&V (0<=l)&&V (l<=h)&&V (h<=Q s) then Z (.str ((s.take h.toNat).drop l.toNat)) else K
 |false,.aF=>if l=0&&h=0&&(match M with|some m=>m==0|none=>Y) then Z .aF else K
 |false,.pP=>if l=0&&h=0&&(match M with|some m=>m==0|none=>Y) then Z .pP else K
 |false,.eE s rows|false,.iY s rows=>
  match M with
  |none=>if s=S&&V (0<=l)&&V (l<=h)&&V (h<=Q rows) then Z (.eE S ((rows.take h.toNat).drop l.toNat)) else K
  |some m=>if l=0&&h=0&&m=0 then Z .pP else K
 |_,_=>K
def uN(wl ai sz bytes:Nat)(s:AV)(new:List (List AV))(st:aO)(B:jM):Option (kz×aO×jM):=
 if cy sz new then match s with
  |.aF=>if new.isEmpty then Z (.val .aF,st,B) else if Q new*bytes<=dj then Z (.val (.mu (Q st) 0),st++[.rows 0 sz new],B) else K
  |.pP=>if Q new*bytes<=dj then Z (.val (.mu (Q st) 0),st++[.rows 0 sz new],B) else K
  |.mu id D=>match st[id]? with
   |some (.rows v n kF)=>
    if v=D&&n=sz&&V ((Q kF+Q new)*bytes<=dj)&&V (wl<=id)&&(V (ai<=id)||new.all AV.aD) then
     Z (.val (.mu id (v+1)),st.set id (.rows (v+1) sz (kF++new)),B) else K
   |_=>K
  |_=>K else K
def bD(wl ai:Nat)(op:eu)(vals:List kz)(st:aO)(bx:jM):Option (kz×aO×jM):=
 match op with
 |.move=>match vals with
  |[e]=>Z (e,st,bx)|_=>K
 |.pick=>match vals with
  |[.val (.bool b),x,y]=>Z (if b then x else y,st,bx)|_=>K
 |.bin op=>match vals with
  |[.val x,.val y]=>match Iq op x y with|some v=>Z (.val v,st,bx)|none=>K
  |_=>K
 |.eqv k neg=>match vals with
  |[.val x,.val y]=>match NC k x y with|some b=>Z (.val (.bool (if neg then !b else b)),st,bx)|none=>K
  |_=>K
 |.aaB neg=>match vals with
  |[.val (.mu id D),.val .aF]=>match st[id]? with
   |some (.rows v _ _)=>if v=D then Z (.val (.bool neg),st,bx) else K
   |_=>K
  |_=>K
 |.un op=>match vals with
  |[.val x]=>match unV op x with|some v=>Z (.val v,st,bx)|none=>K
  |_=>K
 |.conv k=>match vals with
  |[.val (.int _ n)]=>Z (.val (.int k (k.wrap n)),st,bx)|_=>K
 |.aaC=>match vals with
  |[.val x]=>match fO st x with
   |some rows=>match IT rows with|some s=>Z (.val (.str s),st,bx)|none=>K
   |none=>K
  |_=>K
 |.len k=>match vals with
  |[.val x]=>match uh st k x with|some n=>Z (.val (.int .i64 n),st,bx)|none=>K
  |_=>K
 |.Gu M=>match vals with
  |[.val (.int k a),.val (.int l b)]=>
   if k=l then Z (.val (.int k (if M then (if b > a then b else a) else (if b<a then b else a))),st,bx) else K
  |_=>K
 |.nilCheck=>match vals with
  |[.fp j k]=>Z (.fp j k,st,bx)|[.val x]=>match x with
   |.ptr .. | .uL ..=>Z (.val x,st,bx)|_=>K
  |_=>K
 |.extract i=>match vals with
  |[.val (.fC vs)]=>match vs[i]? with|some v=>Z (.val v,st,bx)|none=>K
  |_=>K
 |.field off n agg=>match vals with
  |[.val (.agg C)]=>match cut C off n with
   |some r=>match bO agg r with|some v=>Z (.val v,st,bx)|none=>K
   |none=>K
  |_=>K
 |.build zero parts=>match vals with
  |l=>match lQ l with
   |some vs=>match kV zero parts vs with|some C=>Z (.val (.agg C),st,bx)|none=>K
   |none=>K
 |.lit sz n zero parts=>match vals with
  |l=>match lQ l with
   |some vs=>match jc sz (aag n zero) parts (AV.cP vs) with
    |some rows=>if rows.all AV.aD&&rows.all AV.bG then Z (.val (if n=0 then .pP else .eE sz rows),st,bx) else K
    |none=>K
   |none=>K
 |.Ts sz n zero parts=>match vals with
  |l=>match lQ l with
   |some vs=>match jc sz (aag n zero) parts vs with
    |some rows=>if rows.all AV.bG&&V (0<n) then Z (.val (.mu (Q st) 0),st++[.rows 0 sz rows],bx) else K
    |none=>K
   |none=>K
 |.fieldAddr off=>match vals with
  |[.fp j k]=>Z (.fp j (k+off),st,bx)|[.val (.ptr id D i k)]=>Z (.val (.ptr id D i (k+off)),st,bx)|[.val (.uL sz rows i k)]=>Z (.val (.uL sz rows i (k+off)),st,bx)|_=>K
 |.indexAddr sz=>match vals with
  |[.val x,.val (.int .i64 i)]=>match x with
   |.eE s rows|.iY s rows=>if s=sz&&V (0<=i)&&V (i<Q rows) then Z (.val (.uL sz rows i.toNat 0),st,bx) else K
   |.mu id D=>match st[id]? with
    |some (.rows v s rows)=>if v=D&&s=sz&&V (0<=i)&&V (i<Q rows) then Z (.val (.ptr id D i.toNat 0),st,bx) else K
    |_=>K
   |_=>K
  |_=>K
 |.index=>match vals with
  |[.val (.str s),.val (.int .i64 i)]=>
   if 0<=i then match s[i.toNat]? with|some b=>Z (.val (.int .u8 b.toNat),st,bx)|none=>K else K
  |_=>K
 |.slice DK lo hi M sz=>match vals with
  |.val x::l=>match uh st (if DK then .str else .sl) x with
   |none=>K|some n=>match EJ lo 0 l with
    |none=>K|some (a,l)=>match EJ hi n l with
     |none=>K|some (b,l)=>match M,l with
      |false,[]=>match nG DK sz x a b K with|some v=>Z (.val v,st,bx)|none=>K
      |true,[.val (.int .i64 m)]=>match nG DK sz x a b (Z m) with|some v=>Z (.val v,st,bx)|none=>K
      |_,_=>K
  |_=>K
 |.wC sz=>match vals with
  |[.val (.mu id D),.val (.int .i64 hi)]=>match st[id]? with
   |some (.rows v s rows)=>if v=D&&s=sz&&V (0<=hi)&&V (hi<=Q rows)&&V (wl<=id) then
     Z (.val (.mu id (v+1)),st.set id (.rows (v+1) s (rows.take hi.toNat)),bx) else K
   |_=>K
  |_=>K
 |.load agg n t=>match vals with
  |[.val p]=>match gP st p n with
   |some C=>
    if t then
     match gT wl ai st p (C.map AV.gK),bO agg C with
     |some st',Z v=>Z (.val v,st',bx)|_,_=>K
    else match bO agg (AV.cP C) with|some v=>Z (.val v,st,bx)|none=>K
   |none=>K
  |_=>K
 |.yV j agg n t=>match vals with
  |[.fp J k]=>if j=J then match bx[j]? with
    |some g=>match cut g k n with
     |some C=>
      if t then match bO agg C with|some v=>Z (.val v,st,bx.set j (aB g k (C.map AV.gK)))|none=>K
      else match bO agg (AV.cP C) with|some v=>Z (.val v,st,bx)|none=>K
     |none=>K
    |none=>K
   else K
  |_=>K
 |.store n=>match vals with
  |[.val p,.val v]=>if Q v.cells=n&&AV.bG v.cells then
    match gT wl ai st p v.cells with|some st'=>Z (.none,st',bx)|none=>K else K
  |_=>K
 |.yz j n=>match vals with
  |[.fp J k,.val v]=>if j=J&&(Q v.cells)=n&&AV.bG v.cells then match bx[j]? with
    |some g=>if k+n<=Q g then Z (.none,st,bx.set j (aB g k v.cells)) else K
    |none=>K
   else K
  |_=>K
 |.alloc zero=>match vals with
  |[]=>Z (.val (.ptr (Q st) 0 0 0),st++[.rows 0 (Q zero) [zero]],bx)|_=>K
 |.yA j zero=>match vals with
  |[]=>if j<Q bx then Z (.fp j 0,st,bx.set j zero) else K
  |_=>K
 |.box n=>match vals with
  |[.val v]=>if Q v.cells=n&&AV.bG v.cells then Z (.val (.ptr (Q st) 0 0 0),st++[.rows 0 n [v.cells]],bx) else K
  |_=>K
 |.LP j n=>match vals with
  |[.val v]=>if j<Q bx&&(Q v.cells)=n&&AV.bG v.cells then Z (.fp j 0,st,bx.set j v.cells) else K
  |_=>K
 |.append sz bytes=>match vals with
  |[.val s,.val x]=>match dO [] x with
   |none=>K|some new=>if cy sz new then match s with
    |.aF|.pP=>if new.isEmpty then Z (.val s,st,bx) else if Q new*bytes<=dj then Z (.val (.iY sz new),st,bx) else K
    |.iY N kF=>if N=sz&&V ((Q kF+Q new)*bytes<=dj) then Z (.val (.iY sz (kF++new)),st,bx) else K
    |_=>K else K
  |_=>K
 |.j8 sz bytes=>match vals with
  |[.val s,.val x]=>match dO st x with
   |none=>K|some new=>uN wl ai sz bytes s new st bx
  |_=>K
 |.zN sz bytes zero mt=>match vals with
  |[.val (.int .i64 n),.val (.int .i64 c)]=>
   if 0<=n/\n<=c/\c*bytes<=dj/\Q zero=sz then
    if mt then Z (.val (.mu (Q st) 0),st++[.rows 0 sz (aag n.toNat zero)],bx)
    else if AV.aD zero then Z (.val (.iY sz (aag n.toNat zero)),st,bx) else K
   else K
  |_=>K
 |.EI sz bytes zero=>match vals with
  |[.val (.int .i64 n),.val (.int .i64 c)]=>
   if 0<=n/\n<=c/\c*bytes<=dj/\Q zero=sz/\AV.aD zero=Y then Z (.val (.raw sz (aag n.toNat zero)),st,bx) else K
  |_=>K
 |.xK sz bytes zero=>match vals with
  |[.val s,.val (.int .i64 n)]=>
   if 0<=n/\n*bytes<=dj/\Q zero=sz/\AV.aD zero=Y then uN wl ai sz bytes s (aag n.toNat zero) st bx else K
  |_=>K
 |.afK=>match vals with
  |[.val .aF]=>Z (.val (.int .i64 0),st,bx)|_=>K
 |.makeMap=>match vals with
  |[]=>Z (.val (.map (Q st)),st++[.map []],bx)|_=>K
 |.mapUpdate kk=>match vals with
  |[.val (.map id),.val k,.val v]=>match st[id]? with
   |some (.map E)=>if Mm kk k&&bw wl ai id [v] then match Jw kk k v.aj E with|some B=>Z (.none,st.set id (.map B),bx)|none=>K else K
   |_=>K
  |_=>K
 |.lookup kk zero ok=>match vals with
  |[.val m,.val k]=>
   match (match m with|.gR=>Z []|.map id=>(match st[id]? with|some (.map E)=>Z E|_=>K)|_=>K) with
   |none=>K|some E=>if Mm kk k then match yW kk k E with
    |none=>K|some r=>let v:=r.getD zero
     Z (.val (if ok then .fC [v,.bool r.isSome] else v),st,bx)
    else K
  |_=>K
 |.makeFunc f n=>match vals with
  |l=>match lQ l with
   |some vs=>Z (.val (.fn f (AV.cP (vs.take n)) (AV.cP (vs.drop n))),st,bx)|none=>K
 |.copy sz=>match vals with
  |[.val (.mu id D),.val x]=>match st[id]?,dO st x with
   |some (.rows v N kF),Z new=>
    if v=D&&N=sz&&cy sz new&&V (Q new<=Q kF)&&V (wl<=id)&&(V (ai<=id)||new.all AV.aD) then
     Z (.val (.int .i64 (Q new)),st.set id (.rows v sz (new++kF.drop (Q new))),bx) else K
   |_,_=>K
  |_=>K
 |.call _|.xL=>K
def qw:eu->List kz->Option (Nat×List AV)
 |.call f,l=>match lQ l with
  |some vs=>Z (f,vs)|none=>K
 |.xL,.val (.fn f first O)::l=>match lQ l with
  |some vs=>Z (f,first++vs++O)|none=>K
 |_,_=>K
def iS(O:sN)(wl ai:Nat)(x:Option (Nat×List AV))(st:aO)(bx:jM):Option (kz×aO×jM):=
 match x with
 |some (f,vs)=>match O.call wl ai f vs st with|some (v,s)=>Z (.val v,s,bx)|none=>K
 |none=>K
def yB(O:sN)(wl ai:Nat)(op:eu)(vals:List kz)(st:aO)(bx:jM):Option (kz×aO×jM):=
 match op with
 |.call f=>iS O wl ai (qw (.call f) vals) st bx|.xL=>iS O wl ai (qw .xL vals) st bx|op=>bD wl ai op vals st bx
def eu.aX:eu->Option Nat
 |.yA j _|.LP j _=>Z j|_=>K
def Dt(env:xJ)(dst:Option Nat)(e:kz):xJ:=
 match dst with
 |some d=>BA env d e|none=>env
def qJ(env:xJ):Option (Nat×Bool)->Option Bool
 |none=>Z Y|some (t,b)=>match eG env t with
  |.val (.bool c)=>Z (c==b)|.val .undef=>Z X|_=>K
def fP(j:Nat)(env:xJ):Bool:=env.all λx=>x.2.ue j
def jS(O:sN)(wl ai:Nat)(o:eN)(s:St):Option St:=
 match qJ s.env o.guard with
 |none=>K|some X=>Z { s with env:=Dt s.env o.dst (.val .undef) }|some Y=>
  match yB O wl ai o.op (o.args.map (P9 s.env)) s.st s.bx with
  |none=>K|some (e,S,I)=>
   match o.op.aX with
   |none=>Z ⟨Dt (o.args.foldl qv s.env) o.dst e,I,S⟩|some j=>if fP j (Dt (o.args.foldl qv s.env) o.dst .none) then Z ⟨Dt (o.args.foldl qv s.env) o.dst e,I,S⟩ else K
def iE(O:sN)(wl ai:Nat):List eN->St->Option St
 |[],s=>Z s|o::l,s=>match jS O wl ai o s with|some S=>iE O wl ai l S|none=>K
def cY(O:sN)(wl ai:Nat):List eN->St->Option (St×List St)
 |[],s=>Z (s,[s])|o::l,s=>match jS O wl ai o s with
  |some S=>match cY O wl ai l S with|some (e,g)=>Z (e,s::g)|none=>K
  |none=>K
def cA(O:sN)(wl ai:Nat)(o:eN)(s t:St)(st:aO):Bool:=
 match qJ s.env o.guard with
 |none=>X|some X=>Y|some Y=>
  match yB O wl ai o.op (o.args.map (P9 s.env)) st s.bx with
  |some (e,_,_)=>(match o.dst with|some d=>(eG t.env d).de e|none=>X)
  |none=>X
def xSt(wl ai:Nat)(dZ:List eN)(mQ:List St)(p q:Nat):Option aO:=
 match dZ[p]?,mQ[p]?,dZ[q]?,mQ[q]? with
 |some a,Z s,Z b,Z t=>
  match a.op,a.args.map (P9 s.env),b.op,b.args.map (P9 t.env) with
  |.store _,[.val (.ptr i _ _ _),.val _],.store m,[.val (.ptr j v x y),.val u]=>
   if i=j then K else match bD wl ai (.store m) [.val (.ptr j v x y),.val u] s.st [] with
   |some (_,g,_)=>Z g|none=>K
  |_,_,_,_=>K
 |_,_,_,_=>K
def fh(O:sN)(wl ai:Nat)(dZ:List eN)(mQ:List St):Nat×Nat->Bool
 |(q,w)=>if q<100000 then match dZ[q]?,mQ[q]?,mQ[q+1]?,mQ[w]?,mQ[w+1]? with
   |some o,Z s,Z t,Z a,Z b=>cA O wl ai o s t a.st&&cA O wl ai o s t b.st|_,_,_,_,_=>X
  else match xSt wl ai dZ mQ (q % 100000) w with
   |none=>X|some g=>if q<200000 then Y else match dZ[q / 100000-2]?,mQ[q / 100000-2]?,mQ[q / 100000-2+1]? with
    |some o,Z s,Z t=>cA O wl ai o s t g|_,_,_=>X
def bP(env:xJ)(o:eN):Bool:=match o.op.aX with|some j=>fP j env|none=>Y
def jd(O:sN)(wl ai:Nat)(dZ:List eN)(C:List (Nat×Nat))(s:St):Option St:=
 match cY O wl ai dZ s with
 |none=>K|some (e,mQ)=>
  if C.all (fh O wl ai dZ mQ)&&dZ.all (bP s.env) then Z e else K
def lu:List Nat->xJ->xJ
 |[],env=>env|t::l,env=>lu l (Ip env t)
def wD(env:xJ)(c:Src):Option Bool:=
 match P9 env c with
 |.val (.bool b)=>Z b|_=>K
def nH(wl:Nat)(v:AV)(st:aO):Option (AV×aO):=
 match v with
 |.mu id D=>match st[id]? with
  |some (.rows v s rows)=>if v=D&&rows.all AV.aD && !rows.isEmpty&&V (wl<=id) then Z (.eE s (rows.map AV.cP),st.set id (.rows (v+1) s [])) else K
  |_=>K
 |v=>if v.aH&&v.cT then Z (v.aj,st) else K
def mg(wl:Nat):List AV->aO->Option (List AV×aO)
 |[],st=>Z ([],st)|v::l,st=>match nH wl v st with
  |some (h,s)=>match mg wl l s with
   |some (g,x)=>Z (h::g,x)|none=>K
  |none=>K
def kI(wl:Nat):List (List AV)->aO->Option (List (List AV)×aO)
 |[],st=>Z ([],st)|r::l,st=>match mg wl r st with
  |some (R,s)=>match kI wl l s with
   |some (g,x)=>Z (R::g,x)|none=>K
  |none=>K
def jN(wl:Nat)(v:AV)(st:aO):Option (AV×aO):=
 match v with
 |.mu id D=>match st[id]? with
  |some (.rows v S rows)=>if v=D && !rows.isEmpty&&V (wl<=id) then
    match kI wl rows (st.set id (.rows (v+1) S [])) with
    |some (g,s)=>Z (.eE S g,s)|none=>K
   else K
  |_=>K
 |.aF=>Z (.aF,st)|_=>K
def rO(wl:Nat)(v:AV)(st:aO):Option (AV×aO):=
 match v with
 |.raw s rows=>Z (.mu (Q st) 0,st++[.rows 0 s rows])|v=>jN wl v st
def Jx(s:St):qg->Option AV
 |.tmp t m=>match P9 s.env (.tmp t m) with|.val v=>Z v|_=>K
 |.box t j n agg=>match eG s.env t,s.bx[j]? with|.fp i 0,Z g=>if i=j&&(Q g)=n then bO agg g else K|_,_=>K
 |.cell t n agg=>match eG s.env t with
  |.val p=>match gP s.st p n with|some C=>bO agg (AV.cP C)|none=>K
  |_=>K
def Ea(s:St):List qg->Option (List AV)
 |[]=>Z []|r::l=>match Jx s r,Ea s l with
  |some v,Z vs=>Z (v::vs)|_,_=>K
def Du(s:St)(l:List qg):Option AV:=
 match Ea s l with
 |some [v]=>Z v|some vs=>Z (.fC vs)|none=>K
def kG(O:sN)(wl ai:Nat)(rs:List qg):aW->St->Option (Ex×St)
 |.skip,s=>Z (.normal,s)|.region dZ D U,s=>
  match (match D with|none=>iE O wl ai dZ s|some C=>jd O wl ai dZ C s) with
  |some g=>Z (.normal,{ g with env:=lu U g.env })|none=>K
 |.seq a b,s=>match kG O wl ai rs a s with
  |some (.normal,g)=>kG O wl ai rs b g|r=>r
 |.cond c n a p b,s=>match wD s.env c with
  |some Y=>kG O wl ai rs a { s with env:=lu n (qv s.env c) }|some X=>kG O wl ai rs b { s with env:=lu p (qv s.env c) }|none=>K
 |.block id c,s=>match kG O wl ai rs c s with
  |some (.exit I,g)=>if I=id then Z (.normal,g) else Z (.exit I,g)
  |r=>r
 |.loop c,s=>O.loop wl ai rs c s|.exit id,s=>Z (.exit id,s)|.ret,s=>match Du s rs with|some v=>Z (.ret v,⟨[],[],s.st⟩)|none=>K
 |.frz t,s=>match eG s.env t with
  |.val v=>match jN wl v s.st with
   |some (h,S)=>Z (.normal,⟨BA s.env t (.val h),s.bx,S⟩)|none=>K
  |_=>K
 |.Jv j k,s=>match s.bx[j]? with
  |some l=>match l[k]? with
   |some v=>match jN wl v s.st with
    |some (h,S)=>Z (.normal,⟨s.env,s.bx.set j (aB l k [h]),S⟩)|none=>K
   |none=>K
  |none=>K
 |.rN t off,s=>match eG s.env t with
  |.val (.ptr id m i k)=>match gP s.st (.ptr id m i (k+off)) 1 with
   |some [v]=>match rO wl v s.st with
    |some (h,S)=>match gT wl ai S (.ptr id m i (k+off)) [h] with
     |some qh=>Z (.normal,⟨s.env,s.bx,qh⟩)|none=>K
    |none=>K
   |_=>K
  |_=>K
def Mn:Nat->List AV->xJ
 |_,[]=>[]
 |k,v::r=>(k,.val v)::Mn (k+1) r
def Mode.BC:Mode->Nat->Nat->Nat
 |.pure,n,_=>n|_,_,wl=>wl
def Mode.uk:Mode->Nat->Nat->Nat
 |.Bw,_,ai=>ai|_,n,_=>n
def Mode.mJ(m:Mode)(st:aO)(v:AV)(s:aO):Option (AV×aO):=
 match m with
 |.pure=>if v.aH then Z (v,st) else K
 |.nC=>if v.aH then Z (v,s.take (Q st)) else K
 |.Bw=>Z (v,s)
def LR(rs:List qg):Ex->St->Option AV
 |.exit _,_=>K|.ret v,_=>Z v|.normal,s=>Du s rs
def vz(sf:aQ)(args:List AV)(st:aO):St:=⟨lu sf.uf (Mn 0 args),aag sf.BB [],st⟩
def eY(O:sN)(wl ai:Nat)(S:aQ)(args:List AV)(st:aO):Option (AV×aO):=
 if Q args=S.tP then
  match kG O (S.mode.BC (Q st) wl) (S.mode.uk (Q st) ai) S.results S.body (vz S args st) with
  |some (x,s)=>match LR S.results x s with
   |some v=>S.mode.mJ st v s.st|none=>K
  |none=>K
 else K
def A7(sf:aQ)(args:List AV):Bool:=V (sf.mode=.pure)&&AV.aD args
def gu(O:sN)(wl ai:Nat)(sf:aQ)(args:List AV)(st:aO):Option (AV×aO):=
 if A7 sf args then (eY O 0 0 sf args []).map λr=>(r.1,st) else eY O wl ai sf args st
def uP(S:Nat->Option aQ):Nat->sN
 |0=>⟨λ_ _ _ _ _=>K,λ_ _ _ _ _=>K⟩
 |n+1=>
  ⟨λwl ai f args st=>match S f with
   |some h=>gu (uP S n) wl ai h args st|none=>K,
   λwl ai rs c s=>match kG (uP S n) wl ai rs c s with
   |some (.normal,g)=>(uP S n).loop wl ai rs c g|r=>r⟩
def aaE(tbl ND:List (Option aQ))(n:Nat):Option aQ:=if n<100000 then (tbl[n]?).getD K else (ND[n-100000]?).getD K
structure sN.le (A B:sN):Prop where
 call:∀wl ai f args st r,A.call wl ai f args st=some r->B.call wl ai f args st=some r
 loop:∀wl ai rs c s r,A.loop wl ai rs c s=some r->B.loop wl ai rs c s=some r
theorem sN.le_refl(A:sN):A.le A:=⟨λ_ _ _ _ _ _ h=>h,λ_ _ _ _ _ _ h=>h⟩
theorem sN.le_trans{A B C:sN}(h:A.le B)(k:B.le C):A.le C:=
 ⟨λ_ _ _ _ _ _ x=>k.call _ _ _ _ _ _ (h.call _ _ _ _ _ _ x),λ_ _ _ _ _ _ x=>k.loop _ _ _ _ _ _ (h.loop _ _ _ _ _ _ x)⟩
structure Sup (o:Nat->sN)(L:sN):Prop where
 mono:∀n,(o n).le (o (n+1))
 call:∀wl ai f args st r,L.call wl ai f args st=some r->∃n,(o n).call wl ai f args st=some r
 loop:∀wl ai rs c s r,L.loop wl ai rs c s=some r->∃n,(o n).loop wl ai rs c s=some r
theorem Sup.le{o L}(h:Sup o L)(n k):(o n).le (o (n+k)):=by
 induction k with
 |zero=>exact sN.le_refl _|succ k I=>exact sN.le_trans I (h.mono (n+k))
theorem Qj(A B wl ai op vals st g)(h:∀f,op≠.call f)(H:op≠.xL):
  yB A wl ai op vals st g=yB B wl ai op vals st g:=by
 cases op<;>first|rfl|exact bH rfl (h _)|exact bH rfl H
theorem EK{A B}(W:A.le B){wl ai x st g r}(h:iS A wl ai x st g=Z r):iS B wl ai x st g=Z r:=by
 unfold iS at h ⊢;split at h;rename_i f vs;cases H:A.call wl ai f vs st with
 |none=>simp[H]at h|some x=>rw[H]at h;rw[W.call _ _ _ _ _ _ H];exact h
 cases h
theorem Qk{A B}(W:A.le B){wl ai op vals st g r}(h:yB A wl ai op vals st g=Z r):yB B wl ai op vals st g=Z r:=by
 by_cases H:∃f,op=.call f;obtain⟨f,rfl⟩:=H;exact EK W h;by_cases j:op=.xL;subst j;exact EK W h;rw[<-Qj A B wl ai op vals st g (λf e=>H ⟨f,e⟩) j];exact h
theorem xM{A B}(W:A.le B){wl ai o s r}(h:jS A wl ai o s=Z r):jS B wl ai o s=Z r:=by
 unfold jS at h ⊢;split at h;cases h;exact h;split at h;cases h;rename_i e S I H;rw[Qk W H];exact h
theorem zO{A B}(W:A.le B){wl ai}:∀{l:List eN}{s r:St},iE A wl ai l s=Z r->iE B wl ai l s=Z r
 |[],_,_,h=>h|o::l,s,r,h=>by
  unfold iE at h ⊢;split at h;rename_i S hs;rw[xM W hs];exact zO W h;cases h
theorem vA{A B}(W:A.le B){wl ai}:∀{l:List eN}{s:St} {r},cY A wl ai l s=Z r->cY B wl ai l s=Z r
 |[],_,_,h=>h|o::l,s,r,h=>by
  unfold cY at h ⊢;split at h;rename_i S hs;rw[xM W hs];split at h;rename_i e g H;simp only[vA W H];exact h;cases h;cases h
theorem oO{A B}(W:A.le B){wl ai o s t st}(h:cA A wl ai o s t st=Y):cA B wl ai o s t st=Y:=by
 unfold cA at h ⊢;split at h;cases h
 rfl
 split at h;rename_i e _ _ H;rw[Qk W H];exact h;cases h
theorem xN{A B}(W:A.le B){wl ai dZ mQ x}(h:fh A wl ai dZ mQ x=Y):fh B wl ai dZ mQ x=Y:=by
 obtain⟨q,w⟩:=x;unfold fh at h ⊢;by_cases H:q<100000;simp only[H,bz]at h ⊢;split at h;simp only[E6]at h ⊢;exact⟨oO W h.1,oO W h.2⟩;cases h;simp only[H,bC]at h ⊢;split at h;cases h;by_cases g:q<200000;simp only[g,bz];simp only[g,bC]at h ⊢;split at h;exact oO W h;cases h
theorem LU{A B}(W:A.le B){wl ai dZ C s r}(h:jd A wl ai dZ C s=Z r):jd B wl ai dZ C s=Z r:=by
 unfold jd at h ⊢;split at h;cases h;rename_i e mQ k;split at h;rename_i H;cases h;rw[vA W k];simp only[E6,aam]at H;have g:C.all (fh B wl ai dZ mQ)=Y:=by
  rw[aam];exact λx l=>xN W (H.1 x l)
 have j:dZ.all (bP s.env)=Y:=by
  rw[aam];exact H.2
 simp only[g,j,afH,bz];cases h
theorem oP{A B}(W:A.le B){wl ai rs}:∀{c:aW}{s:St} {r},kG A wl ai rs c s=Z r->kG B wl ai rs c s=Z r
 |.skip,_,_,h=>h|.region dZ D U,s,r,h=>by
  unfold kG at h ⊢;cases D with
  |none=>
   simp only at h ⊢;split at h;rename_i S hs;rw[zO W hs];exact h;cases h
  |some C=>
   simp only at h ⊢;split at h;rename_i S hs;rw[LU W hs];exact h;cases h
 |.seq a b,s,r,h=>by
  unfold kG at h ⊢;cases H:kG A wl ai rs a s with
  |none=>rw[H]at h;cases h|some x=>
   rw[H]at h;rw[oP W H];obtain⟨e,S⟩:=x;cases e with
   |normal=>exact oP W h|exit id=>exact h|ret v=>exact h
 |.cond c n a p b,s,r,h=>by
  unfold kG at h ⊢;split at h;exact oP W h;exact oP W h;cases h
 |.block id c,s,r,h=>by
  unfold kG at h ⊢;cases H:kG A wl ai rs c s with
  |none=>rw[H]at h;cases h|some x=>rw[H]at h;rw[oP W H];exact h
 |.loop c,s,r,h=>W.loop _ _ _ _ _ _ h|.exit id,s,r,h=>h|.ret,s,r,h=>h|.frz t,s,r,h=>h|.Jv j k,s,r,h=>h|.rN t off,s,r,h=>h
theorem BE{A B}(W:A.le B){wl ai S args st r}(h:eY A wl ai S args st=Z r):eY B wl ai S args st=Z r:=by
 unfold eY at h ⊢;split at h;rename_i H;rw[af H];cases hs:kG A (S.mode.BC (Q st) wl) (S.mode.uk (Q st) ai) S.results S.body (vz S args st) with
 |none=>rw[hs]at h;cases h|some x=>rw[hs]at h;rw[oP W hs];exact h
 cases h
theorem DL{A B}(W:A.le B){wl ai S args st r}(h:gu A wl ai S args st=Z r):gu B wl ai S args st=Z r:=by
 unfold gu at h ⊢;split at h;rename_i t;rw[af t];cases H:eY A 0 0 S args [] with
 |none=>rw[H]at h;cases h|some x=>rw[H]at h;rw[BE W H];exact h
 rename_i t;rw[U t];exact BE W h
theorem Jy(S):∀n,(uP S n).le (uP S (n+1))
 |0=>⟨λ_ _ _ _ _ _ h=>(nomatch h),λ_ _ _ _ _ _ h=>(nomatch h)⟩
 |n+1=>by
  have I:=Jy S n;constructor;intro wl ai f args st r h;show (match S f with|some j=>gu (uP S (n+1)) wl ai j args st|none=>K)=Z r;change (match S f with|some j=>gu (uP S n) wl ai j args st|none=>K)=Z r at h;cases H:S f with
  |none=>rw[H]at h;cases h|some j=>rw[H]at h;exact DL I h
  intro wl ai rs c s r h;show (match kG (uP S (n+1)) wl ai rs c s with|some (.normal,g)=>(uP S (n+1)).loop wl ai rs c g|r=>r)=Z r;change (match kG (uP S n) wl ai rs c s with|some (.normal,g)=>(uP S n).loop wl ai rs c g|r=>r)=Z r at h;cases hs:kG (uP S n) wl ai rs c s with
  |none=>rw[hs]at h;cases h|some x=>
   rw[hs]at h;rw[oP I hs];obtain⟨e,g⟩:=x;cases e with
   |normal=>exact I.loop _ _ _ _ _ _ h|exit id=>exact h|ret v=>exact h
open Classical in
noncomputable def bh (S:Nat->Option aQ):sN:=
 ⟨λwl ai f args st=>if h:∃n r,(uP S n).call wl ai f args st=Z r then Z h.choose_spec.choose else K,
  λwl ai rs c s=>if h:∃n r,(uP S n).loop wl ai rs c s=Z r then Z h.choose_spec.choose else K⟩
theorem Gw(S n k):(uP S n).le (uP S (n+k)):=by
 induction k with
 |zero=>exact sN.le_refl _|succ k I=>exact sN.le_trans I (Jy S (n+k))
theorem yX(S):Sup (uP S) (bh S) where
 mono:=Jy S
 call:=λwl ai f args st r h=>by
  unfold bh at h;simp only at h;split at h;rename_i l;cases h;exact⟨_,l.choose_spec.choose_spec⟩;cases h
 loop:=λwl ai rs c s r h=>by
  unfold bh at h;simp only at h;split at h;rename_i l;cases h;exact⟨_,l.choose_spec.choose_spec⟩;cases h
theorem vC(S n):(uP S n).le (bh S) where
 call:=λwl ai f args st r h=>by
  have l:∃n r,(uP S n).call wl ai f args st=Z r:=⟨n,r,h⟩;have:(bh S).call wl ai f args st=Z l.choose_spec.choose:=by unfold bh;simp only;rw[dif_pos l]
  have H:=l.choose_spec.choose_spec;have a:=(Gw S n l.choose).call _ _ _ _ _ _ h;have b:=(Gw S l.choose n).call _ _ _ _ _ _ H;rw[ah0]at b;exact this.trans (b.symm.trans a)
 loop:=λwl ai rs c s r h=>by
  have l:∃n r,(uP S n).loop wl ai rs c s=Z r:=⟨n,r,h⟩;have:(bh S).loop wl ai rs c s=Z l.choose_spec.choose:=by unfold bh;simp only;rw[dif_pos l]
  have H:=l.choose_spec.choose_spec;have a:=(Gw S n l.choose).loop _ _ _ _ _ _ h;have b:=(Gw S l.choose n).loop _ _ _ _ _ _ H;rw[ah0]at b;exact this.trans (b.symm.trans a)
section
variable {o:Nat->sN}{L:sN}(hs:Sup o L){wl ai:Nat}
include hs
theorem HB{x st B r}(h:iS L wl ai x st B=Z r):∃n,iS (o n) wl ai x st B=Z r:=by
 unfold iS at h;split at h;rename_i f vs;cases H:L.call wl ai f vs st with
 |none=>simp[H]at h|some x=>
  obtain⟨n,g⟩:=hs.call _ _ _ _ _ _ H;refine⟨n,?_⟩;rw[H]at h;unfold iS;simp only;rw[g];exact h
 cases h
theorem Vy{op vals st B r}(h:yB L wl ai op vals st B=Z r):∃n,yB (o n) wl ai op vals st B=Z r:=by
 by_cases H:∃f,op=.call f;obtain⟨f,rfl⟩:=H;exact HB hs h;by_cases g:op=.xL;subst g;exact HB hs h;exact⟨0,by rw[<-Qj L (o 0) wl ai op vals st B (λf e=>H ⟨f,e⟩) g];exact h⟩
theorem Jz{p s r}(h:jS L wl ai p s=Z r):∃n,jS (o n) wl ai p s=Z r:=by
 unfold jS at h;split at h;cases h;rename_i H;exact⟨0,by unfold jS;rw[H];exact h⟩;rename_i H;split at h;cases h;rename_i e S I g;obtain⟨n,j⟩:=Vy hs g;exact⟨n,by unfold jS;rw[H];simp only;rw[j];exact h⟩
theorem HC:∀{l:List eN}{s r:St},iE L wl ai l s=Z r->∃n,iE (o n) wl ai l s=Z r
 |[],_,_,h=>⟨0,h⟩
 |p::l,s,r,h=>by
  unfold iE at h;split at h;rename_i S j;obtain⟨n,g⟩:=Jz hs j;obtain⟨m,H⟩:=HC h;refine⟨n+m,?_⟩;unfold iE;rw[xM (hs.le n m) g];simp only;exact zO (by rw[ah0];exact hs.le m n) H;cases h
theorem HD:∀{l:List eN}{s:St} {r},cY L wl ai l s=Z r->∃n,cY (o n) wl ai l s=Z r
 |[],_,_,h=>⟨0,h⟩
 |p::l,s,r,h=>by
  unfold cY at h;split at h;rename_i S j;split at h;rename_i e q k;obtain⟨n,g⟩:=Jz hs j;obtain⟨m,H⟩:=HD k;refine⟨n+m,?_⟩;unfold cY;rw[xM (hs.le n m) g];simp only;rw[vA (by rw[ah0];exact hs.le m n) H];exact h;cases h;cases h
theorem yC{p s t st}(h:cA L wl ai p s t st=Y):∃n,cA (o n) wl ai p s t st=Y:=by
 unfold cA at h;split at h;cases h;rename_i H;exact⟨0,by unfold cA;rw[H]⟩;rename_i H;split at h;rename_i e a b g;obtain⟨n,j⟩:=Vy hs g;exact⟨n,by unfold cA;rw[H];simp only;rw[j];exact h⟩;cases h
theorem Tu{dZ mQ x}(h:fh L wl ai dZ mQ x=Y):∃n,fh (o n) wl ai dZ mQ x=Y:=by
 obtain⟨q,w⟩:=x;unfold fh at h ⊢;by_cases H:q<100000;simp only[H,bz]at h ⊢;split at h;simp only[E6]at h ⊢;obtain⟨n,k⟩:=yC hs h.1;obtain⟨m,j⟩:=yC hs h.2;exact⟨n+m,oO (hs.le n m) k,oO (by rw[ah0];exact hs.le m n) j⟩;cases h;simp only[H,bC]at h ⊢;split at h;cases h;by_cases g:q<200000;simp only[g,bz,exists_const];simp only[g,bC]at h ⊢;split at h;exact yC hs h;cases h
theorem Mo{dZ mQ}:∀{l:List _},l.all (fh L wl ai dZ mQ)=Y->∃n,l.all (fh (o n) wl ai dZ mQ)=Y
 |[],_=>⟨0,rfl⟩
 |x::l,h=>by
  simp only[ahd,E6]at h;obtain⟨n,g⟩:=Tu hs h.1;obtain⟨m,H⟩:=Mo h.2;refine⟨n+m,?_⟩;simp only[ahd,E6];refine⟨xN (hs.le n m) g,?_⟩;rw[aam]at H ⊢;exact λx j=>xN (by rw[ah0];exact hs.le m n) (H x j)
theorem NF{dZ C s r}(h:jd L wl ai dZ C s=Z r):∃n,jd (o n) wl ai dZ C s=Z r:=by
 unfold jd at h;split at h;cases h;rename_i e mQ k;split at h;rename_i H;cases h;simp only[E6]at H;obtain⟨n,j⟩:=HD hs k;obtain⟨m,g⟩:=Mo hs H.1;refine⟨n+m,?_⟩;unfold jd;rw[vA (hs.le n m) j];have:C.all (fh (o (n+m)) wl ai dZ mQ)=Y:=by
  rw[aam]at g ⊢;exact λx l=>xN (by rw[ah0];exact hs.le m n) (g x l)
 simp only[this,H.2,afH,bz];cases h
theorem zP{rs}:∀{c:aW}{s:St} {r},kG L wl ai rs c s=Z r->∃n,kG (o n) wl ai rs c s=Z r
 |.skip,_,_,h=>⟨0,h⟩
 |.region dZ D U,s,r,h=>by
  unfold kG at h;cases D with
  |none=>
   simp only at h;split at h;rename_i S p;obtain⟨n,g⟩:=HC hs p;exact⟨n,by unfold kG;simp only;rw[g];exact h⟩;cases h
  |some C=>
   simp only at h;split at h;rename_i S p;obtain⟨n,g⟩:=NF hs p;exact⟨n,by unfold kG;simp only;rw[g];exact h⟩;cases h
 |.seq a b,s,r,h=>by
  unfold kG at h;cases H:kG L wl ai rs a s with
  |none=>rw[H]at h;cases h|some x=>
   rw[H]at h;obtain⟨n,g⟩:=zP H;obtain⟨e,S⟩:=x;cases e with
   |normal=>
    obtain⟨m,q⟩:=zP h;refine⟨n+m,?_⟩;unfold kG;rw[oP (hs.le n m) g];exact oP (by rw[ah0];exact hs.le m n) q
   |exit id=>exact⟨n,by unfold kG;rw[g];exact h⟩|ret v=>exact⟨n,by unfold kG;rw[g];exact h⟩
 |.cond c y a z b,s,r,h=>by
  unfold kG at h;split at h;rename_i l;obtain⟨n,g⟩:=zP h;exact⟨n,by unfold kG;rw[l];exact g⟩;rename_i l;obtain⟨n,g⟩:=zP h;exact⟨n,by unfold kG;rw[l];exact g⟩;cases h
 |.block id c,s,r,h=>by
  unfold kG at h;cases H:kG L wl ai rs c s with
  |none=>rw[H]at h;cases h|some x=>
   rw[H]at h;obtain⟨n,g⟩:=zP H;exact⟨n,by unfold kG;rw[g];exact h⟩
 |.loop c,s,r,h=>hs.loop _ _ _ _ _ _ h|.exit id,s,r,h=>⟨0,h⟩
 |.ret,s,r,h=>⟨0,h⟩
 |.frz t,s,r,h=>⟨0,h⟩
 |.Jv j k,s,r,h=>⟨0,h⟩
 |.rN t off,s,r,h=>⟨0,h⟩
theorem DN{S args st r}(h:eY L wl ai S args st=Z r):∃n,eY (o n) wl ai S args st=Z r:=by
 unfold eY at h;split at h;rename_i H;cases l:kG L (S.mode.BC (Q st) wl) (S.mode.uk (Q st) ai) S.results S.body (vz S args st) with
 |none=>rw[l]at h;cases h|some x=>
  rw[l]at h;obtain⟨n,g⟩:=zP hs l;exact⟨n,by unfold eY;rw[af H,g];exact h⟩
 cases h
theorem NG{S args st r}(h:gu L wl ai S args st=Z r):∃n,gu (o n) wl ai S args st=Z r:=by
 unfold gu at h;split at h;rename_i t;cases H:eY L 0 0 S args [] with
 |none=>rw[H]at h;cases h|some x=>
  rw[H]at h;obtain⟨n,g⟩:=DN hs H;exact⟨n,by unfold gu;rw[af t,g];exact h⟩
 rename_i t;obtain⟨n,g⟩:=DN hs h;exact⟨n,by unfold gu;rw[U t];exact g⟩
end
theorem Vz{g:Type}{a b:Option g}(h:∀r,a=Z r↔b=Z r):a=b:=by
 cases a with
 |none=>cases b with
  |none=>rfl|some y=>exact bH ((h y).2 rfl) (by simp)
 |some x=>exact((h x).1 rfl).symm
theorem Gx(S wl ai f args st):
  (bh S).call wl ai f args st=match S f with
   |some sf=>gu (bh S) wl ai sf args st|none=>K:=by
 refine Vz λr=>⟨λh=>?_,λh=>?_⟩;obtain⟨n,g⟩:=(yX S).call _ _ _ _ _ _ h;cases n with
 |zero=>cases g|succ n=>
  change (match S f with|some sf=>gu (uP S n) wl ai sf args st|none=>K)=Z r at g;cases H:S f with
  |none=>rw[H]at g;cases g|some sf=>rw[H]at g;exact DL (vC S n) g
 cases H:S f with
 |none=>rw[H]at h;cases h|some sf=>
  rw[H]at h;obtain⟨n,g⟩:=NG (yX S) h;refine(vC S (n+1)).call _ _ _ _ _ _ ?_;show (match S f with|some sf=>gu (uP S n) wl ai sf args st|none=>K)=Z r;rw[H];exact g
theorem XY(S wl ai rs c s):
  (bh S).loop wl ai rs c s=match kG (bh S) wl ai rs c s with
   |some (.normal,j)=>(bh S).loop wl ai rs c j|r=>r:=by
 refine Vz λr=>⟨λh=>?_,λh=>?_⟩;obtain⟨n,g⟩:=(yX S).loop _ _ _ _ _ _ h;cases n with
 |zero=>cases g|succ n=>
  change (match kG (uP S n) wl ai rs c s with|some (.normal,j)=>(uP S n).loop wl ai rs c j|r=>r)=Z r at g;cases l:kG (uP S n) wl ai rs c s with
  |none=>rw[l]at g;cases g|some x=>
   rw[l]at g;rw[oP (vC S n) l];obtain⟨e,j⟩:=x;cases e with
   |normal=>exact(vC S n).loop _ _ _ _ _ _ g|exit id=>exact g|ret v=>exact g
 cases l:kG (bh S) wl ai rs c s with
 |none=>rw[l]at h;cases h|some x=>
  rw[l]at h;obtain⟨n,g⟩:=zP (yX S) l;obtain⟨e,j⟩:=x;have key:∀m,(uP S m).le (bh S):=vC S;cases e with
  |normal=>
   obtain⟨m,H⟩:=(yX S).loop _ _ _ _ _ _ h;refine(vC S (n+m+1)).loop _ _ _ _ _ _ ?_;show (match kG (uP S (n+m)) wl ai rs c s with|some (.normal,j)=>(uP S (n+m)).loop wl ai rs c j|r=>r)=Z r;rw[oP (Gw S n m) g];exact(by rw[ah0];exact Gw S m n:(uP S m).le (uP S (n+m))).loop _ _ _ _ _ _ H
  |exit id=>
   refine(vC S (n+1)).loop _ _ _ _ _ _ ?_;show (match kG (uP S n) wl ai rs c s with|some (.normal,j)=>(uP S n).loop wl ai rs c j|r=>r)=Z r;rw[g];exact h
  |ret v=>
   refine(vC S (n+1)).loop _ _ _ _ _ _ ?_;show (match kG (uP S n) wl ai rs c s with|some (.normal,j)=>(uP S n).loop wl ai rs c j|r=>r)=Z r;rw[g];exact h
end Ax
namespace Ax
theorem JA{O wl ai rs t off s S x}(h:kG O wl ai rs (.rN t off) s=Z (x,S)):
  x=.normal/\∃id D i k v g qS qh,eG s.env t=.val (.ptr id D i k)/\gP s.st (.ptr id D i (k+off)) 1=Z [v]/\rO wl v s.st=Z (g,qS)/\gT wl ai qS (.ptr id D i (k+off)) [g]=Z qh/\S=⟨s.env,s.bx,qh⟩:=by
 unfold kG at h;split at h;rename_i id D i k H;split at h;rename_i v j;split at h;rename_i g qS l;split at h;rename_i qh m;cases h;exact⟨rfl,id,D,i,k,v,g,qS,qh,H,j,l,m,rfl⟩;cases h;cases h;cases h;cases h
open Go
mutual
def AV.dw:AV->Bool
 |.iY _ _|.raw _ _=>X|.agg C|.fC C=>AV.fT C|_=>Y
def AV.fT:List AV->Bool
 |[]=>Y|v::r=>v.dw&&AV.fT r
end
structure yD where
 a:Option Addr
 cap:Nat
 len:Nat
 sz:Nat
 di:Nat
 mp:Bool
 vals:List (List Value)
def yD.hd(l:yD):Option Addr×Nat×Nat×Nat×Bool:=(l.a,l.cap,l.len,l.sz,l.mp)
structure bT where
 ls:List yD
 qi:Nat->Option Nat
def Imm(w:World)(G:bT)(b o:Nat):Prop:=b<w.heap.size/\∀p,G.qi b=Z p->o<p
inductive bJ (w:World) (G:bT):AV->Value->Prop
 |undef:bJ w G .undef Go.undef
 |gone (v:Value) (h:v.oneCell'=true):bJ w G .gone v
 |bool (b:Bool):bJ w G (.bool b) (.bool b)
 |int (k:IntKind) (n:Int):bJ w G (.int k n) (.int k n)
 |str (l:List UInt8) (s:ByteArray) (h:s.data.toList=l):bJ w G (.str l) (.string s)
 |ff:bJ w G .ff (.pointer none)
 |aF:bJ w G .aF (.slice none 0 0)
 |gR:bJ w G .gR (.map none)
 |jx:bJ w G .jx .nilFunc
 |me:bJ w G .me .nilIface
 |agg (cs:List AV) (vs:Array Value) (hl:cs.length=vs.size) (h:∀(i:Nat) c v,cs[i]?=some c->vs[i]?=some v->bJ w G c v):bJ w G (.agg cs) (.agg vs)
 |fC (cs:List AV) (vs:Array Value) (hl:cs.length=vs.size) (h:∀(i:Nat) c v,cs[i]?=some c->vs[i]?=some v->bJ w G c v):bJ w G (.fC cs) (.tuple vs)
 |eE (sz:Nat) (rows:List (List AV)) (a:Addr) (cap:Nat) (oQ:a.spot=none) (iK:rows.length<=cap) (cF:cy sz rows=true)
   (eC:∀r∈rows,AV.fT r=true) (tQ:∀r∈rows,AV.aD r=true) (DO:∀r∈rows,AV.bG r=true)
   (hc:∀(i:Nat) r (j:Nat) c,rows[i]?=some r->r[j]?=some c->Imm w G a.block (a.off+(i*sz+j))/\∃v,w.cell? ⟨a.block,a.off+(i*sz+j),none⟩=some v)
   (hr:∀(i:Nat) r (j:Nat) c v,rows[i]?=some r->r[j]?=some c->w.cell? ⟨a.block,a.off+(i*sz+j),none⟩=some v->bJ w G c v) :
   bJ w G (.eE sz rows) (.slice (some a) rows.length cap)
 |iY (sz:Nat) (rows:List (List AV)) (a:Addr) (cap:Nat) (oQ:a.spot=none) (iK:rows.length<=cap) (cF:cy sz rows=true)
   (eC:∀r∈rows,AV.fT r=true) (tQ:∀r∈rows,AV.aD r=true) (DO:∀r∈rows,AV.bG r=true)
   (hc:∀(i:Nat) r (j:Nat) c,rows[i]?=some r->r[j]?=some c->∃v,w.cell? ⟨a.block,a.off+(i*sz+j),none⟩=some v)
   (hr:∀(i:Nat) r (j:Nat) c v,rows[i]?=some r->r[j]?=some c->w.cell? ⟨a.block,a.off+(i*sz+j),none⟩=some v->bJ w G c v)
   (kJ:G.qi a.block=some (a.off+rows.length*sz))
   (je:∃c e,w.heap[a.block]?=some (.cells c e (0,0))/\a.off+cap*sz<=c.size) :
   bJ w G (.iY sz rows) (.slice (some a) rows.length cap)
 |raw (sz:Nat) (rows:List (List AV)) (a:Addr) (cap:Nat) (oQ:a.spot=none) (iK:rows.length<=cap) (cF:cy sz rows=true)
   (eC:∀r∈rows,AV.fT r=true) (tQ:∀r∈rows,AV.aD r=true) (DO:∀r∈rows,AV.bG r=true)
   (hc:∀(i:Nat) r (j:Nat) c,rows[i]?=some r->r[j]?=some c->∃v,w.cell? ⟨a.block,a.off+(i*sz+j),none⟩=some v)
   (hr:∀(i:Nat) r (j:Nat) c v,rows[i]?=some r->r[j]?=some c->w.cell? ⟨a.block,a.off+(i*sz+j),none⟩=some v->bJ w G c v)
   (kJ:G.qi a.block=some 0)
   (je:∃c e,w.heap[a.block]?=some (.cells c e (0,0))/\a.off+cap*sz<=c.size) :
   bJ w G (.raw sz rows) (.slice (some a) rows.length cap)
 |pP (a:Addr):bJ w G .pP (.slice (some a) 0 0)
 |mu (id di:Nat) (v:Value) (loc:yD) (hp:∃p n c,v=.slice p n c) (hl:G.ls[id]?=some loc) (hv:di<=loc.di) (he:di=loc.di->v=.slice loc.a loc.len loc.cap):bJ w G (.mu id di) v
 |ptr (id di i k:Nat) (v:Value) (loc:yD) (hp:∃a,v=.pointer (some a)) (hl:G.ls[id]?=some loc) (hv:di<=loc.di)
   (he:di=loc.di->∃a,loc.a=some a/\v=.pointer (some ⟨a.block,a.off+(i*loc.sz+k),none⟩)):bJ w G (.ptr id di i k) v
 |uL (sz:Nat) (rows:List (List AV)) (i k:Nat) (a:Addr) (cap:Nat) (hs:bJ w G (.eE sz rows) (.slice (some a) rows.length cap)) :
   bJ w G (.uL sz rows i k) (.pointer (some ⟨a.block,a.off+(i*sz+k),none⟩))
 |map (id:Nat) (loc:yD) (b:Nat) (hl:G.ls[id]?=some loc) (hm:loc.mp=true) (hb:loc.a=some ⟨b,0,none⟩):bJ w G (.map id) (.map (some b))
 |fn (f:Nat) (first oM:List AV) (vf vc:Array Value) (hl:first.length=vf.size) (hm:oM.length=vc.size)
   (hn:AV.fT first=true/\AV.fT oM=true/\f<100000)
   (h:∀(i:Nat) c v,first[i]?=some c->vf[i]?=some v->bJ w G c v) (k:∀(i:Nat) c v,oM[i]?=some c->vc[i]?=some v->bJ w G c v) :
   bJ w G (.fn f first oM) (.func (.func f) vf vc)
mutual
def iI(b:Nat):AV->Value->Nat
 |.iY _ _,.slice (Z a) _ _=>if a.block=b then 1 else 0
 |.raw _ _,.slice (Z a) _ _=>if a.block=b then 1 else 0
 |.agg C,.agg vs=>cV b C vs.toList|.fC C,.tuple vs=>cV b C vs.toList|_,_=>0
def cV(b:Nat):List AV->List Value->Nat
 |c::C,v::vs=>iI b c v+cV b C vs|_,_=>0
end
theorem BF(b):∀C vs (i:Nat) c v,C[i]?=Z c->vs[i]?=Z v->iI b c v<=cV b C vs
 |[],_,_,_,_,h,_=>by simp at h|_::_,[],_,_,_,_,h=>by simp at h|c::C,v::vs,0,g,j,h,k=>by
  simp at h k;subst h;subst k;simp only[cV];omega
 |c::C,v::vs,i+1,g,j,h,k=>by
  simp at h k;have:=BF b C vs i g j h k;simp only[cV];omega
mutual
theorem gW(b:Nat):∀(a:AV)(v:Value),a.dw=Y->iI b a v=0
 |.iY _ _,_,h=>by simp[AV.dw]at h|.raw _ _,_,h=>by simp[AV.dw]at h|.agg C,.agg vs,h=>by simp only[iI];exact fD b C vs.toList (by simpa [AV.dw] using h)|.fC C,.tuple vs,h=>by simp only[iI];exact fD b C vs.toList (by simpa [AV.dw] using h)
 |.undef,_,_|.gone,_,_|.bool _,_,_|.int _ _,_,_|.str _,_,_|.ff,_,_|.aF,_,_|.gR,_,_|.jx,_,_|.me,_,_
 |.eE _ _,_,_|.pP,_,_|.mu _ _,_,_|.ptr _ _ _ _,_,_|.uL _ _ _ _,_,_|.map _,_,_|.fn _ _ _,_,_=>by simp[iI]
 |.agg C,.bool _,_|.agg C,.int _ _,_|.agg C,.float _ _,_|.agg C,.complex _ _ _,_|.agg C,.string _,_|.agg C,.pointer _,_|.agg C,.slice _ _ _,_
 |.agg C,.map _,_|.agg C,.chan _,_|.agg C,.func _ _ _,_|.agg C,.nilFunc,_|.agg C,.iface _ _,_|.agg C,.nilIface,_|.agg C,.tuple _,_=>by simp[iI]
 |.fC C,.bool _,_|.fC C,.int _ _,_|.fC C,.float _ _,_|.fC C,.complex _ _ _,_|.fC C,.string _,_|.fC C,.pointer _,_|.fC C,.slice _ _ _,_
 |.fC C,.map _,_|.fC C,.chan _,_|.fC C,.func _ _ _,_|.fC C,.nilFunc,_|.fC C,.iface _ _,_|.fC C,.nilIface,_|.fC C,.agg _,_=>by simp[iI]
theorem fD(b:Nat):∀(C:List AV)(vs:List Value),AV.fT C=Y->cV b C vs=0
 |[],_,_=>by simp[cV]|_::_,[],_=>by simp[cV]|c::C,v::vs,h=>by
  simp[AV.fT]at h;simp only[cV,gW b c v h.1,fD b C vs h.2]
end
mutual
theorem zQ:∀a:AV,a.aj.dw=Y
 |.iY _ _=>by simp[AV.aj,AV.dw]|.raw _ _=>by simp[AV.aj,AV.dw]|.agg C=>by simp only[AV.aj,AV.dw];exact jr C|.fC C=>by simp only[AV.aj,AV.dw];exact jr C|.undef|.gone|.bool _|.int _ _|.str _|.ff|.aF|.gR|.jx|.me|.eE _ _|.pP|.mu _ _|.ptr _ _ _ _|.uL _ _ _ _|.map _|.fn _ _ _=>by simp[AV.aj,AV.dw]
theorem jr:∀C:List AV,AV.fT (AV.cP C)=Y
 |[]=>rfl|c::C=>by simp only[AV.cP,AV.fT,zQ c,jr C,afH]
end
theorem CJ:∀C (i:Nat),(AV.cP C)[i]?=(C[i]?).map AV.aj
 |[],i=>by simp[AV.cP]|c::C,0=>by simp[AV.cP]|c::C,i+1=>by simp[AV.cP,CJ C i]
theorem rP:∀C,Q (AV.cP C)=Q C
 |[]=>rfl|c::C=>by simp[AV.cP,rP C]
theorem dG:∀C,AV.fT C=Y↔∀c∈C,c.dw=Y
 |[]=>by simp[AV.fT]|c::C=>by simp[AV.fT,dG C]
theorem js:∀C,AV.aD C=Y↔∀c∈C,c.aH=Y
 |[]=>by simp[AV.aD]|c::C=>by simp[AV.aD,js C]
theorem eL{g:Type}{l:List g}{i:Nat}{x}(h:l[i]?=Z x):x∈l:=List.mem_of_getElem? h
structure xO (w:World)(G:bT)(w':World)(G':bT):Prop where
 imm:∀b o,Imm w G b o->w'.cell? ⟨b,o,none⟩=w.cell? ⟨b,o,none⟩/\Imm w' G' b o
 gm:∀(id:Nat) loc,G.ls[id]?=some loc->∃loc',G'.ls[id]?=some loc'/\loc.di<=loc'.di/\(loc.di=loc'.di\/loc.mp=true->loc'.hd=loc.hd)
theorem xO.refl(w G):xO w G w G:=⟨λ_ _ h=>⟨rfl,h⟩,λ_ loc h=>⟨loc,h,Nat.le_refl _,λ_=>rfl⟩⟩
theorem xO.trans{w G w' m W g}(h:xO w G w' m)(k:xO w' m W g):xO w G W g where
 imm:=λb o hi=>by
  obtain⟨j,a2⟩:=h.imm b o hi;obtain⟨b1,B⟩:=k.imm b o a2;exact⟨b1.trans j,B⟩
 gm:=λid loc hl=>by
  obtain⟨l,j,a2,n⟩:=h.gm id loc hl;obtain⟨q,b1,B,p⟩:=k.gm id l j;refine⟨q,b1,by omega,λe=>?_⟩;rcases e with e|e;have E:loc.di=l.di:=by omega
  have r:l.di=q.di:=by omega
  rw[p (.inl r),n (.inl E)];have H:=n (.inr e);have s:l.mp=loc.mp:=congrArg (·.2.2.2.2) H;exact(p (.inr (s.trans e))).trans H
theorem bJ.lY{w G w' W a v}(h:bJ w G a v)(hs:xO w G w' W):
  (∀b,0<iI b a v->W.qi b=G.qi b/\w'.heap[b]?=w.heap[b]?)->bJ w' W a v:=by
 induction h with
 |undef=>exact λ_=>.undef|gone v h=>exact λ_=>.gone v h|bool b=>exact λ_=>.bool b|int k n=>exact λ_=>.int k n|str l s h=>exact λ_=>.str l s h|ff=>exact λ_=>.ff|aF=>exact λ_=>.aF|gR=>exact λ_=>.gR|jx=>exact λ_=>.jx|me=>exact λ_=>.me|agg J vs t h I=>
  intro z;refine .agg J vs t λi c v q p=>I i c v q p λb m=>z b ?_;have:=BF b J vs.toList i c v q (by simpa using p);simp only[iI];omega
 |fC J vs t h I=>
  intro z;refine .fC J vs t λi c v q p=>I i c v q p λb m=>z b ?_;have:=BF b J vs.toList i c v q (by simpa using p);simp only[iI];omega
 |eE sz rows a cap R O F x T D q hr I=>
  intro _;refine .eE sz rows a cap R O F x T D (λi r j c H g=>?_) (λi r j c v H g y=>?_);obtain⟨hi,v,p⟩:=q i r j c H g;obtain⟨e,lG⟩:=hs.imm _ _ hi;exact⟨lG,v,e.trans p⟩;obtain⟨hi,v',Dw⟩:=q i r j c H g;obtain⟨e,lG⟩:=hs.imm _ _ hi;rw[e]at y;refine I i r j c v H g y λb m=>?_;rw[gW b c v ((dG r).1 (x r (eL H)) c (eL g))]at m;omega
 |iY sz rows a cap R O F x T D q hr kJ je I=>
  intro z;obtain⟨ht,N⟩:=z a.block (by simp[iI]);have S:∀o,w'.cell? ⟨a.block,o,K⟩=w.cell? ⟨a.block,o,K⟩:=λo=>by simp[World.cell?,N]
  refine .iY sz rows a cap R O F x T D (λi r j c H g=>?_) (λi r j c v H g y=>?_) (ht.trans kJ) ?_;obtain⟨v,p⟩:=q i r j c H g;exact⟨v,(S _).trans p⟩;rw[S]at y;refine I i r j c v H g y λb m=>?_;rw[gW b c v ((dG r).1 (x r (eL H)) c (eL g))]at m;omega;obtain⟨c,e,H,g⟩:=je;exact⟨c,e,N.trans H,g⟩
 |raw sz rows a cap R O F x T D q hr kJ je I=>
  intro z;obtain⟨ht,N⟩:=z a.block (by simp[iI]);have S:∀o,w'.cell? ⟨a.block,o,K⟩=w.cell? ⟨a.block,o,K⟩:=λo=>by simp[World.cell?,N]
  refine .raw sz rows a cap R O F x T D (λi r j c H g=>?_) (λi r j c v H g y=>?_) (ht.trans kJ) ?_;obtain⟨v,p⟩:=q i r j c H g;exact⟨v,(S _).trans p⟩;rw[S]at y;refine I i r j c v H g y λb m=>?_;rw[gW b c v ((dG r).1 (x r (eL H)) c (eL g))]at m;omega;obtain⟨c,e,H,g⟩:=je;exact⟨c,e,N.trans H,g⟩
 |pP a=>exact λ_=>.pP a|mu id M v loc hp t p he=>
  intro _;obtain⟨loc',B,a2,C⟩:=hs.gm id loc t;refine .mu id M v loc' hp B (by omega) λe=>?_;have e1:M=loc.di:=by omega
  have E:=C (.inl (by omega));rw[show loc'.a=loc.a from congrArg (·.1) E,show loc'.len=loc.len from congrArg (·.2.2.1) E,show loc'.cap=loc.cap from congrArg (·.2.1) E];exact he e1
 |ptr id M i k v loc hp t p he=>
  intro _;obtain⟨loc',B,a2,C⟩:=hs.gm id loc t;refine .ptr id M i k v loc' hp B (by omega) λe=>?_;have e1:M=loc.di:=by omega
  have E:=C (.inl (by omega));rw[show loc'.a=loc.a from congrArg (·.1) E,show loc'.sz=loc.sz from congrArg (·.2.2.2.1) E];exact he e1
 |uL sz rows i k a cap t I=>exact λ_=>.uL sz rows i k a cap (I λb m=>by simp[iI]at m)|map id loc b t U m=>
  intro _;obtain⟨loc',B,a2,C⟩:=hs.gm id loc t;have E:=C (.inr U);exact .map id loc' b B ((congrArg (·.2.2.2.2) E:loc'.mp=loc.mp).trans U) ((congrArg (·.1) E:loc'.a=loc.a).trans m)
 |fn f first oM vf vc t U hn h k I ik=>
  intro _;refine .fn f first oM vf vc t U hn (λi c v H g=>I i c v H g λb m=>?_) (λi c v H g=>ik i c v H g λb m=>?_)
  rw[gW b c v ((dG first).1 hn.1 c (eL H))]at m;omega;rw[gW b c v ((dG oM).1 hn.2.1 c (eL H))]at m;omega
def CL:Nat->Value->Option AV
 |0,_=>K|d+1,v=>match v with
  |.bool b=>Z (.bool b)|.int k n=>Z (.int k n)|.string s=>Z (.str s.data.toList)|.pointer K=>Z .ff|.slice K 0 0=>Z .aF|.map K=>Z .gR|.nilFunc=>Z .jx|.nilIface=>Z .me|.agg C=>match C.toList.mapM (CL d) with|some l=>Z (.agg l)|none=>K
  |_=>K
def CM(v:Value)(a:AV):Bool:=match CL 3 v with|some b=>b.de a|none=>X
def wh:List Value->List AV->Bool
 |[],[]=>Y|v::vs,a::as=>CM v a&&wh vs as|_,_=>X
def Tv:Operand->Src->Bool
 |.tmp t,.tmp u _=>t==u|.const v,.const a=>CM v a|.func f,.const (.fn g [] [])=>f==g&&V (f<100000)|_,_=>X
def jf:List Operand->List Src->Bool
 |[],[]=>Y|x::xs,s::S=>Tv x s&&jf xs S|_,_=>X
def rQ(P:Program)(t:TypeId):Option Bool:=match P.underlying t with
 |some (.struct _)|some (.array _ _)=>Z Y|some _=>Z X|none=>K
def dD(P:Program)(t:TypeId)(n:Nat):Bool:=match P.info? t with|some i=>i.size==n|none=>X
def tR(P:Program)(t:TypeId)(n:Nat):Bool:=match P.info? t with|some i=>i.bytes==n|none=>X
def JB(P:Program)(rec:TypeId->Option (List SK)):Nat->List Field->Option (List SK)
 |_,[]=>some []|off,f::fs=>
  if f.offset = off && f.name != "_" then
   match rec f.type with
   |some ks=>if dD P f.type ks.length then (match JB P rec (off+ks.length) fs with|some r=>some (ks++r)|none=>none) else none
   |none=>none
  else none
def JC(P:Program):Nat->TypeId->Option (List SK)
 |0,_=>K|d+1,t=>match P.underlying t with
  |some .bool=>Z [.bool]|some (.int _)=>Z [.int]|some .string=>Z [.str]|some (.struct fs)=>if P.stoodInHeld t then K else JB P (JC P d) 0 fs.toList
  |_=>K
def Dx(P:Program)(t:TypeId):EqK->Bool
 |.sc .bool=>match P.underlying t with|some .bool=>Y|_=>X
 |.sc _=>X|.ptr=>match P.underlying t with|some (.pointer _)=>Y|_=>X
 |.sl=>match P.underlying t with|some (.slice _)=>Y|_=>X
 |.fn=>match P.underlying t with|some (.func _ _ _)=>Y|_=>X
 |.flat g=>(match P.underlying t with|some (.struct _)=>Y|_=>X)&&JC P 20 t==Z g && !P.eqGuardType P.depth t
def um(P:Program)(t:TypeId):SK->Bool
 |.bool=>match P.underlying t with|some .bool=>Y|_=>X
 |.int=>match P.underlying t with|some (.int _)=>Y|_=>X
 |.str=>match P.underlying t with|some .string=>Y|_=>X
def sV(P:Program)(t:TypeId)(zero:List AV):Bool:=match P.info? t with
 |some i=>(match i.zero with|some z=>wh z.cells.toList zero&&AV.bG zero|none=>X)
 |none=>X
def wE(P:Program)(fs:Array Field):List (Nat×Operand)->List (Nat×Nat)->Bool
 |[],[]=>Y|(i,_)::ps,(off,n)::q=>(match fs[i]? with|some f=>f.offset==off&&dD P f.type n|none=>X)&&wE P fs ps q|_,_=>X
def CN(x:Operand)(l h M:Option Operand):List Operand:=x::(l.toList++h.toList++M.toList)
def mOp(S:Nat->Option aQ)(P:Program)(o:Oper)(so:eN):Bool:=
 (match o.dst,so.dst with|some a,Z b=>a==b|none,K=>Y|_,_=>X) &&
 match o.op,so.op with
 |.move x,.move|.assign x,.move=>jf [x] so.args|.pick c a b,.pick=>jf [c,a,b] so.args|.binOp op _ x y _,.bin O=>op==O&&jf [x,y] so.args|.binOp op t x y _,.eqv k neg=>op==(if neg then .neq else .eql)&&jf [x,y] so.args&&Dx P t k|.binOp op t x y _,.aaB neg=>op==(if neg then .neq else .eql)&&jf [x,y] so.args&&Dx P t .sl|.unOp op _ x,.un O=>op==O&&jf [x] so.args|.convert s d x,.conv k=>jf [x] so.args&&(match P.underlying s,P.underlying d with|some (.int _),Z (.int C)=>k==C|_,_=>X)|.nilCheck x,.nilCheck=>jf [x] so.args|.extract x i,.extract j=>i==j&&jf [x] so.args|.field t x f,.field off n agg=>jf [x] so.args&&(match P.underlying t with
  |some (.struct fs)=>(match fs[f]? with|some F=>F.offset==off&&dD P F.type n&&rQ P F.type==Z agg|none=>X)
  |_=>X)
 |.build t parts,.build zero q=>jf (parts.toList.map (·.2)) so.args&&sV P t zero&&(match P.underlying t with
  |some (.struct fs)=>(match fs.toList.mapM (λf=>P.info? f.type) with|some _=>wE P fs parts.toList q|none=>X)
  |_=>X)
 |.buildSlice t n parts,.lit sz N zero q|.buildSlice t n parts,.Ts sz N zero q=>n==N&&jf (parts.toList.map (·.2)) so.args&&(match P.underlying t with
  |some (.slice e)=>dD P e sz&&V (n*sz<=16777216)&&sV P e zero&&V (0<sz)&&(Q zero==sz)&&parts.toList.map (·.1)==q|_=>X)
 |.fieldAddr t x f,.fieldAddr off=>jf [x] so.args&&(match P.underlying t with
  |some (.struct fs)=>(match fs[f]? with
   |some F=>F.offset==off&&(match P.info? F.type with|some i=>i.size != 0|none=>X)|none=>X)
  |_=>X)
 |.indexAddr t x i,.indexAddr sz=>jf [x,i] so.args&&(match P.underlying t with|some (.slice e)=>dD P e sz|_=>X)|.index t x i,.index=>jf [x,i] so.args&&(match P.underlying t with|some .string=>Y|_=>X)|.slice t x r H M,.slice D l h m sz=>jf (CN x r H M) so.args&&r.isSome==l&&H.isSome==h&&M.isSome==m&&(!m||h)&&(match P.underlying t with
  |some (.slice e)=>!D&&dD P e sz|some .string=>D && !m|_=>X)
 |.slice t x K (Z H) K,.wC sz=>jf [x,H] so.args&&(match P.underlying t with|some (.slice e)=>dD P e sz|_=>X)|.load t a,.load agg n _|.load t a,.yV _ agg n _=>jf [a] so.args&&dD P t n&&rQ P t==Z agg&&(agg||n==1)|.store t a v,.store n|.store t a v,.yz _ n=>jf [a,v] so.args&&dD P t n|.alloc t,.alloc zero|.alloc t,.yA _ zero=>so.args.isEmpty&&sV P t zero|.box _ v,.box _|.box _ v,.LP _ _=>jf [v] so.args|.makeSlice t l c,.zN sz bytes zero _=>jf [l,c] so.args&&(match P.underlying t with
  |some (.slice e)=>dD P e sz&&tR P e bytes&&sV P e zero&&V (0<sz)&&V (0<bytes)|_=>X)
 |.makeMap t K,.makeMap=>so.args.isEmpty&&(match P.underlying t with|some (.map _ _)=>Y|_=>X)|.mapUpdate t m k v,.mapUpdate kk|.insert t m k v,.mapUpdate kk=>jf [m,k,v] so.args&&(match P.underlying t with
  |some (.map g _)=>um P g kk|_=>X)
 |.lookup t m k ok,.lookup kk zero p=>ok==p&&jf [m,k] so.args&&(match P.underlying t with
  |some (.map g E)=>um P g kk &&
   (match P.info? E with|some i=>(match i.zero with|some z=>CM z zero|none=>X)|none=>X)
  |_=>X)
 |.makeFunc (.func f) first I,.makeFunc B n=>f==B&&jf (first.toList++I.toList) so.args&&first.size==n&&V (f<100000)
 |.call c,.len k=>jf c.args.toList so.args&&c.args.size==1&&(match c.callee,c.argTypes[0]? with
  |.builtin .len,Z t=>(match P.underlying t,k with|some .string,.str|some (.slice _),.sl|some (.map _ _),.mp=>Y|_,_=>X)
  |_,_=>X)
 |.call c,.Gu M=>jf c.args.toList so.args&&c.args.size==2&&(match c.callee with|.builtin .max=>M|.builtin .min=>!M|_=>X)|.call c,.append sz bytes|.call c,.j8 sz bytes=>jf c.args.toList so.args&&c.args.size==2&&c.argTypes.size==2&&(match c.callee,c.argTypes[0]?,c.argTypes[1]? with
  |.builtin .append,Z t,Z u=>(match P.underlying t with|some (.slice e)=>dD P e sz&&tR P e bytes&&V (0<sz)&&V (0<bytes)&&(match P.info? e with|some i=>(match i.zero with|some z=>z.cells.size==sz|none=>X)|none=>X)|_=>X) &&
   (match P.underlying u with|some (.slice _)|some .string=>Y|_=>X)
  |_,_,_=>X)
 |.call c,.copy sz=>jf c.args.toList so.args&&c.args.size==2&&c.argTypes.size==2&&(match c.callee,c.argTypes[0]?,c.argTypes[1]? with
  |.builtin .copy,Z t,Z u=>(match P.underlying t with|some (.slice e)=>dD P e sz|_=>X)&&(match P.underlying u with|some (.slice _)|some .string=>Y|_=>X)|_,_,_=>X)
 |.call c,.call i=>(match c.callee with
  |.value (.func f)=>jf c.args.toList so.args&&(match S i with|some J=>J.Te==f|none=>X)|_=>X)
 |.call c,.xL=>(match c.callee with
  |.value x=>jf (x::c.args.toList) so.args|_=>X)
 |.makeSlice t l c,.EI sz bytes zero=>jf [l,c] so.args&&(match P.underlying t with
  |some (.slice e)=>dD P e sz&&tR P e bytes&&sV P e zero&&V (0<sz)&&V (0<bytes)|_=>X)
 |.call c,.xK sz bytes zero=>jf c.args.toList so.args&&c.args.size==2&&c.argTypes.size==2&&(match c.callee,c.argTypes[0]?,c.argTypes[1]? with
  |.builtin .append,Z t,Z u=>(match P.underlying t with|some (.slice e)=>dD P e sz&&tR P e bytes&&sV P e zero&&V (0<sz)&&V (0<bytes)|_=>X) &&
   (match P.underlying u with|some (.int _)=>Y|_=>X)
  |_,_,_=>X)
 |_,.wC 0=>so.args.isEmpty|_,_=>X
structure wj where
 lz:Option Nat
 vals:List Value
def nX(w:World)(G:bT)(β:List wj):kz->Value->Prop
 |.none,_=>True|.val a,v=>bJ w G a v|.fp j k,v=>∃g b,β[j]?=Z g/\g.lz=Z b/\v=.pointer (Z ⟨b,k,K⟩)
def dH(b:Nat):kz->Value->Nat
 |.val a,v=>iI b a v|_,_=>0
def oz(w:World)(G:bT)(β:List wj):List kz->List Value->Prop
 |[],[]=>True|e::E,v::vs=>nX w G β e v/\oz w G β E vs|_,_=>False
def p8(b:Nat):List kz->List Value->Nat
 |e::E,v::vs=>dH b e v+p8 b E vs|_,_=>0
variable {w:World}{G:bT}{β:List wj}
theorem oz.one{e xs}(h:oz w G β [e] xs):∃v,xs=[v]/\nX w G β e v:=by
 match xs,h with
 |[v],h=>exact⟨v,rfl,h.1⟩
theorem oz.two{e f x}(h:oz w G β [e,f] x):∃v u,x=[v,u]/\nX w G β e v/\nX w G β f u:=by
 match x,h with
 |[v,u],h=>exact⟨v,u,rfl,h.1,h.2.1⟩
theorem oz.cons{e E xs}(h:oz w G β (e::E) xs):∃v vs,xs=v::vs/\nX w G β e v/\oz w G β E vs:=by
 match xs,h with
 |v::vs,h=>exact⟨v,vs,rfl,h.1,h.2⟩
theorem oz.vals:∀{E:List kz}{xs:List Value}{vs:List AV},oz w G β E xs->lQ E=Z vs->
  E=vs.map .val/\Q vs=Q xs/\∀(i:Nat) c v,vs[i]?=Z c->xs[i]?=Z v->bJ w G c v
 |[],[],vs,_,h=>by simp[lQ]at h;subst h;exact⟨rfl,rfl,λi c v h _=>by simp at h⟩|.val a::E,x::xs,vs,h,p=>by
  simp only[lQ]at p;split at p;rename_i vs' j;cases p;obtain⟨k,r,l⟩:=oz.vals h.2 j;refine⟨by rw[k];rfl,by simp[r],λi c v H g=>?_⟩;cases i with
  |zero=>simp at H g;subst H;subst g;exact h.1|succ i=>simp at H g;exact l i c v H g
  cases p
 |.none::E,_::_,vs,_,p=>by simp[lQ]at p|.fp _ _::E,_::_,vs,_,p=>by simp[lQ]at p|[],_::_,_,h,_=>h.elim|_::_,[],_,h,_=>h.elim
theorem JD:∀b vs g,p8 b (vs.map .val) g=cV b vs g
 |_,[],[]=>rfl|_,[],_::_=>rfl|_,_::_,[]=>rfl|b,a::vs,x::g=>by simp[p8,cV,dH,JD b vs g]
theorem bJ.jg{k n v}(h:bJ w G (.int k n) v):v=.int k n:=by cases h;rfl
theorem bJ.mR{b v}(h:bJ w G (.bool b) v):v=.bool b:=by cases h;rfl
theorem bJ.qK{l v}(h:bJ w G (.str l) v):∃s,v=.string s/\s.data.toList=l:=by
 cases h with|str _ s h=>exact⟨s,rfl,h⟩
theorem bJ.aj{a v}(h:bJ w G a v):bJ w G a.aj v:=by
 induction h with
 |undef=>exact .undef|gone v h=>exact .gone v h|bool b=>exact .bool b|int k n=>exact .int k n|str l s h=>exact .str l s h|ff=>exact .ff|aF=>exact .aF|gR=>exact .gR|jx=>exact .jx|me=>exact .me|agg S vs H h I=>
  refine .agg _ vs (by rw[rP];exact H) λi c v g q=>?_;rw[CJ]at g;simp only[adM]at g;obtain⟨C,m,rfl⟩:=g;exact I i C v m q
 |fC S vs H h I=>
  refine .fC _ vs (by rw[rP];exact H) λi c v g q=>?_;rw[CJ]at g;simp only[adM]at g;obtain⟨C,m,rfl⟩:=g;exact I i C v m q
 |eE sz rows a cap R O F x T D g y I=>exact .eE sz rows a cap R O F x T D g y|iY sz rows a cap R O F x T D g y N M I=>
  refine .eE sz rows a cap R O F x T D (λi r j c m J=>⟨⟨?_,λp t=>?_⟩,g i r j c m J⟩) y;obtain⟨cc,e,U,_⟩:=M;exact(Array.getElem?_eq_some_iff.1 U).1;rw[N]at t;cases t;have hi:i<Q rows:=(aad.1 m).1;have hj:j<Q r:=(aad.1 J).1;have hs:Q r=sz:=by
   simp only[cy,aam,cJ]at F;exact F r (eL m)
  have:i*sz+j<Q rows*sz:=by
   calc i*sz+j<i*sz+sz:=by omega
    _=(i+1)*sz:=by rw[Nat.succ_mul]
    _<=Q rows*sz:=Nat.mul_le_mul_right _ hi
  omega
 |raw sz rows a cap R O F x T D g y N M I=>exact .gone _ rfl|pP a=>exact .pP a|mu id z v loc t H q B=>exact .mu id z v loc t H q B|ptr id z i k v loc t H q B=>exact .ptr id z i k v loc t H q B|uL sz rows i k a cap H I=>exact .uL sz rows i k a cap H|map id loc b H E W=>exact .map id loc b H E W|fn f first oM vf vc H E hn h k I ik=>exact .fn f first oM vf vc H E hn h k
theorem nX.aj{e v}(h:nX w G β e v):nX w G β e.aj v:=by
 cases e with
 |none=>trivial|val a=>exact bJ.aj h|fp j k=>exact h
theorem Mp(b)(e:kz)(v):dH b e.aj v=0:=by
 cases e with
 |none=>rfl|val a=>exact gW b _ _ (zQ a)|fp j k=>rfl
mutual
theorem NH:∀(a b:AV),a.de b=Y->a=b
 |.undef,b,h=>by cases b<;>simp[AV.de]at h<;>rfl|.gone,b,h=>by cases b<;>simp[AV.de]at h<;>rfl|.ff,b,h=>by cases b<;>simp[AV.de]at h<;>rfl|.aF,b,h=>by cases b<;>simp[AV.de]at h<;>rfl|.gR,b,h=>by cases b<;>simp[AV.de]at h<;>rfl|.jx,b,h=>by cases b<;>simp[AV.de]at h<;>rfl|.me,b,h=>by cases b<;>simp[AV.de]at h<;>rfl|.pP,b,h=>by cases b<;>simp[AV.de]at h<;>rfl|.bool x,b,h=>by cases b<;>simp[AV.de]at h;rw[h]|.int k x,b,h=>by cases b<;>simp[AV.de]at h;rw[h.1,h.2]|.str x,b,h=>by cases b<;>simp[AV.de]at h;rw[h]|.agg x,b,h=>by
  cases b<;>simp[AV.de]at h;rw[yY _ _ h]
 |.fC x,b,h=>by
  cases b<;>simp[AV.de]at h;rw[yY _ _ h]
 |.eE s x,b,h=>by
  cases b<;>simp[AV.de]at h;rw[h.1,yZ _ _ h.2]
 |.iY s x,b,h=>by
  cases b<;>simp[AV.de]at h;rw[h.1,yZ _ _ h.2]
 |.raw s x,b,h=>by
  cases b<;>simp[AV.de]at h;rw[h.1,yZ _ _ h.2]
 |.mu i v,b,h=>by cases b<;>simp[AV.de]at h;rw[h.1,h.2]|.ptr i v k l,b,h=>by cases b<;>simp[AV.de]at h;rw[h.1.1.1,h.1.1.2,h.1.2,h.2]|.uL s x i k,b,h=>by
  cases b<;>simp[AV.de]at h;rw[h.1.1.1,yZ _ _ h.1.1.2,h.1.2,h.2]
 |.map i,b,h=>by cases b<;>simp[AV.de]at h;rw[h]|.fn f x y,b,h=>by
  cases b<;>simp[AV.de]at h;rw[h.1.1,yY _ _ h.1.2,yY _ _ h.2]
theorem yY:∀(a b:List AV),AV.vk a b=Y->a=b
 |[],b,h=>by cases b<;>simp[AV.vk]at h;rfl|x::a,b,h=>by
  cases b with
  |nil=>simp[AV.vk]at h|cons y b=>
   simp[AV.vk]at h;rw[NH x y h.1,yY a b h.2]
theorem yZ:∀(a b:List (List AV)),AV.rM a b=Y->a=b
 |[],b,h=>by cases b<;>simp[AV.rM]at h;rfl|x::a,b,h=>by
  cases b with
  |nil=>simp[AV.rM]at h|cons y b=>
   simp[AV.rM]at h;rw[yY x y h.1,yZ a b h.2]
end
theorem JE(w G):∀d v a,CL d v=Z a->bJ w G a v/\a.dw=Y/\a.aH=Y
 |0,_,_,h=>by simp[CL]at h|d+1,v,a,h=>by
  unfold CL at h;split at h;cases h;exact⟨.bool _,rfl,rfl⟩;cases h;exact⟨.int _ _,rfl,rfl⟩;cases h;exact⟨.str _ _ rfl,rfl,rfl⟩;cases h;exact⟨.ff,rfl,rfl⟩;cases h;exact⟨.aF,rfl,rfl⟩;cases h;exact⟨.gR,rfl,rfl⟩;cases h;exact⟨.jx,rfl,rfl⟩;cases h;exact⟨.me,rfl,rfl⟩;rename_i C;split at h;rename_i l q;cases h;have key:∀(vs:List Value) (l:List AV),vs.mapM (CL d)=Z l->Q vs=Q l/\(∀(i:Nat) c v,l[i]?=Z c->vs[i]?=Z v->bJ w G c v/\c.dw=Y/\c.aH=Y):=by
   intro vs;induction vs with
   |nil=>intro l h;simp at h;subst h;exact⟨rfl,λi c v h _=>by simp at h⟩|cons x vs I=>
    intro l h;rw[List.mapM_cons]at h;simp only[bind,Option.bind_eq_some_iff,pure,bE]at h;obtain⟨t,g,s,k,rfl⟩:=h;obtain⟨E,r⟩:=I s k;refine⟨by simp[E],λi c v H p=>?_⟩;cases i with
    |zero=>simp at H p;subst H;subst p;exact JE w G d _ _ g|succ i=>simp at H p;exact r i c v H p
  obtain⟨E,r⟩:=key _ _ q;have m:∀c∈l,c.dw=Y/\c.aH=Y:=by
   intro c H;obtain⟨i,n,rfl⟩:=aav.1 H;have j:i<Q C.toList:=(by omega);exact(r i l[i] C.toList[i] (aae n) (aae j)).2
  refine⟨.agg l C (by rw[<-E];simp) λi c v H p=>(r i c v H (by simpa using p)).1,?_,?_⟩;simp only[AV.dw];exact(dG l).2 λc H=>(m c H).1;simp only[AV.aH];exact(js l).2 λc H=>(m c H).2;cases h;cases h
theorem Ec{v a}(h:CM v a=Y)(w G):bJ w G a v/\a.dw=Y/\a.aH=Y:=by
 unfold CM at h;split at h;rename_i b l;have:=NH _ _ h;subst this;exact JE w G 3 v b l;cases h
theorem EM(w G):∀{vs:List Value}{as:List AV},wh vs as=Y->Q as=Q vs/\(∀(i:Nat) c v,as[i]?=Z c->vs[i]?=Z v->bJ w G c v)/\(∀c∈as,c.dw=Y/\c.aH=Y)
 |[],[],_=>⟨rfl,λi c v h _=>by simp at h,λc h=>by simp at h⟩
 |v::vs,a::as,h=>by
  simp only[wh,E6]at h;obtain⟨E,r,l⟩:=EM w G h.2;obtain⟨F,j,k⟩:=Ec h.1 w G;refine⟨by simp[E],λi c u H g=>?_,λc H=>?_⟩;cases i with
  |zero=>simp at H g;subst H;subst g;exact F|succ i=>simp at H g;exact r i c u H g
  rcases List.mem_cons.1 H with rfl|H;exact⟨j,k⟩;exact l c H
 |[],_::_,h=>by simp[wh]at h|_::_,[],h=>by simp[wh]at h
end Ax
namespace Ax
open Go
variable {P:Program}{w:World}{G:bT}
theorem oR{t n}(h:dD P t n=Y):∃i,P.info? t=Z i/\i.size=n/\P.cellsOf t=n:=by
 unfold dD at h;split at h;rename_i i H;exact⟨i,H,by simpa using h,by simp[Program.cellsOf,H];simpa using h⟩;cases h
theorem fW{t n}(h:dD P t n=Y)(w):(Go.sizeOf t).run P w=.ok n w:=by
 obtain⟨i,hi,hs,H⟩:=oR h;rw[run_sizeOf w hi,H]
def dm(w:World)(G:bT)(as:List AV)(xs:List Value):Prop:=Q as=Q xs/\∀(i:Nat) c v,as[i]?=Z c->xs[i]?=Z v->bJ w G c v
theorem afM{t k a b x y r}(H:um P t k=Y)(h:LQ k a b=Z r)(j:bJ w G a x)(l:bJ w G b y)(D W):
  (Op.equalIn (D+1) t x y).run P W=.ok r W:=by
 unfold LQ at h;split at h;cases h;rw[j.mR,l.mR];have g:P.underlying t=Z .bool:=by
  unfold um at H;simp only at H;split at H<;>simp_all
 exact run_equalIn_bool W D t _ _ g;split at h;rename_i n p v q m;cases h;subst m;rw[j.jg,l.jg];have g:∃q,P.underlying t=Z (.int q):=by
  unfold um at H;simp only at H;split at H;exact⟨_,by assumption⟩;cases H
 obtain⟨q,g⟩:=g;exact run_equalIn_int W D t _ q _ _ g;cases h;cases h;obtain⟨s,rfl,rfl⟩:=j.qK;obtain⟨S,rfl,rfl⟩:=l.qK;have g:P.underlying t=Z .string:=by
  unfold um at H;simp only at H;split at H<;>simp_all
 rw[run_equalIn_string W D t _ _ g,ByteArray.toList_eq,ByteArray.toList_eq];cases h
theorem JG:∀n v a b r,LF (n++v) a b=Z r->
  ∃R g,LF n (a.take (Q n)) (b.take (Q n))=Z R/\LF v (a.drop (Q n)) (b.drop (Q n))=Z g/\r=(R&&g)
 |[],v,a,b,r,h=>⟨Y,r,by simp[LF],by simpa using h,by simp⟩
 |k::n,v,[],b,r,h=>by cases b<;>simp[LF]at h|k::n,v,a::as,[],r,h=>by simp[LF]at h|k::n,v,a::as,b::bs,r,h=>by
  simp only[abb,LF]at h;split at h;rename_i p q H l;cases h;obtain⟨R,g,E,j,rfl⟩:=JG n v as bs q l;exact⟨p&&R,g,by simp[LF,H,E],by simpa using j,by simp[Bool.and_assoc]⟩;cases h
theorem JH:∀g a b r,LF g a b=Z r->Q a=Q g/\Q b=Q g
 |[],[],[],_,_=>⟨rfl,rfl⟩
 |[],[],_::_,_,h=>by simp[LF]at h|[],_::_,_,_,h=>by simp[LF]at h|_::_,[],_,_,h=>by simp[LF]at h|_::_,_::_,[],_,h=>by simp[LF]at h|k::g,a::as,b::bs,r,h=>by
  simp only[LF]at h;split at h;rename_i p q H l;obtain⟨E,j⟩:=JH g as bs q l;simp[E,j];cases h
theorem EN{t fs n off}(h:P.underlying t=Z (.struct fs))(g:dD P t n=Y)(x w):
  (part t x off).run P w=.ok (.agg (x.extract off (off+n))) w:=by
 simp[part,isAgg,ct h,fW g]
theorem HE{t k off v}(m:um P t k=Y){x}(l:x[off]?=Z v)(w):
  (part t x off).run P w=.ok v w:=by
 refine run_part_plain w ?_ l;unfold um at m;unfold Program.plainKey;cases k<;>simp only at m<;>split at m<;>simp_all
theorem dm.take{as xs}(h:dm w G as xs)(n):dm w G (as.take n) (xs.take n):=by
 refine⟨by simp[h.1],λi c v H p=>?_⟩;rw[abv]at H p;split at H;rename_i hi;rw[af hi]at p;exact h.2 i c v H p;cases H
theorem dm.drop{as xs}(h:dm w G as xs)(n):dm w G (as.drop n) (xs.drop n):=by
 refine⟨by simp[h.1],λi c v H p=>?_⟩;rw[afw]at H p;exact h.2 _ c v H p
def aqd(P:Program)(G:bT)(w:World)(D:Nat)(t:TypeId)(g:List SK):Prop:=
 (∃k,g=[k]/\um P t k=Y)\/
 (∃fs,P.underlying t=Z (.struct fs))/\∀(x y:Array Value) (as bs:List AV) (r:Bool),dm w G as x.toList->dm w G bs y.toList->LF g as bs=Z r->
  (Op.equalIn D t (.agg x) (.agg y)).run P w=.ok r w
theorem EO(D xs ys as bs)(hx:dm w G as xs.toList)(hy:dm w G bs ys.toList)(rec)(aqe:∀t ks,rec t=some ks->aqd P G w (D+1) t ks):∀fs off ks r,JB P rec off fs=some ks->LF ks (as.drop off) (bs.drop off)=some r->
  (Op.eqFields (D+1) xs ys fs).run P w=.ok r w
 |[],off,ks,r,h,he=>by
  simp only[JB,bE]at h;subst h;cases ha:as.drop off<;>cases hb:bs.drop off<;>rw[ha,hb]at he<;>simp[LF]at he;subst he;simp[Op.eqFields]
 |f::fs,off,ks,r,h,he=>by
  unfold JB at h;split at h;rename_i hc;simp only[E6,aC,bne_iff_ne]at hc;split at h;rename_i kf hkf;split at h;rename_i qZ;split at h;rename_i kr Ql;cases h;obtain⟨r1,r2,e1,e2,rfl⟩:=JG kf kr _ _ r he;have ih:=EO D xs ys as bs hx hy rec aqe fs (off+kf.length) kr r2 Ql (by simpa [afC] using e2);have hf : f.name ≠ "_" := hc.2
  have step:∃a b,(part f.type xs f.offset).run P w=.ok a w/\(part f.type ys f.offset).run P w=.ok b w/\(Op.equalIn (D+1) f.type a b).run P w=.ok r1 w:=by
   rw[hc.1];obtain⟨l1,l2⟩:=JH _ _ _ _ e1;rcases aqe _ _ hkf with⟨k,rfl,hk⟩|⟨⟨gs,hu⟩,mh⟩;simp only[aaK,List.length_nil,Nat.zero_add]at e1 l1 l2;have ha:∃a,as[off]?=some a:=by
    cases h:as[off]? with
    |some a=>exact⟨a,rfl⟩|none=>rw[amp]at h;simp at l1;omega
   have hb:∃b,bs[off]?=some b:=by
    cases h:bs[off]? with
    |some a=>exact⟨a,rfl⟩|none=>rw[amp]at h;simp at l2;omega
   obtain⟨a,ha⟩:=ha;obtain⟨b,hb⟩:=hb;have Tt:off<xs.size:=(by have:=(aad.1 ha).1;have:=hx.1;simp at this;omega);have XZ:off<ys.size:=(by have:=(aad.1 hb).1;have:=hy.1;simp at this;omega);have hxa:=hx.2 off a xs[off] ha (by simp[Tt]);have hyb:=hy.2 off b ys[off] hb (by simp[XZ]);refine⟨xs[off],ys[off],HE hk (by simp[Tt]) w,HE hk (by simp[XZ]) w,?_⟩;have:LQ k a b=some r1:=by
    have t1:(as.drop off).take 1=[a]:=by
     rw[aan (aad.1 ha).1,(aad.1 ha).2];simp
    have t2:(bs.drop off).take 1=[b]:=by
     rw[aan (aad.1 hb).1,(aad.1 hb).2];simp
    rw[t1,t2]at e1;simp only[LF]at e1;split at e1;rename_i p q hp hq;cases hq;simpa [hp] using e1;cases e1
   exact afM hk this hxa hyb D w;refine⟨_,_,EN hu qZ xs w,EN hu qZ ys w,mh _ _ _ _ _ ?_ ?_ e1⟩;have:=(hx.drop off).take kf.length;simpa [aj5,List.extract] using this;have:=(hy.drop off).take kf.length;simpa [aj5,List.extract] using this
  obtain⟨a,b,p1,p2,p3⟩:=step;simp only[Op.eqFields,hf,ne_eq,not_false_eq_true,bz,cq,p1,p2,p3,dA];cases r1;simp;simpa using ih;cases h;cases h;cases h;cases h
theorem Qm:∀d D t g,d<=D->JC P d t=Z g->aqd P G w (D+1) t g
 |0,_,_,_,_,h=>by simp[JC]at h|d+1,D,t,g,n,h=>by
  unfold JC at h;split at h;cases h;exact .inl ⟨.bool,rfl,by unfold um;simp[*]⟩;cases h;exact .inl ⟨.int,rfl,by unfold um;simp[*]⟩;cases h;exact .inl ⟨.str,rfl,by unfold um;simp[*]⟩;rename_i fs k;split at h;cases h;rename_i hs;refine .inr ⟨⟨fs,k⟩,λx y as bs r l m B=>?_⟩;have H:P.fieldsOf t=fs:=by simp[Program.fieldsOf,k]
  rw[run_equalIn_struct w D t x y (by rw[H];exact k) (by simpa using hs),H];obtain⟨j,rfl⟩:∃j,D=j+1:=⟨D-1,by omega⟩;exact EO j x y as bs l m (JC P d) (λt g h=>Qm d j t g (by omega) h) fs.toList 0 g r h (by simpa using B);cases h
theorem X5{t}(h:Dx P t (.sc .bool)=Y):P.underlying t=Z .bool:=by
 simp only[Dx]at h;split at h
 assumption
 cases h
theorem aaG{t}(h:Dx P t .ptr=Y):∃e,P.underlying t=Z (.pointer e):=by
 simp only[Dx]at h;split at h;exact⟨_,by assumption⟩;cases h
theorem VB{t}(h:Dx P t .sl=Y):∃e,P.underlying t=Z (.slice e):=by
 simp only[Dx]at h;split at h;exact⟨_,by assumption⟩;cases h
theorem afN{t}(h:Dx P t .fn=Y):∃a b c,P.underlying t=Z (.func a b c):=by
 simp only[Dx]at h;split at h;exact⟨_,_,_,by assumption⟩;cases h
def VC(x:Value):Prop:=(∀k n,x≠.int k n)/\(∀k n,x≠.float k n)/\(∀s,x≠.string s)/\(∀k r i,x≠.complex k r i)
theorem dL(t){x y}(H:x≠.nilIface)(j:∀C,x≠.agg C)(op g h w):(eqGuard op t g h x y).run P w=.ok () w:=by
 cases op<;>cases x<;>simp_all [eqGuard]
theorem afO{t k a b x y r}(E:Dx P t k=Y)(h:NC k a b=Z r)(m:bJ w G a x)(z:bJ w G b y):
  (Op.equal t x y).run P w=.ok r w/\(∀op g j,(eqGuard op t g j x y).run P w=.ok () w)/\VC x:=by
 unfold Op.equal Op.maxDepth;cases k with
 |sc k=>
  cases k with
  |bool=>
   simp only[NC]at h;have B:=X5 E;unfold LQ at h;split at h<;>try cases h
   rw[m.mR,z.mR];exact⟨run_equalIn_bool w 9999 t _ _ B,λop g j=>dL t (by simp) (by simp) op g j w,by simp,by simp,by simp,by simp⟩;all_goals simp_all
  |int=>simp[Dx]at E|str=>simp[Dx]at E
 |flat O=>
  unfold NC at h;split at h<;>try (cases h;done)
  all_goals try (rename_i heq;cases heq;done)
  rename_i ks' as bs heq;cases heq;cases m with
  |agg _ R W hx=>
   cases z with
   |agg _ S xE hy=>
    simp only[Dx,E6,Bool.not_eq_true']at E;obtain⟨⟨B,T⟩,U⟩:=E;have M:JC P 20 t=Z O:=(by simpa using T);refine⟨?_,λop g j=>run_eqGuard_agg w op t g j R S U,by simp,by simp,by simp,by simp⟩;rcases Qm (w:=w) (G:=G) 20 9999 t O (by omega) M with⟨k,rfl,N⟩|⟨_,mh⟩;exfalso;unfold um at N;cases k<;>simp only at N<;>split at N<;>simp_all;exact mh R S as bs r ⟨by simpa using W,λi c v I J=>hx i c v I (by simpa using J)⟩ ⟨by simpa using xE,λi c v I J=>hy i c v I (by simpa using J)⟩ h
 |ptr=>
  obtain⟨e,B⟩:=aaG E;have key:∀(p q:Option Addr) (r:Bool),(p=K/\r=q.isNone\/q=K/\r=p.isNone)->(Op.equalIn (9999+1) t (.pointer p) (.pointer q)).run P w=.ok r w:=by
   generalize 9999=D;intro p q r h;rcases h with⟨rfl,rfl⟩|⟨rfl,rfl⟩;cases q<;>simp[Op.equalIn,ct B];cases p<;>simp[Op.equalIn,ct B]
  have inv:∀{a x},bJ w G a x->(a=.ff->x=.pointer K)/\(∀i v k l,a=.ptr i v k l->∃p,x=.pointer (Z p))/\(∀i v k l,a=.uL i v k l->∃p,x=.pointer (Z p)):=by
   intro a x h;refine⟨λe=>by subst e;cases h;rfl,λi v k l e=>by subst e;cases h with|ptr _ _ _ _ _ loc H=>exact H,λi v k l e=>by subst e;cases h;exact⟨_,rfl⟩⟩
  unfold NC at h;split at h<;>try (cases h;done)
  all_goals try (rename_i heq;cases heq;done)
  cases h;rw[(inv m).1 rfl,(inv z).1 rfl];exact⟨key _ _ _ (.inl ⟨rfl,rfl⟩),λop g j=>dL t (by simp) (by simp) op g j w,by simp,by simp,by simp,by simp⟩;cases h;obtain⟨p,H⟩:=(inv z).2.1 _ _ _ _ rfl;rw[(inv m).1 rfl,H];exact⟨key _ _ _ (.inl ⟨rfl,rfl⟩),λop g j=>dL t (by simp) (by simp) op g j w,by simp,by simp,by simp,by simp⟩;cases h;obtain⟨p,H⟩:=(inv z).2.2 _ _ _ _ rfl;rw[(inv m).1 rfl,H];exact⟨key _ _ _ (.inl ⟨rfl,rfl⟩),λop g j=>dL t (by simp) (by simp) op g j w,by simp,by simp,by simp,by simp⟩;cases h;obtain⟨p,H⟩:=(inv m).2.1 _ _ _ _ rfl;rw[(inv z).1 rfl,H];exact⟨key _ _ _ (.inr ⟨rfl,rfl⟩),λop g j=>dL t (by simp) (by simp) op g j w,by simp,by simp,by simp,by simp⟩;cases h;obtain⟨p,H⟩:=(inv m).2.2 _ _ _ _ rfl;rw[(inv z).1 rfl,H];exact⟨key _ _ _ (.inr ⟨rfl,rfl⟩),λop g j=>dL t (by simp) (by simp) op g j w,by simp,by simp,by simp,by simp⟩
 |sl=>
  obtain⟨e,B⟩:=VB E;have C:∀(q:Option Addr) (n c:Nat),(Op.equalIn (9999+1) t (.slice K 0 0) (.slice q n c)).run P w=.ok q.isNone w:=by
   generalize 9999=D;intro q n c;simp[Op.equalIn,ct B]
  have F:∀(q:Option Addr) (n c:Nat),(Op.equalIn (9999+1) t (.slice q n c) (.slice K 0 0)).run P w=.ok q.isNone w:=by
   generalize 9999=D;intro q n c;cases q<;>simp[Op.equalIn,ct B]
  have inv:∀{a x},bJ w G a x->(a=.aF->x=.slice K 0 0)/\(∀s r,a=.eE s r->∃p n c,x=.slice (Z p) n c)/\(∀s r,a=.iY s r->∃p n c,x=.slice (Z p) n c)/\(a=.pP->∃p n c,x=.slice (Z p) n c):=by
   intro a x h;refine⟨λe=>by subst e;cases h;rfl,λs r e=>by subst e;cases h;exact⟨_,_,_,rfl⟩,λs r e=>by subst e;cases h;exact⟨_,_,_,rfl⟩,λe=>by subst e;cases h;exact⟨_,_,_,rfl⟩⟩
  unfold NC at h;split at h<;>try (cases h;done)
  all_goals try (rename_i heq;cases heq;done)
  cases h;rw[(inv m).1 rfl,(inv z).1 rfl];exact⟨C _ _ _,λop g j=>dL t (by simp) (by simp) op g j w,by simp,by simp,by simp,by simp⟩;cases h;obtain⟨p,n,c,H⟩:=(inv z).2.1 _ _ rfl;rw[(inv m).1 rfl,H];exact⟨C _ _ _,λop g j=>dL t (by simp) (by simp) op g j w,by simp,by simp,by simp,by simp⟩;cases h;obtain⟨p,n,c,H⟩:=(inv z).2.2.1 _ _ rfl;rw[(inv m).1 rfl,H];exact⟨C _ _ _,λop g j=>dL t (by simp) (by simp) op g j w,by simp,by simp,by simp,by simp⟩;cases h;obtain⟨p,n,c,H⟩:=(inv z).2.2.2 rfl;rw[(inv m).1 rfl,H];exact⟨C _ _ _,λop g j=>dL t (by simp) (by simp) op g j w,by simp,by simp,by simp,by simp⟩;cases h;obtain⟨p,n,c,H⟩:=(inv m).2.1 _ _ rfl;rw[(inv z).1 rfl,H];exact⟨F _ _ _,λop g j=>dL t (by simp) (by simp) op g j w,by simp,by simp,by simp,by simp⟩;cases h;obtain⟨p,n,c,H⟩:=(inv m).2.2.1 _ _ rfl;rw[(inv z).1 rfl,H];exact⟨F _ _ _,λop g j=>dL t (by simp) (by simp) op g j w,by simp,by simp,by simp,by simp⟩;cases h;obtain⟨p,n,c,H⟩:=(inv m).2.2.2 rfl;rw[(inv z).1 rfl,H];exact⟨F _ _ _,λop g j=>dL t (by simp) (by simp) op g j w,by simp,by simp,by simp,by simp⟩
 |fn=>
  obtain⟨e1,e2,e3,B⟩:=afN E;have k1:∀D,(Op.equalIn (D+1) t .nilFunc .nilFunc).run P w=.ok Y w:=λD=>by simp[Op.equalIn,ct B]
  have k2:∀D f p q,(Op.equalIn (D+1) t .nilFunc (.func f p q)).run P w=.ok X w:=λD f p q=>by simp[Op.equalIn,ct B]
  have k3:∀D f p q,(Op.equalIn (D+1) t (.func f p q) .nilFunc).run P w=.ok X w:=λD f p q=>by simp[Op.equalIn,ct B]
  have inv:∀{a x},bJ w G a x->(a=.jx->x=.nilFunc)/\(∀f b c,a=.fn f b c->∃p q,x=.func (.func f) p q):=by
   intro a x h;refine⟨λe=>by subst e;cases h;rfl,λs r c e=>by subst e;cases h;exact⟨_,_,rfl⟩⟩
  unfold NC at h;split at h<;>try (cases h;done)
  all_goals try (rename_i heq;cases heq;done)
  cases h;rw[(inv m).1 rfl,(inv z).1 rfl];exact⟨k1 9999,λop g j=>dL t (by simp) (by simp) op g j w,by simp,by simp,by simp,by simp⟩;cases h;obtain⟨p,q,H⟩:=(inv z).2 _ _ _ rfl;rw[(inv m).1 rfl,H];exact⟨k2 9999 _ _ _,λop g j=>dL t (by simp) (by simp) op g j w,by simp,by simp,by simp,by simp⟩;cases h;obtain⟨p,q,H⟩:=(inv m).2 _ _ _ rfl;rw[(inv z).1 rfl,H];exact⟨k3 9999 _ _ _,λop g j=>dL t (by simp) (by simp) op g j w,by simp,by simp,by simp,by simp⟩
end Ax
namespace Ax
open Go
variable {P:Program}{w:World}{G:bT}{β:List wj}{ρ:Operand->Value}{o:Oper}
structure BG (w:World)(G:bT)(sz:Nat)(rows:List (List AV))(loc:yD):Prop where
 zR:cy sz rows=true
 IU:∀r∈rows,AV.bG r=true
 len:loc.len=rows.length
 size:loc.sz=sz
 yE:loc.vals.length=rows.length
 y5:∀(i:Nat) r xs,rows[i]?=some r->loc.vals[i]?=some xs->dm w G r xs
 uQ:(loc.cap=0/\rows=[]/\loc.a.isSome=true)\/∃b off c e,loc.a=some ⟨b,off,none⟩/\0<loc.cap/\w.heap[b]?=some (.cells c e (0,0))/\off+loc.cap*sz<=c.size/\rows.length<=loc.cap/\
  G.qi b=some 0/\∀(i:Nat) xs (j:Nat) x,loc.vals[i]?=some xs->xs[j]?=some x->w.cell? ⟨b,off+(i*sz+j),none⟩=some x
theorem BG.cell{s rows loc}(h:BG w G s rows loc){b off}(n:∀i l j x,loc.vals[i]?=Z l->l[j]?=Z x->w.cell? ⟨b,off+(i*s+j),K⟩=Z x):
  ∀i r j x,rows[i]?=Z r->r[j]?=Z x->∃v,w.cell? ⟨b,off+(i*s+j),K⟩=Z v/\bJ w G x v:=by
 intro i r j x H g;have q:i<Q loc.vals:=by rw[h.yE];exact(aad.1 H).1
 have p:=aae q;obtain⟨E,m⟩:=h.y5 i r _ H p;have k:j<Q loc.vals[i]:=by rw[<-E];exact(aad.1 g).1
 exact⟨_,n i _ j _ p (aae k),m j x _ g (aae k)⟩
def uR(w:World)(G:bT):iW->yD->Prop
 |.rows D sz rows,loc=>loc.mp=X/\loc.di=D/\BG w G sz rows loc|.map E,loc=>loc.mp=Y/\loc.cap=1/\∃b B clock,loc.a=Z ⟨b,0,K⟩/\w.heap[b]?=Z (.map B clock)/\G.qi b=Z 0/\B.size=Q E/\
   ∀(i:Nat) k v e,E[i]?=Z (k,v)->B[i]?=Z e->bJ w G k e.key/\bJ w G v e.val/\v.dw=Y/\k.dw=Y
structure mH (w:World)(G:bT)(st:aO):Prop where
 len:G.ls.length=st.length
 bX:∀(id:Nat) ob loc,st[id]?=some ob->G.ls[id]?=some loc->uR w G ob loc
 qT:∀b p,G.qi b=some p->b<w.heap.size
theorem mH.loc{st}(h:mH w G st){id:Nat}{ob}(hs:st[id]?=Z ob):∃loc,G.ls[id]?=Z loc/\uR w G ob loc:=by
 have hi:id<Q st:=(aad.1 hs).1;have:id<Q G.ls:=by rw[h.len];exact hi
 exact⟨G.ls[id],aae this,h.bX id ob _ hs (aae this)⟩
theorem aaI{st}(j:mH w G st){a v rows}(h:bJ w G a v)(H:fO st a=Z rows):
  ∃p n c,v=.slice p n c/\n=Q rows:=by
 unfold fO at H;split at H;cases H;cases h;exact⟨_,_,_,rfl,rfl⟩;cases H;cases h;exact⟨_,_,_,rfl,rfl⟩;cases H;cases h;exact⟨_,_,_,rfl,rfl⟩;cases H;cases h;exact⟨_,_,_,rfl,rfl⟩;rename_i id m;split at H;rename_i C S q I;split at H;rename_i y;cases H;obtain⟨loc,k,z⟩:=j.loc I;cases h with
 |mu _ _ _ l t x D B=>
  rw[k]at x;cases x;obtain⟨r,s,g⟩:=z;refine⟨_,_,_,B (by omega),g.len⟩
 cases H;cases H;cases H
theorem aqf{op t F x y}(z:o.op=.binOp op t x y F){a b v}(h:Iq op a b=Z v)(n:bJ w G a (ρ x))(r:bJ w G b (ρ y)):
  ∃u,(execOp ρ o).run P w=.ok (.value u) w/\bJ w G v u/\v.dw=Y:=by
 unfold Iq at h;split at h
 ·rename_i k p l q;split at h
  ·rename_i E;subst E;have j:=n.jg;have m:=r.jg;simp only[execOp,z,j,m];have H:∀op (w:World),(eqGuard op t x y (.int k p) (.int k q)).run P w=.ok () w:=λop w=>dL t (by simp) (by simp) op x y w;cases op<;>simp only[oN]at h<;>(try (cases h;done))<;>(try (split at h;· cases h))<;>cases h;all_goals first
    |(refine⟨_,?_,.int _ _,rfl⟩;simp[binOp,Op.intArith,Op.intBits,H];done)
    |(refine⟨_,?_,.bool _,rfl⟩;simp[binOp,Op.intCmp,H];done)
    |(rename_i B;refine⟨_,?_,.int _ _,rfl⟩;simp[binOp,Op.intDiv,H,U B];done)
  cases h
 rename_i p q;obtain⟨s,j,rfl⟩:=n.qK;obtain⟨S,m,rfl⟩:=r.qK;simp only[execOp,z,j,m];have H:∀op (w:World),(eqGuard op t x y (.string s) (.string S)).run P w=.ok () w:=λop w=>dL t (by simp) (by simp) op x y w;have C:Q s.data.toList=s.size:=by simp
 have D:Q S.data.toList=S.size:=by simp
 split at h;split at h;rename_i g;cases h;refine⟨.string (s++S),?_,.str _ _ (by simp),rfl⟩;have:¬(((s.size+S.size:Nat):Int) > IntKind.i64.max):=by
  rw[C,D]at g;have:IntKind.i64.max=9223372036854775807:=rfl;omega
 simp only[binOp,Op.stringOp,cq,H,dA,U this,Sem.run_pure];cases h;cases h;exact⟨_,by simp[binOp,Op.stringOp,H,ByteArray.toList_eq],.bool _,rfl⟩;cases h;exact⟨_,by simp[binOp,Op.stringOp,H,ByteArray.toList_eq],.bool _,rfl⟩;cases h;cases h
theorem binOp_eql{x}(h:VC x)(t y):binOp .eql t x y=(do pure (.bool (<-Op.equal t x y))):=by
 obtain⟨H,g,l,m⟩:=h;cases x<;>first|rfl|(cases y<;>first|rfl|simp_all)
theorem binOp_neq{x}(h:VC x)(t y):binOp .neq t x y=(do pure (.bool (!(<-Op.equal t x y)))):=by
 obtain⟨H,g,l,m⟩:=h;cases x<;>first|rfl|(cases y<;>first|rfl|simp_all)
variable{neg:Bool}
theorem aqg{t F x y k}(z:o.op=.binOp (if neg then .neq else .eql) t x y F)(n:Dx P t k=Y){a b r}(m:NC k a b=Z r)(g:bJ w G a (ρ x))(j:bJ w G b (ρ y)):∃u,(execOp ρ o).run P w=.ok (.value u) w/\bJ w G (.bool (if neg then !r else r)) u:=by
 obtain⟨h,H,l⟩:=afO n m g j;refine⟨_,?_,.bool _⟩;simp only[execOp,z];cases neg;simp[H,binOp_eql l,h];simp[H,binOp_neq l,h]
theorem afQ{t yt x y}(S:o.op=.binOp (if neg then .neq else .eql) t x y yt)(T:Dx P t .sl=Y){st}(N:mH w G st){id B v sz rows}(W:st[id]?=Z (.rows v sz rows))(hv:v=B)(H:bJ w G (.mu id B) (ρ x))(C:bJ w G .aF (ρ y)):(execOp ρ o).run P w=.ok (.value (.bool neg)) w:=by
 obtain⟨loc,R,M⟩:=N.loc W;obtain⟨e,U⟩:=VB T;have E:ρ y=.slice K 0 0:=by
  generalize ρ y=z at C;cases C;rfl
 obtain⟨p,n,c,k⟩:∃p n c,ρ x=.slice (Z p) n c:=by
  generalize ρ x=z at H;cases H with
  |mu _ _ _ I hp J Dw O=>
   rw[R]at J;cases J;obtain⟨g,j,l⟩:=M;have h:=O (by omega);rcases l.uQ with⟨_,_,m⟩|⟨b,off,c,e,m,_⟩;obtain⟨a,H⟩:=Option.isSome_iff_exists.1 m;rw[H]at h;exact⟨_,_,_,h⟩;rw[m]at h;exact⟨_,_,_,h⟩
 have g:(Op.equal t (ρ x) (ρ y)).run P w=.ok X w:=by
  have F:∀(q:Option Addr) (n c:Nat),(Op.equalIn (9999+1) t (.slice q n c) (.slice K 0 0)).run P w=.ok q.isNone w:=by
   generalize 9999=D;intro q n c;cases q<;>simp[Op.equalIn,ct U]
  rw[k,E];unfold Op.equal Op.maxDepth;exact F (Z p) n c
 have j:∀op (r s:Operand),(eqGuard op t r s (ρ x) (ρ y)).run P w=.ok () w:=by
  rw[k,E];exact λop r s=>dL t (by simp) (by simp) op r s w
 have l:VC (ρ x):=by
  rw[k];exact⟨by simp,by simp,by simp,by simp⟩
 simp only[execOp,S];cases neg;simp[j,binOp_eql l,g];simp[j,binOp_neq l,g]
theorem avA{op t x}(z:o.op=.unOp op t x){a v}(h:unV op a=Z v)(H:bJ w G a (ρ x)):
  ∃u,(execOp ρ o).run P w=.ok (.value u) w/\bJ w G v u/\v.dw=Y:=by
 unfold unV at h;split at h;rename_i k p;split at h;cases h;refine⟨_,?_,.int _ _,rfl⟩;simp only[execOp,z,H.jg];simp[Op.unary,Op.intArith];cases h;rename_i b;split at h;cases h;refine⟨_,?_,.bool _,rfl⟩;simp only[execOp,z,H.mR];simp[Op.unary];cases h;cases h
theorem akR{s d x k C}(z:o.op=.convert s d x)(hs:P.underlying s=Z (.int C))(h:P.underlying d=Z (.int k)){l n}(H:bJ w G (.int l n) (ρ x)):
  (execOp ρ o).run P w=.ok (.value (.int k (k.wrap n))) w:=by
 simp only[execOp,z,H.jg];simp[convert,ct hs,ct h,Conv.intToInt]
theorem aqh{c}(J:o.op=.call c)(F:c.callee=.builtin .len){x t}(O:c.args.toList=[x])(q:c.argTypes[0]?=Z t){k}(H:match k with|.sl=>∃e,P.underlying t=Z (.slice e)|.str=>P.underlying t=Z .string|.mp=>∃k e,P.underlying t=Z (.map k e)){st}(s:mH w G st){a n}(g:uh st k a=Z n)(l:bJ w G a (ρ x)):
  (execOp ρ o).run P w=.ok (.value (.int .i64 n)) w:=by
 have D:c.args = #[x]:=by
  have:=congrArg List.toArray O;simpa using this
 simp only[execOp,J,resolve,F,cq,Sem.run_pure,dA,invoke,builtin,D];simp only[Builtin.len_];unfold uh at g;split at g;obtain⟨s',j,rfl⟩:=l.qK;cases g;simp[q,ct H,j,goInt];cases g;obtain⟨S,em,H⟩:=H;cases h:ρ x<;>rw[h]at l<;>cases l;simp[q,ct H,goInt,h];obtain⟨S,em,H⟩:=H;split at g;rename_i es R;cases g;obtain⟨loc,I,M⟩:=s.loc R;generalize z:ρ x=xv at l;cases l with
 |map _ v b y hm E=>
  rw[I]at y;cases y;obtain⟨h1,h2,U,T,clock,r,B,h5,C,h7⟩:=M;rw[E]at r;cases r;simp[q,ct H,z,goInt,getObj,Sem.run,B,C]
 cases g;obtain⟨e,H⟩:=H;split at g;rename_i rows N;cases g;obtain⟨p,m,W,j,rfl⟩:=aaI s l N;simp[q,ct H,j,goInt];cases g;cases g
end Ax
namespace Ax
open Go
theorem fQ{g}:∀(C:List g) k vs,Q (aB C k vs)=Q C
 |[],0,[]=>rfl|[],0,_::_=>rfl|[],_+1,_=>rfl|_::_,0,[]=>rfl|_::C,0,_::vs=>by simp[aB,fQ C 0 vs]|_::C,k+1,vs=>by simp[aB,fQ C k vs]
theorem lZ{g}:∀(C:List g) k vs i,k+Q vs<=Q C->
  (aB C k vs)[i]?=if k<=i/\i<k+Q vs then vs[i-k]? else C[i]?
 |[],0,[],i,_=>by simp[aB]|[],0,_::_,i,h=>by simp at h|[],k+1,vs,i,h=>by simp at h|c::C,0,[],i,_=>by simp[aB]|c::C,0,v::vs,0,_=>by simp[aB]|c::C,0,v::vs,i+1,h=>by
  have:=lZ C 0 vs i (by simp at h ⊢;omega);simp only[aB,afi,this,aaK,Nat.zero_add,Nat.sub_zero,Nat.zero_le,true_and];by_cases H:i<Q vs;simp[H];simp[H]
 |c::C,k+1,vs,0,h=>by simp[aB]|c::C,k+1,vs,i+1,h=>by
  have:=lZ C k vs i (by simp at h;omega);simp only[aB,afi,this];by_cases H:k<=i/\i<k+Q vs;rw[af H,dM,show i+1-(k+1)=i-k by omega];rw[U H,ah]
theorem mS{g}(C:List g)(k vs)(h:k+Q vs<=Q C):aB C k vs=C.take k++vs++C.drop (k+Q vs):=by
 apply agi;intro i;rw[lZ C k vs i h];by_cases H:i<k;rw[ah,aaj (by simp;omega),aaj (by simp;omega),abv,af H];by_cases j:i<k+Q vs;rw[dM,aaj (by simp;omega),aak (by simp;omega)];simp only[ahP];rw[anz (by omega)];rw[ah,aak (by simp;omega)];simp only[List.length_append,ahP,afw];rw[anz (by omega)];congr 1;omega
theorem JI(b x):cV b [] x=0:=by cases x<;>rfl
theorem iL(b):∀as bs xs y,Q as=Q xs->cV b (as++bs) (xs++y)=cV b as xs+cV b bs y
 |[],bs,[],y,_=>by simp[cV]|[],_,_::_,_,h=>by simp at h|_::_,_,[],_,h=>by simp at h|a::as,bs,x::xs,y,h=>by
  simp only[abb,cV];rw[iL b as bs xs y (by simpa using h)];omega
theorem oT(b n as x)(h:Q as=Q x):cV b as x=cV b (as.take n) (x.take n)+cV b (as.drop n) (x.drop n):=by
 rw[<-iL b _ _ _ _ (by simp[h]),agk,agk]
theorem CO(b n as xs)(h:Q as=Q xs):cV b (as.drop n) (xs.drop n)<=cV b as xs:=by
 have:=oT b n as xs h;omega
theorem X6(b n as x)(h:Q as=Q x):cV b (as.take n) (x.take n)<=cV b as x:=by
 have:=oT b n as x h;omega
theorem wF(b as vs x y k)(H:Q as=Q x)(g:Q vs=Q y)(h:k+Q vs<=Q as):
  cV b (aB as k vs) (aB x k y)<=cV b as x+cV b vs y:=by
 rw[mS _ _ _ h,mS _ _ _ (by omega)];rw[iL b _ _ _ _ (by simp;omega),iL b _ _ _ _ (by simp;omega)];have E:=oT b k as x H;have r:=CO b (Q vs) (as.drop k) (x.drop k) (by simp;omega);rw[afC,afC]at r;rw[g]at *;omega
section
variable {w:World}{G:bT}
theorem dm.aB{as vs xs ys}(h:dm w G as xs)(k:dm w G vs ys){n}(l:n+Q vs<=Q as):dm w G (Ax.aB as n vs) (Ax.aB xs n ys):=by
 refine⟨by rw[fQ,fQ];exact h.1,λi c v H p=>?_⟩;have m:=h.1;have j:=k.1;rw[lZ _ _ _ _ l]at H;rw[lZ _ _ _ _ (by omega)]at p;rw[<-j]at p;split at H;rename_i g;rw[af g]at p;exact k.2 _ c v H p;rename_i g;rw[U g]at p;exact h.2 _ c v H p
theorem bJ.cells{a v}(h:bJ w G a v):dm w G a.cells v.cells.toList/\∀b,cV b a.cells v.cells.toList=iI b a v:=by
 have one:∀{a:AV} {v:Value},bJ w G a v->(∀C,a≠.agg C)->(∀C,v≠.agg C)->dm w G a.cells v.cells.toList/\∀b,cV b a.cells v.cells.toList=iI b a v:=by
  intro a v h g m;have E:a.cells=[a]:=by cases a<;>first|rfl|exact bH rfl (g _)
  have r:v.cells = #[v]:=by cases v<;>first|rfl|exact bH rfl (m _)
  rw[E,r];refine⟨⟨rfl,λi c x H l=>?_⟩,λb=>by simp[cV]⟩;cases i with
  |zero=>simp at H l;subst H;subst l;exact h|succ i=>simp at H
 cases a with
 |agg C=>
  cases h with
  |agg _ vs q N=>exact⟨⟨by simpa [AV.cells,Value.cells] using q,λi c x H l=>N i c x H (by simpa [Value.cells] using l)⟩,λb=>by simp[AV.cells,Value.cells,iI]⟩
 |gone=>
  refine one h (by simp) λC e=>?_;subst e;cases h with|gone _ h=>simp[Value.oneCell']at h
 |mu id D=>
  refine one h (by simp) λC e=>?_;subst e;cases h with|mu _ _ _ _ j=>obtain⟨p,n,c,j⟩:=j;cases j
 |ptr id D i k=>
  refine one h (by simp) λC e=>?_;subst e;cases h with|ptr _ _ _ _ _ _ j=>obtain⟨p,j⟩:=j;cases j
 |undef=>refine one h (by simp) λC e=>?_;subst e;generalize l:Value.agg C=x at h;cases h;cases l|bool _|int _ _|str _|ff|aF|gR|jx|me|fC _|eE _ _|iY _ _|raw _ _|pP|uL _ _ _ _|map _|fn _ _ _=>
  refine one h (by simp) λC e=>?_;subst e;cases h
theorem aaJ{a v}(h:bJ w G a v)(H:a.cT=Y):v.oneCell'=Y:=by
 cases h with
 |agg _ _ _ _=>simp[AV.cT]at H|fC _ _ _ _=>simp[AV.cT]at H|undef=>simp[AV.cT]at H|gone _ h=>exact h|mu _ _ _ _ j=>obtain⟨p,n,c,rfl⟩:=j;rfl|ptr _ _ _ _ _ _ j=>obtain⟨p,rfl⟩:=j;rfl|_=>rfl
theorem dm.afR{as x}(h:dm w G as x)(H:AV.bG as=Y):∀v∈x,v.oneCell'=Y:=by
 intro v p;obtain⟨i,g,rfl⟩:=aav.1 p;have l:i<Q as:=by have:=h.1;omega
 refine aaJ (h.2 i as[i] x[i] (aae l) (aae g)) ?_;simp only[AV.bG,aam]at H;exact H _ (List.getElem_mem l)
theorem dm.mono{as xs w' m}(h:dm w G as xs)(hs:xO w G w' m)(z:∀b,0<cV b as xs->m.qi b=G.qi b/\w'.heap[b]?=w.heap[b]?):dm w' m as xs:=
 ⟨h.1,λi c v H p=>(h.2 i c v H p).lY hs λb l=>z b (by have:=BF b as xs i c v H p;omega)⟩
end
theorem Tw(off l)(C:Array Value)(h:off+Q l<=C.size):
  (l.toArray.zipIdx.foldl (λC (c,j)=>C.setIfInBounds (off+j) c) C).toList=aB C.toList off l:=by
 have key:∀(l:List Value) (s:Nat) (C:Array Value),off+s+Q l<=C.size->
   ((l.zipIdx s).foldl (λ(C:Array Value) (x:Value×Nat)=>C.setIfInBounds (off+x.2) x.1) C).toList=aB C.toList (off+s) l:=by
  intro l;induction l with
  |nil=>intro s C h;simp;rw[mS _ _ _ (by simpa using h)];simp|cons v l I=>
   intro s C h;simp only[aaK]at h;rw[List.zipIdx_cons,List.foldl_cons,I (s+1) _ (by simp;omega)];simp only[Array.toList_setIfInBounds];apply agi;intro i;rw[lZ _ _ _ _ (by simp;omega),lZ _ _ _ _ (by simp;omega)];simp only[aaK];by_cases g:i=off+s;subst g;rw[ah,dM,List.getElem?_set_self (by simp;omega)];simp;by_cases H:off+s<=i/\i<off+s+(Q l+1);rw[dM,af H];have:i-(off+s)=(i-(off+(s+1)))+1:=by omega
   rw[this,afi];rw[ah,U H,List.getElem?_set,ah]
 have:=key l 0 C (by simpa using h);simp only[Nat.add_zero]at this;rw[<-this,<-Array.foldl_toList];simp
end Ax
