/- The library of this proof, part 1: an abstract interpreter of the loaded code, and its soundness. -/
import Derived.Calls
import Derived.Laws.Sem
import Derived.Laws.Entries
import Derived.ChangeKeysEq
import Derived.Laws.StructEq
import Derived.Laws.Pointers
import Derived.Great.FillDense

namespace Ax
open Go
inductive AV where
 |undef|gone
 |bool (b:Bool)|int (k:IntKind) (n:Int)|str (s:List UInt8)
 |eC|U|fh|gV|jt
 |agg (cs:List AV)|fz (vs:List AV)
 |cU (sz:Nat) (rows:List (List AV))
 |own (sz:Nat) (rows:List (List AV))
 |raw (sz:Nat) (rows:List (List AV))
 |emp
 |mu (id bU:Nat)
 |ptr (id bU i k:Nat)
 |n8 (sz:Nat) (rows:List (List AV)) (i k:Nat)
 |map (id:Nat)
 |fn (f:Nat) (first j3:List AV)
 deriving Inhabited
mutual
def AV.au:AV->Bool
 |.mu _ _|.ptr _ _ _ _|.map _=>false
 |.agg cs|.fz cs=>AV.ai cs
 |.fn _ a b=>AV.ai a&&AV.ai b
 |_=>true
def AV.ai:List AV->Bool
 |[]=>true
 |v::r=>v.au&&AV.ai r
end
mutual
def AV.view:AV->AV
 |.own sz rows=>.cU sz rows
 |.raw _ _=>.gone
 |.agg cs=>.agg (AV.cz cs)
 |.fz cs=>.fz (AV.cz cs)
 |v=>v
def AV.cz:List AV->List AV
 |[]=>[]
 |v::r=>v.view::AV.cz r
end
mutual
def AV.same:AV->AV->Bool
 |.undef,.undef|.gone,.gone|.eC,.eC|.U,.U|.fh,.fh|.gV,.gV|.jt,.jt|.emp,.emp=>true
 |.bool a,.bool b=>a==b
 |.int k a,.int l b=>k==l&&a==b
 |.str a,.str b=>a==b
 |.agg a,.agg b|.fz a,.fz b=>AV.pX a b
 |.cU s a,.cU t b|.own s a,.own t b|.raw s a,.raw t b=>s==t&&AV.qt a b
 |.mu i v,.mu j w=>i==j&&v==w
 |.ptr a b c d,.ptr a' b' c' d'=>a==a'&&b==b'&&c==c'&&d==d'
 |.n8 s a i k,.n8 t b j l=>s==t&&AV.qt a b&&i==j&&k==l
 |.map i,.map j=>i==j
 |.fn f a b,.fn g c d=>f==g&&AV.pX a c&&AV.pX b d
 |_,_=>false
def AV.pX:List AV->List AV->Bool
 |[],[]=>true
 |a::x,b::y=>a.same b&&AV.pX x y
 |_,_=>false
def AV.qt:List (List AV)->List (List AV)->Bool
 |[],[]=>true
 |a::x,b::y=>AV.pX a b&&AV.qt x y
 |_,_=>false
end
def AV.cells:AV->List AV
 |.agg cs=>cs
 |v=>[v]
def AV.cw:AV->Bool
 |.agg _|.fz _|.undef=>false
 |_=>true
def AV.aK (cs:List AV):Bool:=cs.all AV.cw
def AV.ir:AV->AV
 |.own _ _=>.gone
 |.raw _ _=>.gone
 |v=>v
inductive dX where
 |none
 |val (v:AV)
 |fp (j k:Nat)
 deriving Inhabited
def dX.view:dX->dX
 |.val v=>.val v.view
 |e=>e
def dX.same:dX->dX->Bool
 |.none,.none=>true
 |.val a,.val b=>a.same b
 |.fp j k,.fp l m=>j==l&&k==m
 |_,_=>false
def dX.ny (j:Nat):dX->Bool
 |.fp j' _=>j' != j
 |_=>true
inductive fB where
 |rows (bU sz:Nat) (rows:List (List AV))
 |map (es:List (AV×AV))
 deriving Inhabited
abbrev an:=List fB
abbrev aX:=List (List AV)
inductive Src where
 |tmp (t:Nat) (mv:Bool)
 |const (a:AV)
 deriving Inhabited
abbrev Env:=List (Nat×dX)
def cC:Env->Nat->dX
 |[],_=>.none
 |(k,e)::r,t=>if k=t then e else cC r t
def tq:Env->Nat->dX->Env
 |[],t,e=>[(t,e)]
 |(k,x)::r,t,e=>if t<k then (t,e)::(k,x)::r else if t=k then (t,e)::r else (k,x)::tq r t e
def zC:Env->Nat->Env
 |[],_=>[]
 |(k,x)::r,t=>if k=t then zC r t else (k,x)::zC r t
def FZ (env:Env):Src->dX
 |.tmp t true=>cC env t
 |.tmp t false=>(cC env t).view
 |.const a=>.val a
def kU:Env->Src->Env
 |env,.tmp t true=>zC env t
 |env,_=>env
structure St where
 env:Env
 bx:aX
 st:an
 deriving Inhabited
inductive Mode where
 |pure|lS|CP
 deriving DecidableEq,Inhabited
inductive SK where
 |bool|int|str
 deriving DecidableEq,Inhabited
inductive LK where
 |str|sl|mp
 deriving DecidableEq,Inhabited
inductive ZY where
 |sc (k:SK)
 |ptr|sl|fn
 |flat (ks:List SK)
 deriving DecidableEq,Inhabited
inductive cL where
 |move
 |pick
 |bin (op:BinOp)
 |eqv (k:ZY) (neg:Bool)
 |Kj (neg:Bool)
 |un (op:UnOp)
 |conv (k:IntKind)
 |toStr
 |len (k:LK)
 |Ee (mx:Bool)
 |nilCheck
 |extract (i:Nat)
 |field (off n:Nat) (agg:Bool)
 |build (zero:List AV) (parts:List (Nat×Nat))
 |lit (sz n:Nat) (zero:List AV) (parts:List Nat)
 |SE (sz n:Nat) (zero:List AV) (parts:List Nat)
 |fieldAddr (off:Nat)
 |indexAddr (sz:Nat)
 |index
 |slice (tr lo hi mx:Bool) (sz:Nat)
 |vZ (sz:Nat)
 |load (agg:Bool) (n:Nat) (take:Bool)
 |aj (j:Nat) (agg:Bool) (n:Nat) (take:Bool)
 |store (n:Nat)
 |ag (j n:Nat)
 |alloc (zero:List AV)
 |aE (j:Nat) (zero:List AV)
 |box (n:Nat)
 |dW (j n:Nat)
 |append (sz bytes:Nat)
 |lT (sz bytes:Nat)
 |rD (sz bytes:Nat) (zero:List AV) (mt:Bool)
 |z5 (sz bytes:Nat) (zero:List AV)
 |uC (sz bytes:Nat) (zero:List AV)
 |SF
 |makeMap
 |mapUpdate (kk:SK)
 |lookup (kk:SK) (zero:AV) (ok:Bool)
 |makeFunc (f afN:Nat)
 |call (f:Nat)
 |oV
 |copy (sz:Nat)
 deriving Inhabited
structure aZ where
 dst:Option Nat
 op:cL
 args:List Src
 guard:Option (Nat×Bool)
 deriving Inhabited
inductive bG where
 |skip
 |region (ops:List aZ) (draw:Option (List (Nat×Nat))) (dc:List Nat)
 |seq (a b:bG)
 |cond (c:Src) (aj8:List Nat) (thn:bG) (aj9:List Nat) (NO:bG)
 |block (id:Nat) (body:bG)
 |loop (body:bG)
 |exit (id:Nat)
 |ret
 |NP (t:Nat)
 |AE (j k:Nat)
 |vo (t off:Nat)
 deriving Inhabited
inductive jP where
 |tmp (t:Nat) (mv:Bool)
 |box (t j n:Nat) (agg:Bool)
 |cell (t:Nat) (n:Nat) (agg:Bool)
 deriving Inhabited
structure aC where
 eL:Nat
 mode:Mode
 nparams:Nat
 aJ:Nat
 dc:List Nat
 results:List jP
 body:bG
 deriving Inhabited
inductive Ex where
 |normal
 |exit (id:Nat)
 |ret (v:AV)
 deriving Inhabited
structure jo where
 call:Nat->Nat->Nat->List AV->an->Option (AV×an)
 loop:Nat->Nat->List jP->bG->St->Option (Ex×St)
def room:Nat:=140737488355328
def CF:SK->AV->AV->Option Bool
 |.bool,.bool a,.bool b=>some (a==b)
 |.int,.int k a,.int l b=>if k=l then some (a==b) else none
 |.str,.str a,.str b=>some (a==b)
 |_,_,_=>none
def CG:List SK->List AV->List AV->Option Bool
 |[],[],[]=>some true
 |k::ks,a::as,b::bs=>match CF k a b,CG ks as bs with
  |some p,some q=>some (p&&q)
  |_,_=>none
 |_,_,_=>none
def Ef:ZY->AV->AV->Option Bool
 |.sc k,a,b=>CF k a b
 |.flat ks,.agg a,.agg b=>CG ks a b
 |.ptr,.eC,.eC=>some true
 |.ptr,.eC,.ptr _ _ _ _|.ptr,.eC,.n8 _ _ _ _|.ptr,.ptr _ _ _ _,.eC|.ptr,.n8 _ _ _ _,.eC=>some false
 |.fn,.gV,.gV=>some true
 |.fn,.gV,.fn _ _ _|.fn,.fn _ _ _,.gV=>some false
 |.sl,.U,.U=>some true
 |.sl,.U,.cU _ _|.sl,.U,.own _ _|.sl,.U,.emp|.sl,.cU _ _,.U|.sl,.own _ _,.U|.sl,.emp,.U=>some false
 |_,_,_=>none
def j4 (op:BinOp)(k:IntKind)(a b:Int):Option AV:=
 match op with
 |.add=>some (.int k (k.wrap (a+b)))
 |.sub=>some (.int k (k.wrap (a-b)))
 |.mul=>some (.int k (k.wrap (a*b)))
 |.quo=>if b=0 then none else some (.int k (k.wrap (a.tdiv b)))
 |.rem=>if b=0 then none else some (.int k (a.tmod b))
 |.and=>some (.int k (k.wrap ((BitVec.ofInt k.bits a &&& BitVec.ofInt k.bits b).toNat)))
 |.eql=>some (.bool (a==b))
 |.neq=>some (.bool (a != b))
 |.lss=>some (.bool (decide (a<b)))
 |.leq=>some (.bool (decide (a<=b)))
 |.gtr=>some (.bool (decide (a > b)))
 |.geq=>some (.bool (decide (a ≥ b)))
 |_=>none
def zD (op:BinOp):AV->AV->Option AV
 |.int k a,.int l b=>if k=l then j4 op k a b else none
 |.str a,.str b=>
  match op with
  |.add=>if a.length+b.length<=4611686018427387904 then some (.str (a++b)) else none
  |.eql=>some (.bool (a==b))
  |.neq=>some (.bool (!(a==b)))
  |_=>none
 |_,_=>none
def WI (op:UnOp):AV->Option AV
 |.int k a=>match op with|.neg=>some (.int k (k.wrap (0-a)))|_=>none
 |.bool b=>match op with|.not=>some (.bool (!b))|_=>none
 |_=>none
def rowsOf (st:an):AV->Option (List (List AV))
 |.U|.emp=>some []
 |.cU _ rows|.own _ rows=>some rows
 |.mu id bU=>match st[id]? with
  |some (.rows v _ rows)=>if v=bU then some rows else none
  |_=>none
 |_=>none
def ee (s:List UInt8):List (List AV):=s.map λb=>[.int .u8 b.toNat]
def dy (st:an):AV->Option (List (List AV))
 |.str s=>some (ee s)
 |.mu id bU=>match rowsOf st (.mu id bU) with|some rows=>some (rows.map AV.cz)|none=>none
 |v=>rowsOf st v
def fits (sz:Nat)(rows:List (List AV)):Bool:=rows.all λr=>r.length==sz
def mJ (st:an):LK->AV->Option Nat
 |.str,.str s=>some s.length
 |.mp,.fh=>some 0
 |.mp,.map id=>match st[id]? with|some (.map es)=>some es.length|_=>none
 |.sl,v=>match rowsOf st v with|some rows=>some rows.length|none=>none
 |_,_=>none
def cut (cs:List AV)(k n:Nat):Option (List AV):=if k+n<=cs.length then some ((cs.drop k).take n) else none
def fN (st:an):AV->Nat->Option (List AV)
 |.ptr id bU i k,n=>match st[id]? with
  |some (.rows v _ rows)=>if v=bU then match rows[i]? with|some r=>cut r k n|none=>none else none
  |_=>none
 |.n8 _ rows i k,n=>match rows[i]? with|some r=>cut r k n|none=>none
 |_,_=>none
def af {α:Type}:List α->Nat->List α->List α
 |cs,0,[]=>cs
 |_::cs,0,v::vs=>v::af cs 0 vs
 |c::cs,k+1,vs=>c::af cs k vs
 |[],_,_=>[]
def bp (wl aa id:Nat)(cells:List AV):Bool:=decide (wl<=id)&&(decide (aa<=id)||AV.ai cells)
def dL (wl aa:Nat)(st:an):AV->List AV->Option an
 |.ptr id bU i k,cells=>match st[id]? with
  |some (.rows v sz rows)=>
   if v=bU&&bp wl aa id cells then
    match rows[i]? with
    |some r=>if k+cells.length<=r.length then some (st.set id (.rows v sz (rows.set i (af r k cells)))) else none
    |none=>none
   else none
  |_=>none
 |_,_=>none
def bZ (agg:Bool)(cells:List AV):Option AV:=
 if agg then some (.agg cells) else match cells with | [v]=>some v|_=>none
def gO:List AV->List (Nat×Nat)->List AV->Option (List AV)
 |cs,[],[]=>some cs
 |cs,(off,n)::ps,v::vs=>
  if v.cells.length=n&&off+n<=cs.length then gO (af cs off v.cells) ps vs else none
 |_,_,_=>none
def fG (sz:Nat):List (List AV)->List Nat->List AV->Option (List (List AV))
 |rows,[],[]=>some rows
 |rows,i::ps,v::vs=>if v.cells.length=sz&&i<rows.length then fG sz (rows.set i v.cells) ps vs else none
 |_,_,_=>none
def pY (kk:SK)(k:AV):List (AV×AV)->Option (Option AV)
 |[]=>some none
 |(a,v)::r=>match CF kk k a with|some true=>some (some v)|some false=>pY kk k r|none=>none
def CQ (kk:SK)(k v:AV):List (AV×AV)->Option (List (AV×AV))
 |[]=>some [(k,v)]
 |(a,u)::r=>match CF kk k a with
  |some true=>some ((k,v)::r)
  |some false=>match CQ kk k v r with|some r'=>some ((a,u)::r')|none=>none
  |none=>none
def isKey:SK->AV->Bool
 |.int,.int _ _|.str,.str _|.bool,.bool _=>true
 |_,_=>false
def iz:List dX->Option (List AV)
 |[]=>some []
 |.val v::r=>match iz r with|some vs=>some (v::vs)|none=>none
 |_::_=>none
def bytesOf:List (List AV)->Option (List UInt8)
 |[]=>some []
 |[.int .u8 n]::r=>if 0<=n/\n<256 then match bytesOf r with|some l=>some (UInt8.ofNat n.toNat::l)|none=>none else none
 |_=>none
def pZ (has:Bool)(WJ:Int)(l:List dX):Option (Int×List dX):=
 if has then match l with|.val (.int .i64 n)::r=>some (n,r)|_=>none else some (WJ,l)
def jx (tr:Bool)(sz:Nat)(x:AV)(lo hi:Int)(mx:Option Int):Option AV:=
 match tr,x with
 |true,.str s=>if mx.isNone&&decide (0<=lo)&&decide (lo<=hi)&&decide (hi<=s.length) then some (.str ((s.take hi.toNat).drop lo.toNat)) else none
 |false,.U=>if lo=0&&hi=0&&(match mx with|some m=>m==0|none=>true) then some .U else none
 |false,.emp=>if lo=0&&hi=0&&(match mx with|some m=>m==0|none=>true) then some .emp else none
 |false,.cU s rows|false,.own s rows=>
  match mx with
  |none=>if s=sz&&decide (0<=lo)&&decide (lo<=hi)&&decide (hi<=rows.length) then some (.cU sz ((rows.take hi.toNat).drop lo.toNat)) else none
  |some m=>if lo=0&&hi=0&&m=0 then some .emp else none
 |_,_=>none
def yc (wl aa sz bytes:Nat)(s:AV)(new:List (List AV))(st:an)(bx:aX):Option (dX×an×aX):=
 if fits sz new then match s with
  |.U=>if new.isEmpty then some (.val .U,st,bx) else if new.length*bytes<=room then some (.val (.mu st.length 0),st++[.rows 0 sz new],bx) else none
  |.emp=>if new.length*bytes<=room then some (.val (.mu st.length 0),st++[.rows 0 sz new],bx) else none
  |.mu id bU=>match st[id]? with
   |some (.rows v iP old)=>
    if v=bU&&iP=sz&&decide ((old.length+new.length)*bytes<=room)&&decide (wl<=id)&&(decide (aa<=id)||new.all AV.ai) then
     some (.val (.mu id (v+1)),st.set id (.rows (v+1) sz (old++new)),bx) else none
   |_=>none
  |_=>none else none
def aL (wl aa:Nat)(op:cL)(vals:List dX)(st:an)(bx:aX):Option (dX×an×aX):=
 match op with
 |.move=>match vals with
  |[e]=>some (e,st,bx)
  |_=>none
 |.pick=>match vals with
  |[.val (.bool b),x,y]=>some (if b then x else y,st,bx)
  |_=>none
 |.bin op=>match vals with
  |[.val x,.val y]=>match zD op x y with|some v=>some (.val v,st,bx)|none=>none
  |_=>none
 |.eqv k neg=>match vals with
  |[.val x,.val y]=>match Ef k x y with|some b=>some (.val (.bool (if neg then !b else b)),st,bx)|none=>none
  |_=>none
 |.Kj neg=>match vals with
  |[.val (.mu id bU),.val .U]=>match st[id]? with
   |some (.rows v _ _)=>if v=bU then some (.val (.bool neg),st,bx) else none
   |_=>none
  |_=>none
 |.un op=>match vals with
  |[.val x]=>match WI op x with|some v=>some (.val v,st,bx)|none=>none
  |_=>none
 |.conv k=>match vals with
  |[.val (.int _ n)]=>some (.val (.int k (k.wrap n)),st,bx)
  |_=>none
 |.toStr=>match vals with
  |[.val x]=>match rowsOf st x with
   |some rows=>match bytesOf rows with|some s=>some (.val (.str s),st,bx)|none=>none
   |none=>none
  |_=>none
 |.len k=>match vals with
  |[.val x]=>match mJ st k x with|some n=>some (.val (.int .i64 n),st,bx)|none=>none
  |_=>none
 |.Ee mx=>match vals with
  |[.val (.int k a),.val (.int l b)]=>
   if k=l then some (.val (.int k (if mx then (if b > a then b else a) else (if b<a then b else a))),st,bx) else none
  |_=>none
 |.nilCheck=>match vals with
  |[.fp j k]=>some (.fp j k,st,bx)
  |[.val x]=>match x with
   |.ptr .. | .n8 ..=>some (.val x,st,bx)
   |_=>none
  |_=>none
 |.extract i=>match vals with
  |[.val (.fz vs)]=>match vs[i]? with|some v=>some (.val v,st,bx)|none=>none
  |_=>none
 |.field off n agg=>match vals with
  |[.val (.agg cs)]=>match cut cs off n with
   |some r=>match bZ agg r with|some v=>some (.val v,st,bx)|none=>none
   |none=>none
  |_=>none
 |.build zero parts=>match vals with
  |l=>match iz l with
   |some vs=>match gO zero parts vs with|some cs=>some (.val (.agg cs),st,bx)|none=>none
   |none=>none
 |.lit sz n zero parts=>match vals with
  |l=>match iz l with
   |some vs=>match fG sz (List.replicate n zero) parts (AV.cz vs) with
    |some rows=>if rows.all AV.ai&&rows.all AV.aK then some (.val (if n=0 then .emp else .cU sz rows),st,bx) else none
    |none=>none
   |none=>none
 |.SE sz n zero parts=>match vals with
  |l=>match iz l with
   |some vs=>match fG sz (List.replicate n zero) parts vs with
    |some rows=>if rows.all AV.aK&&decide (0<n) then some (.val (.mu st.length 0),st++[.rows 0 sz rows],bx) else none
    |none=>none
   |none=>none
 |.fieldAddr off=>match vals with
  |[.fp j k]=>some (.fp j (k+off),st,bx)
  |[.val (.ptr id bU i k)]=>some (.val (.ptr id bU i (k+off)),st,bx)
  |[.val (.n8 sz rows i k)]=>some (.val (.n8 sz rows i (k+off)),st,bx)
  |_=>none
 |.indexAddr sz=>match vals with
  |[.val x,.val (.int .i64 i)]=>match x with
   |.cU s rows|.own s rows=>if s=sz&&decide (0<=i)&&decide (i<rows.length) then some (.val (.n8 sz rows i.toNat 0),st,bx) else none
   |.mu id bU=>match st[id]? with
    |some (.rows v s rows)=>if v=bU&&s=sz&&decide (0<=i)&&decide (i<rows.length) then some (.val (.ptr id bU i.toNat 0),st,bx) else none
    |_=>none
   |_=>none
  |_=>none
 |.index=>match vals with
  |[.val (.str s),.val (.int .i64 i)]=>
   if 0<=i then match s[i.toNat]? with|some b=>some (.val (.int .u8 b.toNat),st,bx)|none=>none else none
  |_=>none
 |.slice tr lo hi mx sz=>match vals with
  |.val x::l=>match mJ st (if tr then .str else .sl) x with
   |none=>none
   |some n=>match pZ lo 0 l with
    |none=>none
    |some (a,l)=>match pZ hi n l with
     |none=>none
     |some (b,l)=>match mx,l with
      |false,[]=>match jx tr sz x a b none with|some v=>some (.val v,st,bx)|none=>none
      |true,[.val (.int .i64 m)]=>match jx tr sz x a b (some m) with|some v=>some (.val v,st,bx)|none=>none
      |_,_=>none
  |_=>none
 |.vZ sz=>match vals with
  |[.val (.mu id bU),.val (.int .i64 hi)]=>match st[id]? with
   |some (.rows v s rows)=>if v=bU&&s=sz&&decide (0<=hi)&&decide (hi<=rows.length)&&decide (wl<=id) then
     some (.val (.mu id (v+1)),st.set id (.rows (v+1) s (rows.take hi.toNat)),bx) else none
   |_=>none
  |_=>none
 |.load agg n take=>match vals with
  |[.val p]=>match fN st p n with
   |some cs=>
    if take then
     match dL wl aa st p (cs.map AV.ir),bZ agg cs with
     |some bP,some v=>some (.val v,bP,bx)
     |_,_=>none
    else match bZ agg (AV.cz cs) with|some v=>some (.val v,st,bx)|none=>none
   |none=>none
  |_=>none
 |.aj j agg n take=>match vals with
  |[.fp j' k]=>if j=j' then match bx[j]? with
    |some row=>match cut row k n with
     |some cs=>
      if take then match bZ agg cs with|some v=>some (.val v,st,bx.set j (af row k (cs.map AV.ir)))|none=>none
      else match bZ agg (AV.cz cs) with|some v=>some (.val v,st,bx)|none=>none
     |none=>none
    |none=>none
   else none
  |_=>none
 |.store n=>match vals with
  |[.val p,.val v]=>if v.cells.length=n&&AV.aK v.cells then
    match dL wl aa st p v.cells with|some bP=>some (.none,bP,bx)|none=>none else none
  |_=>none
 |.ag j n=>match vals with
  |[.fp j' k,.val v]=>if j=j'&&v.cells.length=n&&AV.aK v.cells then match bx[j]? with
    |some row=>if k+n<=row.length then some (.none,st,bx.set j (af row k v.cells)) else none
    |none=>none
   else none
  |_=>none
 |.alloc zero=>match vals with
  |[]=>some (.val (.ptr st.length 0 0 0),st++[.rows 0 zero.length [zero]],bx)
  |_=>none
 |.aE j zero=>match vals with
  |[]=>if j<bx.length then some (.fp j 0,st,bx.set j zero) else none
  |_=>none
 |.box n=>match vals with
  |[.val v]=>if v.cells.length=n&&AV.aK v.cells then some (.val (.ptr st.length 0 0 0),st++[.rows 0 n [v.cells]],bx) else none
  |_=>none
 |.dW j n=>match vals with
  |[.val v]=>if j<bx.length&&v.cells.length=n&&AV.aK v.cells then some (.fp j 0,st,bx.set j v.cells) else none
  |_=>none
 |.append sz bytes=>match vals with
  |[.val s,.val x]=>match dy [] x with
   |none=>none
   |some new=>if fits sz new then match s with
    |.U|.emp=>if new.isEmpty then some (.val s,st,bx) else if new.length*bytes<=room then some (.val (.own sz new),st,bx) else none
    |.own iP old=>if iP=sz&&decide ((old.length+new.length)*bytes<=room) then some (.val (.own sz (old++new)),st,bx) else none
    |_=>none else none
  |_=>none
 |.lT sz bytes=>match vals with
  |[.val s,.val x]=>match dy st x with
   |none=>none
   |some new=>yc wl aa sz bytes s new st bx
  |_=>none
 |.rD sz bytes zero mt=>match vals with
  |[.val (.int .i64 n),.val (.int .i64 c)]=>
   if 0<=n/\n<=c/\c*bytes<=room/\zero.length=sz then
    if mt then some (.val (.mu st.length 0),st++[.rows 0 sz (List.replicate n.toNat zero)],bx)
    else if AV.ai zero then some (.val (.own sz (List.replicate n.toNat zero)),st,bx) else none
   else none
  |_=>none
 |.z5 sz bytes zero=>match vals with
  |[.val (.int .i64 n),.val (.int .i64 c)]=>
   if 0<=n/\n<=c/\c*bytes<=room/\zero.length=sz/\AV.ai zero=true then some (.val (.raw sz (List.replicate n.toNat zero)),st,bx) else none
  |_=>none
 |.uC sz bytes zero=>match vals with
  |[.val s,.val (.int .i64 n)]=>
   if 0<=n/\n*bytes<=room/\zero.length=sz/\AV.ai zero=true then yc wl aa sz bytes s (List.replicate n.toNat zero) st bx else none
  |_=>none
 |.SF=>match vals with
  |[.val .U]=>some (.val (.int .i64 0),st,bx)
  |_=>none
 |.makeMap=>match vals with
  |[]=>some (.val (.map st.length),st++[.map []],bx)
  |_=>none
 |.mapUpdate kk=>match vals with
  |[.val (.map id),.val k,.val v]=>match st[id]? with
   |some (.map es)=>if isKey kk k&&bp wl aa id [v] then match CQ kk k v.view es with|some tu=>some (.none,st.set id (.map tu),bx)|none=>none else none
   |_=>none
  |_=>none
 |.lookup kk zero ok=>match vals with
  |[.val m,.val k]=>
   match (match m with|.fh=>some []|.map id=>(match st[id]? with|some (.map es)=>some es|_=>none)|_=>none) with
   |none=>none
   |some es=>if isKey kk k then match pY kk k es with
    |none=>none
    |some r=>let v:=r.getD zero
     some (.val (if ok then .fz [v,.bool r.isSome] else v),st,bx)
    else none
  |_=>none
 |.makeFunc f n=>match vals with
  |l=>match iz l with
   |some vs=>some (.val (.fn f (AV.cz (vs.take n)) (AV.cz (vs.drop n))),st,bx)
   |none=>none
 |.copy sz=>match vals with
  |[.val (.mu id bU),.val x]=>match st[id]?,dy st x with
   |some (.rows v iP old),some new=>
    if v=bU&&iP=sz&&fits sz new&&decide (new.length<=old.length)&&decide (wl<=id)&&(decide (aa<=id)||new.all AV.ai) then
     some (.val (.int .i64 new.length),st.set id (.rows v sz (new++old.drop new.length)),bx) else none
   |_,_=>none
  |_=>none
 |.call _|.oV=>none
def kV:cL->List dX->Option (Nat×List AV)
 |.call f,l=>match iz l with
  |some vs=>some (f,vs)
  |none=>none
 |.oV,.val (.fn f first j3)::l=>match iz l with
  |some vs=>some (f,first++vs++j3)
  |none=>none
 |_,_=>none
def eY (O:jo)(wl aa:Nat)(x:Option (Nat×List AV))(st:an)(bx:aX):Option (dX×an×aX):=
 match x with
 |some (f,vs)=>match O.call wl aa f vs st with|some (v,bP)=>some (.val v,bP,bx)|none=>none
 |none=>none
def act (O:jo)(wl aa:Nat)(op:cL)(vals:List dX)(st:an)(bx:aX):Option (dX×an×aX):=
 match op with
 |.call f=>eY O wl aa (kV (.call f) vals) st bx
 |.oV=>eY O wl aa (kV .oV vals) st bx
 |op=>aL wl aa op vals st bx
def cL.aF:cL->Option Nat
 |.aE j _|.dW j _=>some j
 |_=>none
def vp (env:Env)(dst:Option Nat)(e:dX):Env:=
 match dst with
 |some d=>tq env d e
 |none=>env
def kZ (env:Env):Option (Nat×Bool)->Option Bool
 |none=>some true
 |some (t,b)=>match cC env t with
  |.val (.bool c)=>some (c==b)
  |.val .undef=>some false
  |_=>none
def cP (j:Nat)(env:Env):Bool:=env.all λx=>x.2.ny j
def evalOp (O:jo)(wl aa:Nat)(o:aZ)(s:St):Option St:=
 match kZ s.env o.guard with
 |none=>none
 |some false=>some { s with env:=vp s.env o.dst (.val .undef) }
 |some true=>
  match act O wl aa o.op (o.args.map (FZ s.env)) s.st s.bx with
  |none=>none
  |some (e,bP,eR)=>
   match o.op.aF with
   |none=>some ⟨vp (o.args.foldl kU s.env) o.dst e,eR,bP⟩
   |some j=>if cP j (vp (o.args.foldl kU s.env) o.dst .none) then some ⟨vp (o.args.foldl kU s.env) o.dst e,eR,bP⟩ else none
def eM (O:jo)(wl aa:Nat):List aZ->St->Option St
 |[],s=>some s
 |o::l,s=>match evalOp O wl aa o s with|some s'=>eM O wl aa l s'|none=>none
def dD (O:jo)(wl aa:Nat):List aZ->St->Option (St×List St)
 |[],s=>some (s,[s])
 |o::l,s=>match evalOp O wl aa o s with
  |some s'=>match dD O wl aa l s' with|some (e,l')=>some (e,s::l')|none=>none
  |none=>none
def cV (O:jo)(wl aa:Nat)(o:aZ)(s t:St)(st:an):Bool:=
 match kZ s.env o.guard with
 |none=>false
 |some false=>true
 |some true=>
  match act O wl aa o.op (o.args.map (FZ s.env)) st s.bx with
  |some (e,_,_)=>(match o.dst with|some d=>(cC t.env d).same e|none=>false)
  |none=>false
def xSt (wl aa:Nat)(ops:List aZ)(gw:List St)(p q:Nat):Option an:=
 match ops[p]?,gw[p]?,ops[q]?,gw[q]? with
 |some a,some s,some b,some t=>
  match a.op,a.args.map (FZ s.env),b.op,b.args.map (FZ t.env) with
  |.store _,[.val (.ptr i _ _ _),.val _],.store m,[.val (.ptr j v x y),.val u]=>
   if i=j then none else match aL wl aa (.store m) [.val (.ptr j v x y),.val u] s.st [] with
   |some (_,X,_)=>some X
   |none=>none
  |_,_,_,_=>none
 |_,_,_,_=>none
def gW (O:jo)(wl aa:Nat)(ops:List aZ)(gw:List St):Nat×Nat->Bool
 |(q,w)=>if q<100000 then match ops[q]?,gw[q]?,gw[q+1]?,gw[w]?,gw[w+1]? with
   |some o,some s,some t,some a,some b=>cV O wl aa o s t a.st&&cV O wl aa o s t b.st
   |_,_,_,_,_=>false
  else match xSt wl aa ops gw (q % 100000) w with
   |none=>false
   |some X=>if q<200000 then true else match ops[q / 100000-2]?,gw[q / 100000-2]?,gw[q / 100000-2+1]? with
    |some o,some s,some t=>cV O wl aa o s t X
    |_,_,_=>false
def aI (env:Env)(o:aZ):Bool:=match o.op.aF with|some j=>cP j env|none=>true
def fH (O:jo)(wl aa:Nat)(ops:List aZ)(bH:List (Nat×Nat))(s:St):Option St:=
 match dD O wl aa ops s with
 |none=>none
 |some (e,gw)=>
  if bH.all (gW O wl aa ops gw)&&ops.all (aI s.env) then some e else none
def gX:List Nat->Env->Env
 |[],env=>env
 |t::l,env=>gX l (zC env t)
def oW (env:Env)(c:Src):Option Bool:=
 match FZ env c with
 |.val (.bool b)=>some b
 |_=>none
def p7 (wl:Nat)(v:AV)(st:an):Option (AV×an):=
 match v with
 |.mu id bU=>match st[id]? with
  |some (.rows v sz rows)=>if v=bU&&rows.all AV.ai && !rows.isEmpty&&decide (wl<=id) then some (.cU sz (rows.map AV.cz),st.set id (.rows (v+1) sz [])) else none
  |_=>none
 |v=>if v.au&&v.cw then some (v.view,st) else none
def kA (wl:Nat):List AV->an->Option (List AV×an)
 |[],st=>some ([],st)
 |v::l,st=>match p7 wl v st with
  |some (v',bP)=>match kA wl l bP with
   |some (l',LP)=>some (v'::l',LP)
   |none=>none
  |none=>none
def kW (wl:Nat):List (List AV)->an->Option (List (List AV)×an)
 |[],st=>some ([],st)
 |r::l,st=>match kA wl r st with
  |some (r',bP)=>match kW wl l bP with
   |some (l',LP)=>some (r'::l',LP)
   |none=>none
  |none=>none
def jy (wl:Nat)(v:AV)(st:an):Option (AV×an):=
 match v with
 |.mu id bU=>match st[id]? with
  |some (.rows v sz rows)=>if v=bU && !rows.isEmpty&&decide (wl<=id) then
    match kW wl rows (st.set id (.rows (v+1) sz [])) with
    |some (dJ,bP)=>some (.cU sz dJ,bP)
    |none=>none
   else none
  |_=>none
 |.U=>some (.U,st)
 |_=>none
def om (wl:Nat)(v:AV)(st:an):Option (AV×an):=
 match v with
 |.raw sz rows=>some (.mu st.length 0,st++[.rows 0 sz rows])
 |v=>jy wl v st
def AF (s:St):jP->Option AV
 |.tmp t mv=>match FZ s.env (.tmp t mv) with|.val v=>some v|_=>none
 |.box t j n agg=>match cC s.env t,s.bx[j]? with|.fp i 0,some row=>if i=j&&row.length=n then bZ agg row else none|_,_=>none
 |.cell t n agg=>match cC s.env t with
  |.val p=>match fN s.st p n with|some cs=>bZ agg (AV.cz cs)|none=>none
  |_=>none
def v7 (s:St):List jP->Option (List AV)
 |[]=>some []
 |r::l=>match AF s r,v7 s l with
  |some v,some vs=>some (v::vs)
  |_,_=>none
def v8 (s:St)(l:List jP):Option AV:=
 match v7 s l with
 |some [v]=>some v
 |some vs=>some (.fz vs)
 |none=>none
def gu (O:jo)(wl aa:Nat)(rs:List jP):bG->St->Option (Ex×St)
 |.skip,s=>some (.normal,s)
 |.region ops draw dc,s=>
  match (match draw with|none=>eM O wl aa ops s|some bH=>fH O wl aa ops bH s) with
  |some s'=>some (.normal,{ s' with env:=gX dc s'.env })
  |none=>none
 |.seq a b,s=>match gu O wl aa rs a s with
  |some (.normal,s')=>gu O wl aa rs b s'
  |r=>r
 |.cond c ca a cb b,s=>match oW s.env c with
  |some true=>gu O wl aa rs a { s with env:=gX ca (kU s.env c) }
  |some false=>gu O wl aa rs b { s with env:=gX cb (kU s.env c) }
  |none=>none
 |.block id c,s=>match gu O wl aa rs c s with
  |some (.exit VB,s')=>if VB=id then some (.normal,s') else some (.exit VB,s')
  |r=>r
 |.loop c,s=>O.loop wl aa rs c s
 |.exit id,s=>some (.exit id,s)
 |.ret,s=>match v8 s rs with|some v=>some (.ret v,⟨[],[],s.st⟩)|none=>none
 |.NP t,s=>match cC s.env t with
  |.val v=>match jy wl v s.st with
   |some (v',bP)=>some (.normal,⟨tq s.env t (.val v'),s.bx,bP⟩)
   |none=>none
  |_=>none
 |.AE j k,s=>match s.bx[j]? with
  |some row=>match row[k]? with
   |some v=>match jy wl v s.st with
    |some (v',bP)=>some (.normal,⟨s.env,s.bx.set j (af row k [v']),bP⟩)
    |none=>none
   |none=>none
  |none=>none
 |.vo t off,s=>match cC s.env t with
  |.val (.ptr id bU i k)=>match fN s.st (.ptr id bU i (k+off)) 1 with
   |some [v]=>match om wl v s.st with
    |some (v',bP)=>match dL wl aa bP (.ptr id bU i (k+off)) [v'] with
     |some lN=>some (.normal,⟨s.env,s.bx,lN⟩)
     |none=>none
    |none=>none
   |_=>none
  |_=>none
def Dh:Nat->List AV->Env
 |_,[]=>[]
 |k,v::r=>(k,.val v)::Dh (k+1) r
def Mode.v9:Mode->Nat->Nat->Nat
 |.pure,n,_=>n
 |_,_,wl=>wl
def Mode.oX:Mode->Nat->Nat->Nat
 |.CP,_,aa=>aa
 |_,n,_=>n
def Mode.fin (m:Mode)(st:an)(v:AV)(bP:an):Option (AV×an):=
 match m with
 |.pure=>if v.au then some (v,st) else none
 |.lS=>if v.au then some (v,bP.take st.length) else none
 |.CP=>some (v,bP)
def CS (rs:List jP):Ex->St->Option AV
 |.exit _,_=>none
 |.ret v,_=>some v
 |.normal,s=>v8 s rs
def oY (sf:aC)(args:List AV)(st:an):St:=⟨gX sf.dc (Dh 0 args),List.replicate sf.aJ [],st⟩
def cQ (O:jo)(wl aa:Nat)(sf:aC)(args:List AV)(st:an):Option (AV×an):=
 if args.length=sf.nparams then
  match gu O (sf.mode.v9 st.length wl) (sf.mode.oX st.length aa) sf.results sf.body (oY sf args st) with
  |some (x,s)=>match CS sf.results x s with
   |some v=>sf.mode.fin st v s.st
   |none=>none
  |none=>none
 else none
def alone (sf:aC)(args:List AV):Bool:=decide (sf.mode=.pure)&&AV.ai args
def dO (O:jo)(wl aa:Nat)(sf:aC)(args:List AV)(st:an):Option (AV×an):=
 if alone sf args then (cQ O 0 0 sf args []).map λr=>(r.1,st) else cQ O wl aa sf args st
def nQ (S:Nat->Option aC):Nat->jo
 |0=>⟨λ_ _ _ _ _=>none,λ_ _ _ _ _=>none⟩
 |n+1=>
  ⟨λwl aa f args st=>match S f with
   |some sf=>dO (nQ S n) wl aa sf args st
   |none=>none,
   λwl aa rs c s=>match gu (nQ S n) wl aa rs c s with
   |some (.normal,s')=>(nQ S n).loop wl aa rs c s'
   |r=>r⟩
def NQ (SG Eg:List (Option aC))(n:Nat):Option aC:=if n<100000 then (SG[n]?).getD none else (Eg[n-100000]?).getD none
end Ax
namespace Ax
open Go
structure jo.le (A B:jo):Prop where
 call:∀wl aa f args st r,A.call wl aa f args st=some r->B.call wl aa f args st=some r
 loop:∀wl aa rs c s r,A.loop wl aa rs c s=some r->B.loop wl aa rs c s=some r
theorem jo.le_refl (A:jo):A.le A:=⟨λ_ _ _ _ _ _ h=>h,λ_ _ _ _ _ _ h=>h⟩
theorem jo.le_trans {A B C:jo}(h:A.le B)(k:B.le C):A.le C:=
 ⟨λ_ _ _ _ _ _ x=>k.call _ _ _ _ _ _ (h.call _ _ _ _ _ _ x),λ_ _ _ _ _ _ x=>k.loop _ _ _ _ _ _ (h.loop _ _ _ _ _ _ x)⟩
structure Sup (o:Nat->jo)(L:jo):Prop where
 mono:∀n,(o n).le (o (n+1))
 call:∀wl aa f args st r,L.call wl aa f args st=some r->∃n,(o n).call wl aa f args st=some r
 loop:∀wl aa rs c s r,L.loop wl aa rs c s=some r->∃n,(o n).loop wl aa rs c s=some r
theorem Sup.le {o:Nat->jo}{L:jo}(h:Sup o L)(n k:Nat):(o n).le (o (n+k)):=by
 induction k with
 |zero=>exact jo.le_refl _
 |succ k ih=>exact jo.le_trans ih (h.mono (n+k))
theorem Ga (A B:jo)(wl aa:Nat)(op:cL)(vals:List dX)(st:an)(bx:aX)(h1:∀f,op≠.call f)(h2:op≠.oV) :
  act A wl aa op vals st bx=act B wl aa op vals st bx:=by
 cases op<;>first|rfl|exact absurd rfl (h1 _)|exact absurd rfl h2
theorem wP {A B:jo}(tA:A.le B){wl aa:Nat}{x:Option (Nat×List AV)}{st:an}{bx:aX}{r:dX×an×aX}
  (h:eY A wl aa x st bx=some r):eY B wl aa x st bx=some r:=by
 unfold eY at h ⊢
 split at h
 ·rename_i f vs
  cases hc:A.call wl aa f vs st with
  |none=>simp[hc]at h
  |some x=>rw[hc]at h;rw[tA.call _ _ _ _ _ _ hc];exact h
 ·cases h
theorem Gb {A B:jo}(tA:A.le B){wl aa:Nat}{op:cL}{vals:List dX}{st:an}{bx:aX}{r:dX×an×aX}
  (h:act A wl aa op vals st bx=some r):act B wl aa op vals st bx=some r:=by
 by_cases h1:∃f,op=.call f
 ·obtain⟨f,rfl⟩:=h1
  exact wP tA h
 ·by_cases h2:op=.oV
  ·subst h2
   exact wP tA h
  ·rw[<-Ga A B wl aa op vals st bx (λf e=>h1 ⟨f,e⟩) h2];exact h
theorem p8 {A B:jo}(tA:A.le B){wl aa:Nat}{o:aZ}{s r:St}(h:evalOp A wl aa o s=some r):evalOp B wl aa o s=some r:=by
 unfold evalOp at h ⊢
 split at h
 ·cases h
 ·exact h
 ·split at h
  ·cases h
  ·rename_i e bP eR ha
   rw[Gb tA ha]
   exact h
theorem rE {A B:jo}(tA:A.le B){wl aa:Nat}:∀{l:List aZ}{s r:St},eM A wl aa l s=some r->eM B wl aa l s=some r
 |[],_,_,h=>h
 |o::l,s,r,h=>by
  unfold eM at h ⊢
  split at h
  ·rename_i s' hs;rw[p8 tA hs];exact rE tA h
  ·cases h
theorem oo {A B:jo}(tA:A.le B){wl aa:Nat}:∀{l:List aZ}{s:St} {r},dD A wl aa l s=some r->dD B wl aa l s=some r
 |[],_,_,h=>h
 |o::l,s,r,h=>by
  unfold dD at h ⊢
  split at h
  ·rename_i s' hs
   rw[p8 tA hs]
   split at h
   ·rename_i e l' hr
    simp only[oo tA hr];exact h
   ·cases h
  ·cases h
theorem j5 {A B:jo}(tA:A.le B){wl aa:Nat}{o:aZ}{s t:St}{st:an}(h:cV A wl aa o s t st=true):cV B wl aa o s t st=true:=by
 unfold cV at h ⊢
 split at h
 ·cases h
 ·rfl
 ·split at h
  ·rename_i e _ _ ha;rw[Gb tA ha];exact h
  ·cases h
theorem p9 {A B:jo}(tA:A.le B){wl aa:Nat}{ops:List aZ}{gw:List St}{x:Nat×Nat}(h:gW A wl aa ops gw x=true):gW B wl aa ops gw x=true:=by
 obtain⟨q,w⟩:=x
 unfold gW at h ⊢
 by_cases h1:q<100000
 ·simp only[h1,if_true]at h ⊢
  split at h
  ·simp only[Bool.and_eq_true]at h ⊢
   exact⟨j5 tA h.1,j5 tA h.2⟩
  ·cases h
 ·simp only[h1,if_false]at h ⊢
  split at h
  ·cases h
  ·by_cases h2:q<200000
   ·simp only[h2,if_true]
   ·simp only[h2,if_false]at h ⊢
    split at h
    ·exact j5 tA h
    ·cases h
theorem CT {A B:jo}(tA:A.le B){wl aa:Nat}{ops:List aZ}{bH:List (Nat×Nat)}{s r:St}(h:fH A wl aa ops bH s=some r):fH B wl aa ops bH s=some r:=by
 unfold fH at h ⊢
 split at h
 ·cases h
 ·rename_i e gw hr
  split at h
  ·rename_i hc
   cases h
   rw[oo tA hr]
   simp only[Bool.and_eq_true,List.all_eq_true]at hc
   have h1:bH.all (gW B wl aa ops gw)=true:=by
    rw[List.all_eq_true];exact λx hx=>p9 tA (hc.1 x hx)
   have h2:ops.all (aI s.env)=true:=by
    rw[List.all_eq_true];exact hc.2
   simp only[h1,h2,Bool.and_self,if_true]
  ·cases h
theorem j6 {A B:jo}(tA:A.le B){wl aa:Nat}{rs:List jP}:∀{c:bG}{s:St} {r},gu A wl aa rs c s=some r->gu B wl aa rs c s=some r
 |.skip,_,_,h=>h
 |.region ops draw dc,s,r,h=>by
  unfold gu at h ⊢
  cases draw with
  |none=>
   simp only at h ⊢
   split at h
   ·rename_i s' hs;rw[rE tA hs];exact h
   ·cases h
  |some bH=>
   simp only at h ⊢
   split at h
   ·rename_i s' hs;rw[CT tA hs];exact h
   ·cases h
 |.seq a b,s,r,h=>by
  unfold gu at h ⊢
  cases ha:gu A wl aa rs a s with
  |none=>rw[ha]at h;cases h
  |some x=>
   rw[ha]at h
   rw[j6 tA ha]
   obtain⟨e,s'⟩:=x
   cases e with
   |normal=>exact j6 tA h
   |exit id=>exact h
   |ret v=>exact h
 |.cond c ca a cb b,s,r,h=>by
  unfold gu at h ⊢
  split at h
  ·exact j6 tA h
  ·exact j6 tA h
  ·cases h
 |.block id c,s,r,h=>by
  unfold gu at h ⊢
  cases ha:gu A wl aa rs c s with
  |none=>rw[ha]at h;cases h
  |some x=>rw[ha]at h;rw[j6 tA ha];exact h
 |.loop c,s,r,h=>tA.loop _ _ _ _ _ _ h
 |.exit id,s,r,h=>h
 |.ret,s,r,h=>h
 |.NP t,s,r,h=>h
 |.AE j k,s,r,h=>h
 |.vo t off,s,r,h=>h
theorem tC {A B:jo}(tA:A.le B){wl aa:Nat}{sf:aC}{args:List AV}{st:an} {r}(h:cQ A wl aa sf args st=some r):cQ B wl aa sf args st=some r:=by
 unfold cQ at h ⊢
 split at h
 ·rename_i hl
  rw[if_pos hl]
  cases hs:gu A (sf.mode.v9 st.length wl) (sf.mode.oX st.length aa) sf.results sf.body (oY sf args st) with
  |none=>rw[hs]at h;cases h
  |some x=>rw[hs]at h;rw[j6 tA hs];exact h
 ·cases h
theorem vF {A B:jo}(tA:A.le B){wl aa:Nat}{sf:aC}{args:List AV}{st:an} {r}(h:dO A wl aa sf args st=some r):dO B wl aa sf args st=some r:=by
 unfold dO at h ⊢
 split at h
 ·rename_i II
  rw[if_pos II]
  cases hc:cQ A 0 0 sf args [] with
  |none=>rw[hc]at h;cases h
  |some x=>rw[hc]at h;rw[tC tA hc];exact h
 ·rename_i II
  rw[if_neg II]
  exact tC tA h
theorem AG (S:Nat->Option aC):∀n,(nQ S n).le (nQ S (n+1))
 |0=>⟨λ_ _ _ _ _ _ h=>(nomatch h),λ_ _ _ _ _ _ h=>(nomatch h)⟩
 |n+1=>by
  have ih:=AG S n
  constructor
  ·intro wl aa f args st r h
   show (match S f with|some sf=>dO (nQ S (n+1)) wl aa sf args st|none=>none)=some r
   change (match S f with|some sf=>dO (nQ S n) wl aa sf args st|none=>none)=some r at h
   cases hf:S f with
   |none=>rw[hf]at h;cases h
   |some sf=>rw[hf]at h;exact vF ih h
  ·intro wl aa rs c s r h
   show (match gu (nQ S (n+1)) wl aa rs c s with|some (.normal,s')=>(nQ S (n+1)).loop wl aa rs c s'|r=>r)=some r
   change (match gu (nQ S n) wl aa rs c s with|some (.normal,s')=>(nQ S n).loop wl aa rs c s'|r=>r)=some r at h
   cases hs:gu (nQ S n) wl aa rs c s with
   |none=>rw[hs]at h;cases h
   |some x=>
    rw[hs]at h
    rw[j6 ih hs]
    obtain⟨e,s'⟩:=x
    cases e with
    |normal=>exact ih.loop _ _ _ _ _ _ h
    |exit id=>exact h
    |ret v=>exact h
open Classical in
noncomputable def aU (S:Nat->Option aC):jo:=
 ⟨λwl aa f args st=>if h:∃n r,(nQ S n).call wl aa f args st=some r then some h.choose_spec.choose else none,
  λwl aa rs c s=>if h:∃n r,(nQ S n).loop wl aa rs c s=some r then some h.choose_spec.choose else none⟩
theorem yd (S:Nat->Option aC)(n k:Nat):(nQ S n).le (nQ S (n+k)):=by
 induction k with
 |zero=>exact jo.le_refl _
 |succ k ih=>exact jo.le_trans ih (AG S (n+k))
theorem qM (S:Nat->Option aC):Sup (nQ S) (aU S) where
 mono:=AG S
 call:=λwl aa f args st r h=>by
  unfold aU at h
  simp only at h
  split at h
  ·rename_i hx
   cases h
   exact⟨_,hx.choose_spec.choose_spec⟩
  ·cases h
 loop:=λwl aa rs c s r h=>by
  unfold aU at h
  simp only at h
  split at h
  ·rename_i hx
   cases h
   exact⟨_,hx.choose_spec.choose_spec⟩
  ·cases h
theorem oq (S:Nat->Option aC)(n:Nat):(nQ S n).le (aU S) where
 call:=λwl aa f args st r h=>by
  have hx:∃n r,(nQ S n).call wl aa f args st=some r:=⟨n,r,h⟩
  have:(aU S).call wl aa f args st=some hx.choose_spec.choose:=by unfold aU;simp only;rw[dif_pos hx]
  have h2:=hx.choose_spec.choose_spec
  have a:=(yd S n hx.choose).call _ _ _ _ _ _ h
  have b:=(yd S hx.choose n).call _ _ _ _ _ _ h2
  rw[Nat.add_comm]at b
  exact this.trans (b.symm.trans a)
 loop:=λwl aa rs c s r h=>by
  have hx:∃n r,(nQ S n).loop wl aa rs c s=some r:=⟨n,r,h⟩
  have:(aU S).loop wl aa rs c s=some hx.choose_spec.choose:=by unfold aU;simp only;rw[dif_pos hx]
  have h2:=hx.choose_spec.choose_spec
  have a:=(yd S n hx.choose).loop _ _ _ _ _ _ h
  have b:=(yd S hx.choose n).loop _ _ _ _ _ _ h2
  rw[Nat.add_comm]at b
  exact this.trans (b.symm.trans a)
section
variable {o:Nat->jo}{L:jo}(hs:Sup o L){wl aa:Nat}
include hs
theorem yO {x:Option (Nat×List AV)}{st:an}{bx:aX}{r:dX×an×aX}
  (h:eY L wl aa x st bx=some r):∃n,eY (o n) wl aa x st bx=some r:=by
 unfold eY at h
 split at h
 ·rename_i f vs
  cases hc:L.call wl aa f vs st with
  |none=>simp[hc]at h
  |some x=>
   obtain⟨n,hn⟩:=hs.call _ _ _ _ _ _ hc
   refine⟨n,?_⟩
   rw[hc]at h
   unfold eY
   simp only
   rw[hn];exact h
 ·cases h
theorem Kk {op:cL}{vals:List dX}{st:an}{bx:aX}{r:dX×an×aX}
  (h:act L wl aa op vals st bx=some r):∃n,act (o n) wl aa op vals st bx=some r:=by
 by_cases h1:∃f,op=.call f
 ·obtain⟨f,rfl⟩:=h1
  exact yO hs h
 ·by_cases h2:op=.oV
  ·subst h2
   exact yO hs h
  ·exact⟨0,by rw[<-Ga L (o 0) wl aa op vals st bx (λf e=>h1 ⟨f,e⟩) h2];exact h⟩
theorem AH {p:aZ}{s r:St}(h:evalOp L wl aa p s=some r):∃n,evalOp (o n) wl aa p s=some r:=by
 unfold evalOp at h
 split at h
 ·cases h
 ·rename_i hw;exact⟨0,by unfold evalOp;rw[hw];exact h⟩
 ·rename_i hw
  split at h
  ·cases h
  ·rename_i e bP eR ha
   obtain⟨n,hn⟩:=Kk hs ha
   exact⟨n,by unfold evalOp;rw[hw];simp only;rw[hn];exact h⟩
theorem yP:∀{l:List aZ}{s r:St},eM L wl aa l s=some r->∃n,eM (o n) wl aa l s=some r
 |[],_,_,h=>⟨0,h⟩
 |p::l,s,r,h=>by
  unfold eM at h
  split at h
  ·rename_i s' hp
   obtain⟨n,hn⟩:=AH hs hp
   obtain⟨m,hm⟩:=yP h
   refine⟨n+m,?_⟩
   unfold eM
   rw[p8 (hs.le n m) hn]
   simp only
   exact rE (by rw[Nat.add_comm];exact hs.le m n) hm
  ·cases h
theorem yQ:∀{l:List aZ}{s:St} {r},dD L wl aa l s=some r->∃n,dD (o n) wl aa l s=some r
 |[],_,_,h=>⟨0,h⟩
 |p::l,s,r,h=>by
  unfold dD at h
  split at h
  ·rename_i s' hp
   split at h
   ·rename_i e l' hr
    obtain⟨n,hn⟩:=AH hs hp
    obtain⟨m,hm⟩:=yQ hr
    refine⟨n+m,?_⟩
    unfold dD
    rw[p8 (hs.le n m) hn]
    simp only
    rw[oo (by rw[Nat.add_comm];exact hs.le m n) hm]
    exact h
   ·cases h
  ·cases h
theorem qu {p:aZ}{s t:St}{st:an}(h:cV L wl aa p s t st=true):∃n,cV (o n) wl aa p s t st=true:=by
 unfold cV at h
 split at h
 ·cases h
 ·rename_i hw;exact⟨0,by unfold cV;rw[hw]⟩
 ·rename_i hw
  split at h
  ·rename_i e a b ha
   obtain⟨n,hn⟩:=Kk hs ha
   exact⟨n,by unfold cV;rw[hw];simp only;rw[hn];exact h⟩
  ·cases h
theorem IT {ops:List aZ}{gw:List St}{x:Nat×Nat}(h:gW L wl aa ops gw x=true):∃n,gW (o n) wl aa ops gw x=true:=by
 obtain⟨q,w⟩:=x
 unfold gW at h ⊢
 by_cases h1:q<100000
 ·simp only[h1,if_true]at h ⊢
  split at h
  ·simp only[Bool.and_eq_true]at h ⊢
   obtain⟨n,hn⟩:=qu hs h.1
   obtain⟨m,hm⟩:=qu hs h.2
   exact⟨n+m,j5 (hs.le n m) hn,j5 (by rw[Nat.add_comm];exact hs.le m n) hm⟩
  ·cases h
 ·simp only[h1,if_false]at h ⊢
  split at h
  ·cases h
  ·by_cases h2:q<200000
   ·simp only[h2,if_true,exists_const]
   ·simp only[h2,if_false]at h ⊢
    split at h
    ·exact qu hs h
    ·cases h
theorem Di {ops:List aZ}{gw:List St}:∀{l:List (Nat×Nat)},l.all (gW L wl aa ops gw)=true->∃n,l.all (gW (o n) wl aa ops gw)=true
 |[],_=>⟨0,rfl⟩
 |x::l,h=>by
  simp only[List.all_cons,Bool.and_eq_true]at h
  obtain⟨n,hn⟩:=IT hs h.1
  obtain⟨m,hm⟩:=Di h.2
  refine⟨n+m,?_⟩
  simp only[List.all_cons,Bool.and_eq_true]
  refine⟨p9 (hs.le n m) hn,?_⟩
  rw[List.all_eq_true]at hm ⊢
  exact λx hx=>p9 (by rw[Nat.add_comm];exact hs.le m n) (hm x hx)
theorem Eh {ops:List aZ}{bH:List (Nat×Nat)}{s r:St}(h:fH L wl aa ops bH s=some r):∃n,fH (o n) wl aa ops bH s=some r:=by
 unfold fH at h
 split at h
 ·cases h
 ·rename_i e gw hr
  split at h
  ·rename_i hc
   cases h
   simp only[Bool.and_eq_true]at hc
   obtain⟨n,hn⟩:=yQ hs hr
   obtain⟨m,hm⟩:=Di hs hc.1
   refine⟨n+m,?_⟩
   unfold fH
   rw[oo (hs.le n m) hn]
   have:bH.all (gW (o (n+m)) wl aa ops gw)=true:=by
    rw[List.all_eq_true]at hm ⊢
    exact λx hx=>p9 (by rw[Nat.add_comm];exact hs.le m n) (hm x hx)
   simp only[this,hc.2,Bool.and_self,if_true]
  ·cases h
theorem rF {rs:List jP}:∀{c:bG}{s:St} {r},gu L wl aa rs c s=some r->∃n,gu (o n) wl aa rs c s=some r
 |.skip,_,_,h=>⟨0,h⟩
 |.region ops draw dc,s,r,h=>by
  unfold gu at h
  cases draw with
  |none=>
   simp only at h
   split at h
   ·rename_i s' hp
    obtain⟨n,hn⟩:=yP hs hp
    exact⟨n,by unfold gu;simp only;rw[hn];exact h⟩
   ·cases h
  |some bH=>
   simp only at h
   split at h
   ·rename_i s' hp
    obtain⟨n,hn⟩:=Eh hs hp
    exact⟨n,by unfold gu;simp only;rw[hn];exact h⟩
   ·cases h
 |.seq a b,s,r,h=>by
  unfold gu at h
  cases ha:gu L wl aa rs a s with
  |none=>rw[ha]at h;cases h
  |some x=>
   rw[ha]at h
   obtain⟨n,hn⟩:=rF ha
   obtain⟨e,s'⟩:=x
   cases e with
   |normal=>
    obtain⟨m,hm⟩:=rF h
    refine⟨n+m,?_⟩
    unfold gu
    rw[j6 (hs.le n m) hn]
    exact j6 (by rw[Nat.add_comm];exact hs.le m n) hm
   |exit id=>exact⟨n,by unfold gu;rw[hn];exact h⟩
   |ret v=>exact⟨n,by unfold gu;rw[hn];exact h⟩
 |.cond c ca a cb b,s,r,h=>by
  unfold gu at h
  split at h
  ·rename_i hb;obtain⟨n,hn⟩:=rF h;exact⟨n,by unfold gu;rw[hb];exact hn⟩
  ·rename_i hb;obtain⟨n,hn⟩:=rF h;exact⟨n,by unfold gu;rw[hb];exact hn⟩
  ·cases h
 |.block id c,s,r,h=>by
  unfold gu at h
  cases ha:gu L wl aa rs c s with
  |none=>rw[ha]at h;cases h
  |some x=>
   rw[ha]at h
   obtain⟨n,hn⟩:=rF ha
   exact⟨n,by unfold gu;rw[hn];exact h⟩
 |.loop c,s,r,h=>hs.loop _ _ _ _ _ _ h
 |.exit id,s,r,h=>⟨0,h⟩
 |.ret,s,r,h=>⟨0,h⟩
 |.NP t,s,r,h=>⟨0,h⟩
 |.AE j k,s,r,h=>⟨0,h⟩
 |.vo t off,s,r,h=>⟨0,h⟩
theorem vG {sf:aC}{args:List AV}{st:an} {r}(h:cQ L wl aa sf args st=some r):∃n,cQ (o n) wl aa sf args st=some r:=by
 unfold cQ at h
 split at h
 ·rename_i hl
  cases hx:gu L (sf.mode.v9 st.length wl) (sf.mode.oX st.length aa) sf.results sf.body (oY sf args st) with
  |none=>rw[hx]at h;cases h
  |some x=>
   rw[hx]at h
   obtain⟨n,hn⟩:=rF hs hx
   exact⟨n,by unfold cQ;rw[if_pos hl,hn];exact h⟩
 ·cases h
theorem Ei {sf:aC}{args:List AV}{st:an} {r}(h:dO L wl aa sf args st=some r):∃n,dO (o n) wl aa sf args st=some r:=by
 unfold dO at h
 split at h
 ·rename_i II
  cases hc:cQ L 0 0 sf args [] with
  |none=>rw[hc]at h;cases h
  |some x=>
   rw[hc]at h
   obtain⟨n,hn⟩:=vG hs hc
   exact⟨n,by unfold dO;rw[if_pos II,hn];exact h⟩
 ·rename_i II
  obtain⟨n,hn⟩:=vG hs h
  exact⟨n,by unfold dO;rw[if_neg II];exact hn⟩
end
theorem Kl {α:Type}{a b:Option α}(h:∀r,a=some r↔b=some r):a=b:=by
 cases a with
 |none=>cases b with
  |none=>rfl
  |some y=>exact absurd ((h y).2 rfl) (by simp)
 |some x=>exact((h x).1 rfl).symm
theorem ye (S:Nat->Option aC)(wl aa f:Nat)(args:List AV)(st:an) :
  (aU S).call wl aa f args st=match S f with
   |some sf=>dO (aU S) wl aa sf args st
   |none=>none:=by
 refine Kl λr=>⟨λh=>?_,λh=>?_⟩
 ·obtain⟨n,hn⟩:=(qM S).call _ _ _ _ _ _ h
  cases n with
  |zero=>cases hn
  |succ n=>
   change (match S f with|some sf=>dO (nQ S n) wl aa sf args st|none=>none)=some r at hn
   cases hf:S f with
   |none=>rw[hf]at hn;cases hn
   |some sf=>rw[hf]at hn;exact vF (oq S n) hn
 ·cases hf:S f with
  |none=>rw[hf]at h;cases h
  |some sf=>
   rw[hf]at h
   obtain⟨n,hn⟩:=Ei (qM S) h
   refine(oq S (n+1)).call _ _ _ _ _ _ ?_
   show (match S f with|some sf=>dO (nQ S n) wl aa sf args st|none=>none)=some r
   rw[hf];exact hn
theorem LQ (S:Nat->Option aC)(wl aa:Nat)(rs:List jP)(c:bG)(s:St) :
  (aU S).loop wl aa rs c s=match gu (aU S) wl aa rs c s with
   |some (.normal,s')=>(aU S).loop wl aa rs c s'
   |r=>r:=by
 refine Kl λr=>⟨λh=>?_,λh=>?_⟩
 ·obtain⟨n,hn⟩:=(qM S).loop _ _ _ _ _ _ h
  cases n with
  |zero=>cases hn
  |succ n=>
   change (match gu (nQ S n) wl aa rs c s with|some (.normal,s')=>(nQ S n).loop wl aa rs c s'|r=>r)=some r at hn
   cases hx:gu (nQ S n) wl aa rs c s with
   |none=>rw[hx]at hn;cases hn
   |some x=>
    rw[hx]at hn
    rw[j6 (oq S n) hx]
    obtain⟨e,s'⟩:=x
    cases e with
    |normal=>exact(oq S n).loop _ _ _ _ _ _ hn
    |exit id=>exact hn
    |ret v=>exact hn
 ·cases hx:gu (aU S) wl aa rs c s with
  |none=>rw[hx]at h;cases h
  |some x=>
   rw[hx]at h
   obtain⟨n,hn⟩:=rF (qM S) hx
   obtain⟨e,s'⟩:=x
   have key:∀m,(nQ S m).le (aU S):=oq S
   cases e with
   |normal=>
    obtain⟨m,hm⟩:=(qM S).loop _ _ _ _ _ _ h
    refine(oq S (n+m+1)).loop _ _ _ _ _ _ ?_
    show (match gu (nQ S (n+m)) wl aa rs c s with|some (.normal,s')=>(nQ S (n+m)).loop wl aa rs c s'|r=>r)=some r
    rw[j6 (yd S n m) hn]
    exact(by rw[Nat.add_comm];exact yd S m n:(nQ S m).le (nQ S (n+m))).loop _ _ _ _ _ _ hm
   |exit id=>
    refine(oq S (n+1)).loop _ _ _ _ _ _ ?_
    show (match gu (nQ S n) wl aa rs c s with|some (.normal,s')=>(nQ S n).loop wl aa rs c s'|r=>r)=some r
    rw[hn];exact h
   |ret v=>
    refine(oq S (n+1)).loop _ _ _ _ _ _ ?_
    show (match gu (nQ S n) wl aa rs c s with|some (.normal,s')=>(nQ S n).loop wl aa rs c s'|r=>r)=some r
    rw[hn];exact h
end Ax
namespace Ax
theorem AI {O:jo}{wl aa:Nat}{rs:List jP}{t off:Nat}{s s':St}{x:Ex}(h:gu O wl aa rs (.vo t off) s=some (x,s')) :
  x=.normal/\∃id bU i k v v' lz lN,cC s.env t=.val (.ptr id bU i k)/\fN s.st (.ptr id bU i (k+off)) 1=some [v]/\om wl v s.st=some (v',lz)/\dL wl aa lz (.ptr id bU i (k+off)) [v']=some lN/\s'=⟨s.env,s.bx,lN⟩:=by
 unfold gu at h
 split at h
 ·rename_i id bU i k h1
  split at h
  ·rename_i v h2
   split at h
   ·rename_i v' lz h3
    split at h
    ·rename_i lN h4
     cases h
     exact⟨rfl,id,bU,i,k,v,v',lz,lN,h1,h2,h3,h4,rfl⟩
    ·cases h
   ·cases h
  ·cases h
 ·cases h
end Ax
namespace Ax
open Go
mutual
def AV.bX:AV->Bool
 |.own _ _|.raw _ _=>false
 |.agg cs|.fz cs=>AV.dz cs
 |_=>true
def AV.dz:List AV->Bool
 |[]=>true
 |v::r=>v.bX&&AV.dz r
end
structure Loc where
 a:Option Addr
 cap:Nat
 len:Nat
 sz:Nat
 bU:Nat
 mp:Bool
 vals:List (List Value)
def Loc.hd (l:Loc):Option Addr×Nat×Nat×Nat×Bool:=(l.a,l.cap,l.len,l.sz,l.mp)
structure aM where
 ls:List Loc
 kL:Nat->Option Nat
def Imm (w:World)(G:aM)(b o:Nat):Prop:=b<w.heap.size/\∀p,G.kL b=some p->o<p
inductive aN (w:World) (G:aM):AV->Value->Prop
 |undef:aN w G .undef Go.undef
 |gone (v:Value) (h:v.oneCell'=true):aN w G .gone v
 |bool (b:Bool):aN w G (.bool b) (.bool b)
 |int (k:IntKind) (n:Int):aN w G (.int k n) (.int k n)
 |str (l:List UInt8) (s:ByteArray) (h:s.data.toList=l):aN w G (.str l) (.string s)
 |eC:aN w G .eC (.pointer none)
 |U:aN w G .U (.slice none 0 0)
 |fh:aN w G .fh (.map none)
 |gV:aN w G .gV .nilFunc
 |jt:aN w G .jt .nilIface
 |agg (cs:List AV) (vs:Array Value) (hl:cs.length=vs.size) (h:∀(i:Nat) c v,cs[i]?=some c->vs[i]?=some v->aN w G c v):aN w G (.agg cs) (.agg vs)
 |fz (cs:List AV) (vs:Array Value) (hl:cs.length=vs.size) (h:∀(i:Nat) c v,cs[i]?=some c->vs[i]?=some v->aN w G c v):aN w G (.fz cs) (.tuple vs)
 |cU (sz:Nat) (rows:List (List AV)) (a:Addr) (cap:Nat) (ot:a.spot=none) (eS:rows.length<=cap) (bn:fits sz rows=true)
   (iY:∀r∈rows,AV.dz r=true) (nA:∀r∈rows,AV.ai r=true) (uD:∀r∈rows,AV.aK r=true)
   (hc:∀(i:Nat) r (j:Nat) c,rows[i]?=some r->r[j]?=some c->Imm w G a.block (a.off+(i*sz+j))/\∃v,w.cell? ⟨a.block,a.off+(i*sz+j),none⟩=some v)
   (hr:∀(i:Nat) r (j:Nat) c v,rows[i]?=some r->r[j]?=some c->w.cell? ⟨a.block,a.off+(i*sz+j),none⟩=some v->aN w G c v) :
   aN w G (.cU sz rows) (.slice (some a) rows.length cap)
 |own (sz:Nat) (rows:List (List AV)) (a:Addr) (cap:Nat) (ot:a.spot=none) (eS:rows.length<=cap) (bn:fits sz rows=true)
   (iY:∀r∈rows,AV.dz r=true) (nA:∀r∈rows,AV.ai r=true) (uD:∀r∈rows,AV.aK r=true)
   (hc:∀(i:Nat) r (j:Nat) c,rows[i]?=some r->r[j]?=some c->∃v,w.cell? ⟨a.block,a.off+(i*sz+j),none⟩=some v)
   (hr:∀(i:Nat) r (j:Nat) c v,rows[i]?=some r->r[j]?=some c->w.cell? ⟨a.block,a.off+(i*sz+j),none⟩=some v->aN w G c v)
   (gx:G.kL a.block=some (a.off+rows.length*sz))
   (fj:∃c e,w.heap[a.block]?=some (.cells c e (0,0))/\a.off+cap*sz<=c.size) :
   aN w G (.own sz rows) (.slice (some a) rows.length cap)
 |raw (sz:Nat) (rows:List (List AV)) (a:Addr) (cap:Nat) (ot:a.spot=none) (eS:rows.length<=cap) (bn:fits sz rows=true)
   (iY:∀r∈rows,AV.dz r=true) (nA:∀r∈rows,AV.ai r=true) (uD:∀r∈rows,AV.aK r=true)
   (hc:∀(i:Nat) r (j:Nat) c,rows[i]?=some r->r[j]?=some c->∃v,w.cell? ⟨a.block,a.off+(i*sz+j),none⟩=some v)
   (hr:∀(i:Nat) r (j:Nat) c v,rows[i]?=some r->r[j]?=some c->w.cell? ⟨a.block,a.off+(i*sz+j),none⟩=some v->aN w G c v)
   (gx:G.kL a.block=some 0)
   (fj:∃c e,w.heap[a.block]?=some (.cells c e (0,0))/\a.off+cap*sz<=c.size) :
   aN w G (.raw sz rows) (.slice (some a) rows.length cap)
 |emp (a:Addr):aN w G .emp (.slice (some a) 0 0)
 |mu (id bU:Nat) (v:Value) (loc:Loc) (hp:∃p n c,v=.slice p n c) (hl:G.ls[id]?=some loc) (hv:bU<=loc.bU) (he:bU=loc.bU->v=.slice loc.a loc.len loc.cap):aN w G (.mu id bU) v
 |ptr (id bU i k:Nat) (v:Value) (loc:Loc) (hp:∃a,v=.pointer (some a)) (hl:G.ls[id]?=some loc) (hv:bU<=loc.bU)
   (he:bU=loc.bU->∃a,loc.a=some a/\v=.pointer (some ⟨a.block,a.off+(i*loc.sz+k),none⟩)):aN w G (.ptr id bU i k) v
 |n8 (sz:Nat) (rows:List (List AV)) (i k:Nat) (a:Addr) (cap:Nat) (hs:aN w G (.cU sz rows) (.slice (some a) rows.length cap)) :
   aN w G (.n8 sz rows i k) (.pointer (some ⟨a.block,a.off+(i*sz+k),none⟩))
 |map (id:Nat) (loc:Loc) (b:Nat) (hl:G.ls[id]?=some loc) (hm:loc.mp=true) (hb:loc.a=some ⟨b,0,none⟩):aN w G (.map id) (.map (some b))
 |fn (f:Nat) (first j3:List AV) (vf vc:Array Value) (hl:first.length=vf.size) (hm:j3.length=vc.size)
   (hn:AV.dz first=true/\AV.dz j3=true/\f<100000)
   (h:∀(i:Nat) c v,first[i]?=some c->vf[i]?=some v->aN w G c v) (k:∀(i:Nat) c v,j3[i]?=some c->vc[i]?=some v->aN w G c v) :
   aN w G (.fn f first j3) (.func (.func f) vf vc)
mutual
def eP (b:Nat):AV->Value->Nat
 |.own _ _,.slice (some a) _ _=>if a.block=b then 1 else 0
 |.raw _ _,.slice (some a) _ _=>if a.block=b then 1 else 0
 |.agg cs,.agg vs=>bR b cs vs.toList
 |.fz cs,.tuple vs=>bR b cs vs.toList
 |_,_=>0
def bR (b:Nat):List AV->List Value->Nat
 |c::cs,v::vs=>eP b c v+bR b cs vs
 |_,_=>0
end
theorem tD (b:Nat):∀(cs:List AV)(vs:List Value)(i:Nat)(c:AV)(v:Value),cs[i]?=some c->vs[i]?=some v->eP b c v<=bR b cs vs
 |[],_,_,_,_,h,_=>by simp at h
 |_::_,[],_,_,_,_,h=>by simp at h
 |c::cs,v::vs,0,c',v',h,k=>by
  simp at h k;subst h;subst k;simp only[bR];omega
 |c::cs,v::vs,i+1,c',v',h,k=>by
  simp at h k
  have:=tD b cs vs i c' v' h k
  simp only[bR];omega
mutual
theorem eu (b:Nat):∀(a:AV)(v:Value),a.bX=true->eP b a v=0
 |.own _ _,_,h=>by simp[AV.bX]at h
 |.raw _ _,_,h=>by simp[AV.bX]at h
 |.agg cs,.agg vs,h=>by simp only[eP];exact cW b cs vs.toList (by simpa [AV.bX] using h)
 |.fz cs,.tuple vs,h=>by simp only[eP];exact cW b cs vs.toList (by simpa [AV.bX] using h)
 |.undef,_,_|.gone,_,_|.bool _,_,_|.int _ _,_,_|.str _,_,_|.eC,_,_|.U,_,_|.fh,_,_|.gV,_,_|.jt,_,_
 |.cU _ _,_,_|.emp,_,_|.mu _ _,_,_|.ptr _ _ _ _,_,_|.n8 _ _ _ _,_,_|.map _,_,_|.fn _ _ _,_,_=>by simp[eP]
 |.agg cs,.bool _,_|.agg cs,.int _ _,_|.agg cs,.float _ _,_|.agg cs,.complex _ _ _,_|.agg cs,.string _,_|.agg cs,.pointer _,_|.agg cs,.slice _ _ _,_
 |.agg cs,.map _,_|.agg cs,.chan _,_|.agg cs,.func _ _ _,_|.agg cs,.nilFunc,_|.agg cs,.iface _ _,_|.agg cs,.nilIface,_|.agg cs,.tuple _,_=>by simp[eP]
 |.fz cs,.bool _,_|.fz cs,.int _ _,_|.fz cs,.float _ _,_|.fz cs,.complex _ _ _,_|.fz cs,.string _,_|.fz cs,.pointer _,_|.fz cs,.slice _ _ _,_
 |.fz cs,.map _,_|.fz cs,.chan _,_|.fz cs,.func _ _ _,_|.fz cs,.nilFunc,_|.fz cs,.iface _ _,_|.fz cs,.nilIface,_|.fz cs,.agg _,_=>by simp[eP]
theorem cW (b:Nat):∀(cs:List AV)(vs:List Value),AV.dz cs=true->bR b cs vs=0
 |[],_,_=>by simp[bR]
 |_::_,[],_=>by simp[bR]
 |c::cs,v::vs,h=>by
  simp[AV.dz]at h
  simp only[bR,eu b c v h.1,cW b cs vs h.2]
end
mutual
theorem rG:∀a:AV,a.view.bX=true
 |.own _ _=>by simp[AV.view,AV.bX]
 |.raw _ _=>by simp[AV.view,AV.bX]
 |.agg cs=>by simp only[AV.view,AV.bX];exact fJ cs
 |.fz cs=>by simp only[AV.view,AV.bX];exact fJ cs
 |.undef|.gone|.bool _|.int _ _|.str _|.eC|.U|.fh|.gV|.jt|.cU _ _|.emp|.mu _ _|.ptr _ _ _ _|.n8 _ _ _ _|.map _|.fn _ _ _=>by simp[AV.view,AV.bX]
theorem fJ:∀cs:List AV,AV.dz (AV.cz cs)=true
 |[]=>rfl
 |c::cs=>by simp only[AV.cz,AV.dz,rG c,fJ cs,Bool.and_self]
end
theorem uE:∀(cs:List AV)(i:Nat),(AV.cz cs)[i]?=(cs[i]?).map AV.view
 |[],i=>by simp[AV.cz]
 |c::cs,0=>by simp[AV.cz]
 |c::cs,i+1=>by simp[AV.cz,uE cs i]
theorem lU:∀(cs:List AV),(AV.cz cs).length=cs.length
 |[]=>rfl
 |c::cs=>by simp[AV.cz,lU cs]
theorem cm:∀(cs:List AV),AV.dz cs=true↔∀c∈cs,c.bX=true
 |[]=>by simp[AV.dz]
 |c::cs=>by simp[AV.dz,cm cs]
theorem fK:∀(cs:List AV),AV.ai cs=true↔∀c∈cs,c.au=true
 |[]=>by simp[AV.ai]
 |c::cs=>by simp[AV.ai,fK cs]
theorem cG {α:Type}{l:List α}{i:Nat}{x:α}(h:l[i]?=some x):x∈l:=List.mem_of_getElem? h
structure qa (w:World)(G:aM)(w':World)(G':aM):Prop where
 NR:∀b o,Imm w G b o->w'.cell? ⟨b,o,none⟩=w.cell? ⟨b,o,none⟩/\Imm w' G' b o
 ids:∀(id:Nat) loc,G.ls[id]?=some loc->∃loc',G'.ls[id]?=some loc'/\loc.bU<=loc'.bU/\(loc.bU=loc'.bU\/loc.mp=true->loc'.hd=loc.hd)
theorem qa.refl (w:World)(G:aM):qa w G w G:=⟨λ_ _ h=>⟨rfl,h⟩,λ_ loc h=>⟨loc,h,Nat.le_refl _,λ_=>rfl⟩⟩
theorem qa.trans {w G w' G' w'' G''}(h:qa w G w' G')(k:qa w' G' w'' G''):qa w G w'' G'' where
 NR:=λb o hi=>by
  obtain⟨a1,a2⟩:=h.NR b o hi
  obtain⟨b1,b2⟩:=k.NR b o a2
  exact⟨b1.trans a1,b2⟩
 ids:=λid loc hl=>by
  obtain⟨l1,a1,a2,a3⟩:=h.ids id loc hl
  obtain⟨l2,b1,b2,b3⟩:=k.ids id l1 a1
  refine⟨l2,b1,by omega,λe=>?_⟩
  rcases e with e|e
  ·have e1:loc.bU=l1.bU:=by omega
   have e2:l1.bU=l2.bU:=by omega
   rw[b3 (.inl e2),a3 (.inl e1)]
  ·have h1:=a3 (.inr e)
   have h2:l1.mp=loc.mp:=congrArg (·.2.2.2.2) h1
   exact(b3 (.inr (h2.trans e))).trans h1
theorem aN.iB {w:World}{G:aM}{w':World}{G':aM}{a:AV}{v:Value}(h:aN w G a v)(hs:qa w G w' G') :
  (∀b,0<eP b a v->G'.kL b=G.kL b/\w'.heap[b]?=w.heap[b]?)->aN w' G' a v:=by
 induction h with
 |undef=>exact λ_=>.undef
 |gone v h=>exact λ_=>.gone v h
 |bool b=>exact λ_=>.bool b
 |int k n=>exact λ_=>.int k n
 |str l s h=>exact λ_=>.str l s h
 |eC=>exact λ_=>.eC
 |U=>exact λ_=>.U
 |fh=>exact λ_=>.fh
 |gV=>exact λ_=>.gV
 |jt=>exact λ_=>.jt
 |agg cs vs hl h ih=>
  intro ho
  refine .agg cs vs hl λi c v hc hv=>ih i c v hc hv λb hb=>ho b ?_
  have:=tD b cs vs.toList i c v hc (by simpa using hv)
  simp only[eP];omega
 |fz cs vs hl h ih=>
  intro ho
  refine .fz cs vs hl λi c v hc hv=>ih i c v hc hv λb hb=>ho b ?_
  have:=tD b cs vs.toList i c v hc (by simpa using hv)
  simp only[eP];omega
 |cU sz rows a cap ot eS bn iY nA uD hc hr ih=>
  intro _
  refine .cU sz rows a cap ot eS bn iY nA uD (λi r j c h1 h2=>?_) (λi r j c v h1 h2 h3=>?_)
  ·obtain⟨hi,v,hv⟩:=hc i r j c h1 h2
   obtain⟨e,oM⟩:=hs.NR _ _ hi
   exact⟨oM,v,e.trans hv⟩
  ·obtain⟨hi,v',CH⟩:=hc i r j c h1 h2
   obtain⟨e,oM⟩:=hs.NR _ _ hi
   rw[e]at h3
   refine ih i r j c v h1 h2 h3 λb hb=>?_
   rw[eu b c v ((cm r).1 (iY r (cG h1)) c (cG h2))]at hb
   omega
 |own sz rows a cap ot eS bn iY nA uD hc hr gx fj ih=>
  intro ho
  obtain⟨ht,hh⟩:=ho a.block (by simp[eP])
  have mG:∀o,w'.cell? ⟨a.block,o,none⟩=w.cell? ⟨a.block,o,none⟩:=λo=>by simp[World.cell?,hh]
  refine .own sz rows a cap ot eS bn iY nA uD (λi r j c h1 h2=>?_) (λi r j c v h1 h2 h3=>?_) (ht.trans gx) ?_
  ·obtain⟨v,hv⟩:=hc i r j c h1 h2
   exact⟨v,(mG _).trans hv⟩
  ·rw[mG]at h3
   refine ih i r j c v h1 h2 h3 λb hb=>?_
   rw[eu b c v ((cm r).1 (iY r (cG h1)) c (cG h2))]at hb
   omega
  ·obtain⟨c,e,h1,h2⟩:=fj
   exact⟨c,e,hh.trans h1,h2⟩
 |raw sz rows a cap ot eS bn iY nA uD hc hr gx fj ih=>
  intro ho
  obtain⟨ht,hh⟩:=ho a.block (by simp[eP])
  have mG:∀o,w'.cell? ⟨a.block,o,none⟩=w.cell? ⟨a.block,o,none⟩:=λo=>by simp[World.cell?,hh]
  refine .raw sz rows a cap ot eS bn iY nA uD (λi r j c h1 h2=>?_) (λi r j c v h1 h2 h3=>?_) (ht.trans gx) ?_
  ·obtain⟨v,hv⟩:=hc i r j c h1 h2
   exact⟨v,(mG _).trans hv⟩
  ·rw[mG]at h3
   refine ih i r j c v h1 h2 h3 λb hb=>?_
   rw[eu b c v ((cm r).1 (iY r (cG h1)) c (cG h2))]at hb
   omega
  ·obtain⟨c,e,h1,h2⟩:=fj
   exact⟨c,e,hh.trans h1,h2⟩
 |emp a=>exact λ_=>.emp a
 |mu id bU v loc hp hl hv he=>
  intro _
  obtain⟨loc',a1,a2,a3⟩:=hs.ids id loc hl
  refine .mu id bU v loc' hp a1 (by omega) λe=>?_
  have e1:bU=loc.bU:=by omega
  have e2:=a3 (.inl (by omega))
  rw[show loc'.a=loc.a from congrArg (·.1) e2,show loc'.len=loc.len from congrArg (·.2.2.1) e2,show loc'.cap=loc.cap from congrArg (·.2.1) e2]
  exact he e1
 |ptr id bU i k v loc hp hl hv he=>
  intro _
  obtain⟨loc',a1,a2,a3⟩:=hs.ids id loc hl
  refine .ptr id bU i k v loc' hp a1 (by omega) λe=>?_
  have e1:bU=loc.bU:=by omega
  have e2:=a3 (.inl (by omega))
  rw[show loc'.a=loc.a from congrArg (·.1) e2,show loc'.sz=loc.sz from congrArg (·.2.2.2.1) e2]
  exact he e1
 |n8 sz rows i k a cap hl ih=>exact λ_=>.n8 sz rows i k a cap (ih λb hb=>by simp[eP]at hb)
 |map id loc b hl hm hb=>
  intro _
  obtain⟨loc',a1,a2,a3⟩:=hs.ids id loc hl
  have e2:=a3 (.inr hm)
  exact .map id loc' b a1 ((congrArg (·.2.2.2.2) e2:loc'.mp=loc.mp).trans hm) ((congrArg (·.1) e2:loc'.a=loc.a).trans hb)
 |fn f first j3 vf vc hl hm hn h k ih ik=>
  intro _
  refine .fn f first j3 vf vc hl hm hn (λi c v h1 h2=>ih i c v h1 h2 λb hb=>?_) (λi c v h1 h2=>ik i c v h1 h2 λb hb=>?_)
  ·rw[eu b c v ((cm first).1 hn.1 c (cG h1))]at hb;omega
  ·rw[eu b c v ((cm j3).1 hn.2.1 c (cG h1))]at hb;omega
end Ax
namespace Ax
open Go
def uF:Nat->Value->Option AV
 |0,_=>none
 |d+1,v=>match v with
  |.bool b=>some (.bool b)
  |.int k n=>some (.int k n)
  |.string s=>some (.str s.data.toList)
  |.pointer none=>some .eC
  |.slice none 0 0=>some .U
  |.map none=>some .fh
  |.nilFunc=>some .gV
  |.nilIface=>some .jt
  |.agg cs=>match cs.toList.mapM (uF d) with|some l=>some (.agg l)|none=>none
  |_=>none
def uG (v:Value)(a:AV):Bool:=match uF 3 v with|some b=>b.same a|none=>false
def oN:List Value->List AV->Bool
 |[],[]=>true
 |v::vs,a::as=>uG v a&&oN vs as
 |_,_=>false
def IU:Operand->Src->Bool
 |.tmp t,.tmp u _=>t==u
 |.const v,.const a=>uG v a
 |.func f,.const (.fn g [] [])=>f==g&&decide (f<100000)
 |_,_=>false
def eU:List Operand->List Src->Bool
 |[],[]=>true
 |x::xs,s::ss=>IU x s&&eU xs ss
 |_,_=>false
def lV (P:Program)(t:TypeId):Option Bool:=match P.underlying t with
 |some (.struct _)|some (.array _ _)=>some true
 |some _=>some false
 |none=>none
def ck (P:Program)(t:TypeId)(n:Nat):Bool:=match P.info? t with|some i=>i.size==n|none=>false
def nh (P:Program)(t:TypeId)(n:Nat):Bool:=match P.info? t with|some i=>i.bytes==n|none=>false
def AJ (P:Program)(rec:TypeId->Option (List SK)):Nat->List Field->Option (List SK)
 |_,[]=>some []
 |off,f::fs=>
  if f.offset = off && f.name != "_" then
   match rec f.type with
   |some ks=>if ck P f.type ks.length then (match AJ P rec (off+ks.length) fs with|some r=>some (ks++r)|none=>none) else none
   |none=>none
  else none
def AK (P:Program):Nat->TypeId->Option (List SK)
 |0,_=>none
 |d+1,t=>match P.underlying t with
  |some .bool=>some [.bool]
  |some (.int _)=>some [.int]
  |some .string=>some [.str]
  |some (.struct fs)=>if P.stoodInHeld t then none else AJ P (AK P d) 0 fs.toList
  |_=>none
def vq (P:Program)(t:TypeId):ZY->Bool
 |.sc .bool=>match P.underlying t with|some .bool=>true|_=>false
 |.sc _=>false
 |.ptr=>match P.underlying t with|some (.pointer _)=>true|_=>false
 |.sl=>match P.underlying t with|some (.slice _)=>true|_=>false
 |.fn=>match P.underlying t with|some (.func _ _ _)=>true|_=>false
 |.flat ks=>(match P.underlying t with|some (.struct _)=>true|_=>false)&&AK P 20 t==some ks && !P.eqGuardType P.depth t
def nB (P:Program)(t:TypeId):SK->Bool
 |.bool=>match P.underlying t with|some .bool=>true|_=>false
 |.int=>match P.underlying t with|some (.int _)=>true|_=>false
 |.str=>match P.underlying t with|some .string=>true|_=>false
def mK (P:Program)(t:TypeId)(zero:List AV):Bool:=match P.info? t with
 |some i=>(match i.zero with|some z=>oN z.cells.toList zero&&AV.aK zero|none=>false)
 |none=>false
def oZ (P:Program)(fs:Array Field):List (Nat×Operand)->List (Nat×Nat)->Bool
 |[],[]=>true
 |(i,_)::ps,(off,n)::qs=>(match fs[i]? with|some f=>f.offset==off&&ck P f.type n|none=>false)&&oZ P fs ps qs
 |_,_=>false
def uH (x:Operand)(lo hi mx:Option Operand):List Operand:=x::(lo.toList++hi.toList++mx.toList)
def ZZ (S:Nat->Option aC)(P:Program)(o:Oper)(so:aZ):Bool:=
 (match o.dst,so.dst with|some a,some b=>a==b|none,none=>true|_,_=>false) &&
 match o.op,so.op with
 |.move x,.move|.assign x,.move=>eU [x] so.args
 |.pick c a b,.pick=>eU [c,a,b] so.args
 |.binOp op _ x y _,.bin op'=>op==op'&&eU [x,y] so.args
 |.binOp op t x y _,.eqv k neg=>op==(if neg then .neq else .eql)&&eU [x,y] so.args&&vq P t k
 |.binOp op t x y _,.Kj neg=>op==(if neg then .neq else .eql)&&eU [x,y] so.args&&vq P t .sl
 |.unOp op _ x,.un op'=>op==op'&&eU [x] so.args
 |.convert s d x,.conv k=>eU [x] so.args&&(match P.underlying s,P.underlying d with|some (.int _),some (.int k')=>k==k'|_,_=>false)
 |.nilCheck x,.nilCheck=>eU [x] so.args
 |.extract x i,.extract j=>i==j&&eU [x] so.args
 |.field t x f,.field off n agg=>eU [x] so.args&&(match P.underlying t with
  |some (.struct fs)=>(match fs[f]? with|some fd=>fd.offset==off&&ck P fd.type n&&lV P fd.type==some agg|none=>false)
  |_=>false)
 |.build t parts,.build zero qs=>eU (parts.toList.map (·.2)) so.args&&mK P t zero&&(match P.underlying t with
  |some (.struct fs)=>(match fs.toList.mapM (λf=>P.info? f.type) with|some _=>oZ P fs parts.toList qs|none=>false)
  |_=>false)
 |.buildSlice t n parts,.lit sz n' zero qs|.buildSlice t n parts,.SE sz n' zero qs=>n==n'&&eU (parts.toList.map (·.2)) so.args&&(match P.underlying t with
  |some (.slice e)=>ck P e sz&&decide (n*sz<=16777216)&&mK P e zero&&decide (0<sz)&&(zero.length==sz)&&parts.toList.map (·.1)==qs
  |_=>false)
 |.fieldAddr t x f,.fieldAddr off=>eU [x] so.args&&(match P.underlying t with
  |some (.struct fs)=>(match fs[f]? with
   |some fd=>fd.offset==off&&(match P.info? fd.type with|some i=>i.size != 0|none=>false)
   |none=>false)
  |_=>false)
 |.indexAddr t x i,.indexAddr sz=>eU [x,i] so.args&&(match P.underlying t with|some (.slice e)=>ck P e sz|_=>false)
 |.index t x i,.index=>eU [x,i] so.args&&(match P.underlying t with|some .string=>true|_=>false)
 |.slice t x lo hi mx,.slice tr l h m sz=>eU (uH x lo hi mx) so.args&&lo.isSome==l&&hi.isSome==h&&mx.isSome==m&&(!m||h)&&(match P.underlying t with
  |some (.slice e)=>!tr&&ck P e sz
  |some .string=>tr && !m
  |_=>false)
 |.slice t x none (some hi) none,.vZ sz=>eU [x,hi] so.args&&(match P.underlying t with|some (.slice e)=>ck P e sz|_=>false)
 |.load t a,.load agg n _|.load t a,.aj _ agg n _=>eU [a] so.args&&ck P t n&&lV P t==some agg&&(agg||n==1)
 |.store t a v,.store n|.store t a v,.ag _ n=>eU [a,v] so.args&&ck P t n
 |.alloc t,.alloc zero|.alloc t,.aE _ zero=>so.args.isEmpty&&mK P t zero
 |.box _ v,.box _|.box _ v,.dW _ _=>eU [v] so.args
 |.makeSlice t l c,.rD sz bytes zero _=>eU [l,c] so.args&&(match P.underlying t with
  |some (.slice e)=>ck P e sz&&nh P e bytes&&mK P e zero&&decide (0<sz)&&decide (0<bytes)
  |_=>false)
 |.makeMap t none,.makeMap=>so.args.isEmpty&&(match P.underlying t with|some (.map _ _)=>true|_=>false)
 |.mapUpdate t m k v,.mapUpdate kk|.insert t m k v,.mapUpdate kk=>eU [m,k,v] so.args&&(match P.underlying t with
  |some (.map kt _)=>nB P kt kk
  |_=>false)
 |.lookup t m k ok,.lookup kk zero ok'=>ok==ok'&&eU [m,k] so.args&&(match P.underlying t with
  |some (.map kt et)=>nB P kt kk &&
   (match P.info? et with|some i=>(match i.zero with|some z=>uG z zero|none=>false)|none=>false)
  |_=>false)
 |.makeFunc (.func f) first j3,.makeFunc f' n=>f==f'&&eU (first.toList++j3.toList) so.args&&first.size==n&&decide (f<100000)
 |.call c,.len k=>eU c.args.toList so.args&&c.args.size==1&&(match c.callee,c.argTypes[0]? with
  |.builtin .len,some t=>(match P.underlying t,k with|some .string,.str|some (.slice _),.sl|some (.map _ _),.mp=>true|_,_=>false)
  |_,_=>false)
 |.call c,.Ee mx=>eU c.args.toList so.args&&c.args.size==2&&(match c.callee with|.builtin .max=>mx|.builtin .min=>!mx|_=>false)
 |.call c,.append sz bytes|.call c,.lT sz bytes=>eU c.args.toList so.args&&c.args.size==2&&c.argTypes.size==2&&(match c.callee,c.argTypes[0]?,c.argTypes[1]? with
  |.builtin .append,some t,some u=>(match P.underlying t with|some (.slice e)=>ck P e sz&&nh P e bytes&&decide (0<sz)&&decide (0<bytes)&&(match P.info? e with|some i=>(match i.zero with|some z=>z.cells.size==sz|none=>false)|none=>false)|_=>false) &&
   (match P.underlying u with|some (.slice _)|some .string=>true|_=>false)
  |_,_,_=>false)
 |.call c,.copy sz=>eU c.args.toList so.args&&c.args.size==2&&c.argTypes.size==2&&(match c.callee,c.argTypes[0]?,c.argTypes[1]? with
  |.builtin .copy,some t,some u=>(match P.underlying t with|some (.slice e)=>ck P e sz|_=>false)&&(match P.underlying u with|some (.slice _)|some .string=>true|_=>false)
  |_,_,_=>false)
 |.convert s d x,.toStr=>eU [x] so.args&&(match P.underlying s,P.underlying d with
  |some (.slice e),some .string=>(match P.underlying e with|some (.int .u8)=>true|_=>false)
  |_,_=>false)
 |.call c,.call i=>(match c.callee with
  |.value (.func f)=>eU c.args.toList so.args&&(match S i with|some sf=>sf.eL==f|none=>false)
  |_=>false)
 |.call c,.oV=>(match c.callee with
  |.value x=>eU (x::c.args.toList) so.args
  |_=>false)
 |.makeSlice t l c,.z5 sz bytes zero=>eU [l,c] so.args&&(match P.underlying t with
  |some (.slice e)=>ck P e sz&&nh P e bytes&&mK P e zero&&decide (0<sz)&&decide (0<bytes)
  |_=>false)
 |.call c,.uC sz bytes zero=>eU c.args.toList so.args&&c.args.size==2&&c.argTypes.size==2&&(match c.callee,c.argTypes[0]?,c.argTypes[1]? with
  |.builtin .append,some t,some u=>(match P.underlying t with|some (.slice e)=>ck P e sz&&nh P e bytes&&mK P e zero&&decide (0<sz)&&decide (0<bytes)|_=>false) &&
   (match P.underlying u with|some (.int _)=>true|_=>false)
  |_,_,_=>false)
 |.call c,.SF=>eU c.args.toList so.args&&c.args.size==1&&(match c.callee,c.argTypes[0]? with
  |.builtin .cap,some t=>(match P.underlying t with|some (.slice _)=>true|_=>false)
  |_,_=>false)
 |_,.vZ 0=>so.args.isEmpty
 |_,_=>false
end Ax
namespace Ax
open Go
structure k8 where
 iZ:Option Nat
 vals:List Value
def jF (w:World)(G:aM)(β:List k8):dX->Value->Prop
 |.none,_=>True
 |.val a,v=>aN w G a v
 |.fp j k,v=>∃g b,β[j]?=some g/\g.iZ=some b/\v=.pointer (some ⟨b,k,none⟩)
def cj (b:Nat):dX->Value->Nat
 |.val a,v=>eP b a v
 |_,_=>0
def jT (w:World)(G:aM)(β:List k8):List dX->List Value->Prop
 |[],[]=>True
 |e::es,v::vs=>jF w G β e v/\jT w G β es vs
 |_,_=>False
def kM (b:Nat):List dX->List Value->Nat
 |e::es,v::vs=>cj b e v+kM b es vs
 |_,_=>0
variable {w:World}{G:aM}{β:List k8}
theorem jT.one {e:dX}{xs:List Value}(h:jT w G β [e] xs):∃v,xs=[v]/\jF w G β e v:=by
 match xs,h with
 |[v],h=>exact⟨v,rfl,h.1⟩
theorem jT.two {e f:dX}{xs:List Value}(h:jT w G β [e,f] xs):∃v u,xs=[v,u]/\jF w G β e v/\jF w G β f u:=by
 match xs,h with
 |[v,u],h=>exact⟨v,u,rfl,h.1,h.2.1⟩
theorem jT.cons {e:dX}{es:List dX}{xs:List Value}(h:jT w G β (e::es) xs):∃v vs,xs=v::vs/\jF w G β e v/\jT w G β es vs:=by
 match xs,h with
 |v::vs,h=>exact⟨v,vs,rfl,h.1,h.2⟩
theorem jT.vals:∀{es:List dX}{xs:List Value}{vs:List AV},jT w G β es xs->iz es=some vs->
  es=vs.map .val/\vs.length=xs.length/\∀(i:Nat) c v,vs[i]?=some c->xs[i]?=some v->aN w G c v
 |[],[],vs,_,h=>by simp[iz]at h;subst h;exact⟨rfl,rfl,λi c v h _=>by simp at h⟩
 |.val a::es,x::xs,vs,h,hv=>by
  simp only[iz]at hv
  split at hv
  ·rename_i vs' CI
   cases hv
   obtain⟨e1,e2,e3⟩:=jT.vals h.2 CI
   refine⟨by rw[e1];rfl,by simp[e2],λi c v h1 h2=>?_⟩
   cases i with
   |zero=>simp at h1 h2;subst h1;subst h2;exact h.1
   |succ i=>simp at h1 h2;exact e3 i c v h1 h2
  ·cases hv
 |.none::es,_::_,vs,_,hv=>by simp[iz]at hv
 |.fp _ _::es,_::_,vs,_,hv=>by simp[iz]at hv
 |[],_::_,_,h,_=>h.elim
 |_::_,[],_,h,_=>h.elim
theorem AL:∀(b:Nat)(vs:List AV)(xs:List Value),kM b (vs.map .val) xs=bR b vs xs
 |_,[],[]=>rfl
 |_,[],_::_=>rfl
 |_,_::_,[]=>rfl
 |b,a::vs,x::xs=>by simp[kM,bR,cj,AL b vs xs]
theorem aN.eZ {k:IntKind}{n:Int}{v:Value}(h:aN w G (.int k n) v):v=.int k n:=by cases h;rfl
theorem aN.jc {b:Bool}{v:Value}(h:aN w G (.bool b) v):v=.bool b:=by cases h;rfl
theorem aN.k5 {l:List UInt8}{v:Value}(h:aN w G (.str l) v):∃s,v=.string s/\s.data.toList=l:=by
 cases h with|str _ s h=>exact⟨s,rfl,h⟩
theorem aN.view {a:AV}{v:Value}(h:aN w G a v):aN w G a.view v:=by
 induction h with
 |undef=>exact .undef
 |gone v h=>exact .gone v h
 |bool b=>exact .bool b
 |int k n=>exact .int k n
 |str l s h=>exact .str l s h
 |eC=>exact .eC
 |U=>exact .U
 |fh=>exact .fh
 |gV=>exact .gV
 |jt=>exact .jt
 |agg cs vs hl h ih=>
  refine .agg _ vs (by rw[lU];exact hl) λi c v hc hv=>?_
  rw[uE]at hc
  simp only[Option.map_eq_some_iff]at hc
  obtain⟨c',h1,rfl⟩:=hc
  exact ih i c' v h1 hv
 |fz cs vs hl h ih=>
  refine .fz _ vs (by rw[lU];exact hl) λi c v hc hv=>?_
  rw[uE]at hc
  simp only[Option.map_eq_some_iff]at hc
  obtain⟨c',h1,rfl⟩:=hc
  exact ih i c' v h1 hv
 |cU sz rows a cap ot eS bn iY nA uD hc hr ih=>exact .cU sz rows a cap ot eS bn iY nA uD hc hr
 |own sz rows a cap ot eS bn iY nA uD hc hr gx fj ih=>
  refine .cU sz rows a cap ot eS bn iY nA uD (λi r j c h1 h2=>⟨⟨?_,λp hp=>?_⟩,hc i r j c h1 h2⟩) hr
  ·obtain⟨cc,e,h3,_⟩:=fj
   exact(Array.getElem?_eq_some_iff.1 h3).1
  ·rw[gx]at hp
   cases hp
   have hi:i<rows.length:=(List.getElem?_eq_some_iff.1 h1).1
   have hj:j<r.length:=(List.getElem?_eq_some_iff.1 h2).1
   have hs:r.length=sz:=by
    simp only[fits,List.all_eq_true,beq_iff_eq]at bn
    exact bn r (cG h1)
   have:i*sz+j<rows.length*sz:=by
    calc i*sz+j<i*sz+sz:=by omega
     _=(i+1)*sz:=by rw[Nat.succ_mul]
     _<=rows.length*sz:=Nat.mul_le_mul_right _ hi
   omega
 |raw sz rows a cap ot eS bn iY nA uD hc hr gx fj ih=>exact .gone _ rfl
 |emp a=>exact .emp a
 |mu id bU v loc hp hl hv he=>exact .mu id bU v loc hp hl hv he
 |ptr id bU i k v loc hp hl hv he=>exact .ptr id bU i k v loc hp hl hv he
 |n8 sz rows i k a cap hl ih=>exact .n8 sz rows i k a cap hl
 |map id loc b hl hm hb=>exact .map id loc b hl hm hb
 |fn f first j3 vf vc hl hm hn h k ih ik=>exact .fn f first j3 vf vc hl hm hn h k
theorem jF.view {e:dX}{v:Value}(h:jF w G β e v):jF w G β e.view v:=by
 cases e with
 |none=>trivial
 |val a=>exact aN.view h
 |fp j k=>exact h
theorem Dj (b:Nat)(e:dX)(v:Value):cj b e.view v=0:=by
 cases e with
 |none=>rfl
 |val a=>exact eu b _ _ (rG a)
 |fp j k=>rfl
mutual
theorem Ej:∀(a b:AV),a.same b=true->a=b
 |.undef,b,h=>by cases b<;>simp[AV.same]at h<;>rfl
 |.gone,b,h=>by cases b<;>simp[AV.same]at h<;>rfl
 |.eC,b,h=>by cases b<;>simp[AV.same]at h<;>rfl
 |.U,b,h=>by cases b<;>simp[AV.same]at h<;>rfl
 |.fh,b,h=>by cases b<;>simp[AV.same]at h<;>rfl
 |.gV,b,h=>by cases b<;>simp[AV.same]at h<;>rfl
 |.jt,b,h=>by cases b<;>simp[AV.same]at h<;>rfl
 |.emp,b,h=>by cases b<;>simp[AV.same]at h<;>rfl
 |.bool x,b,h=>by cases b<;>simp[AV.same]at h;rw[h]
 |.int k x,b,h=>by cases b<;>simp[AV.same]at h;rw[h.1,h.2]
 |.str x,b,h=>by cases b<;>simp[AV.same]at h;rw[h]
 |.agg x,b,h=>by
  cases b<;>simp[AV.same]at h
  rw[qN _ _ h]
 |.fz x,b,h=>by
  cases b<;>simp[AV.same]at h
  rw[qN _ _ h]
 |.cU s x,b,h=>by
  cases b<;>simp[AV.same]at h
  rw[h.1,qO _ _ h.2]
 |.own s x,b,h=>by
  cases b<;>simp[AV.same]at h
  rw[h.1,qO _ _ h.2]
 |.raw s x,b,h=>by
  cases b<;>simp[AV.same]at h
  rw[h.1,qO _ _ h.2]
 |.mu i v,b,h=>by cases b<;>simp[AV.same]at h;rw[h.1,h.2]
 |.ptr i v k l,b,h=>by cases b<;>simp[AV.same]at h;rw[h.1.1.1,h.1.1.2,h.1.2,h.2]
 |.n8 s x i k,b,h=>by
  cases b<;>simp[AV.same]at h
  rw[h.1.1.1,qO _ _ h.1.1.2,h.1.2,h.2]
 |.map i,b,h=>by cases b<;>simp[AV.same]at h;rw[h]
 |.fn f x y,b,h=>by
  cases b<;>simp[AV.same]at h
  rw[h.1.1,qN _ _ h.1.2,qN _ _ h.2]
theorem qN:∀(a b:List AV),AV.pX a b=true->a=b
 |[],b,h=>by cases b<;>simp[AV.pX]at h;rfl
 |x::a,b,h=>by
  cases b with
  |nil=>simp[AV.pX]at h
  |cons y b=>
   simp[AV.pX]at h
   rw[Ej x y h.1,qN a b h.2]
theorem qO:∀(a b:List (List AV)),AV.qt a b=true->a=b
 |[],b,h=>by cases b<;>simp[AV.qt]at h;rfl
 |x::a,b,h=>by
  cases b with
  |nil=>simp[AV.qt]at h
  |cons y b=>
   simp[AV.qt]at h
   rw[qN x y h.1,qO a b h.2]
end
theorem AM (w:World)(G:aM):∀(d:Nat)(v:Value)(a:AV),uF d v=some a->aN w G a v/\a.bX=true/\a.au=true
 |0,_,_,h=>by simp[uF]at h
 |d+1,v,a,h=>by
  unfold uF at h
  split at h
  ·cases h;exact⟨.bool _,rfl,rfl⟩
  ·cases h;exact⟨.int _ _,rfl,rfl⟩
  ·cases h;exact⟨.str _ _ rfl,rfl,rfl⟩
  ·cases h;exact⟨.eC,rfl,rfl⟩
  ·cases h;exact⟨.U,rfl,rfl⟩
  ·cases h;exact⟨.fh,rfl,rfl⟩
  ·cases h;exact⟨.gV,rfl,rfl⟩
  ·cases h;exact⟨.jt,rfl,rfl⟩
  ·rename_i cs
   split at h
   ·rename_i l hl
    cases h
    have key:∀(vs:List Value) (l:List AV),vs.mapM (uF d)=some l->vs.length=l.length/\(∀(i:Nat) c v,l[i]?=some c->vs[i]?=some v->aN w G c v/\c.bX=true/\c.au=true):=by
     intro vs
     induction vs with
     |nil=>intro l h;simp at h;subst h;exact⟨rfl,λi c v h _=>by simp at h⟩
     |cons x vs ih=>
      intro l h
      rw[List.mapM_cons]at h
      simp only[bind,Option.bind_eq_some_iff,pure,Option.some.injEq]at h
      obtain⟨a1,h1,l1,h2,rfl⟩:=h
      obtain⟨e1,e2⟩:=ih l1 h2
      refine⟨by simp[e1],λi c v hc hv=>?_⟩
      cases i with
      |zero=>simp at hc hv;subst hc;subst hv;exact AM w G d _ _ h1
      |succ i=>simp at hc hv;exact e2 i c v hc hv
    obtain⟨e1,e2⟩:=key _ _ hl
    have iU:∀c∈l,c.bX=true/\c.au=true:=by
     intro c hc
     obtain⟨i,hi,rfl⟩:=List.mem_iff_getElem.1 hc
     have Z0:i<cs.toList.length:=by omega
     exact(e2 i l[i] cs.toList[i] (List.getElem?_eq_getElem hi) (List.getElem?_eq_getElem Z0)).2
    refine⟨.agg l cs (by rw[<-e1];simp) λi c v hc hv=>(e2 i c v hc (by simpa using hv)).1,?_,?_⟩
    ·simp only[AV.bX];exact(cm l).2 λc hc=>(iU c hc).1
    ·simp only[AV.au];exact(fK l).2 λc hc=>(iU c hc).2
   ·cases h
  ·cases h
theorem we {v:Value}{a:AV}(h:uG v a=true)(w:World)(G:aM):aN w G a v/\a.bX=true/\a.au=true:=by
 unfold uG at h
 split at h
 ·rename_i b hb
  have:=Ej _ _ h
  subst this
  exact AM w G 3 v b hb
 ·cases h
theorem wQ (w:World)(G:aM):∀{vs:List Value}{as:List AV},oN vs as=true->as.length=vs.length/\(∀(i:Nat) c v,as[i]?=some c->vs[i]?=some v->aN w G c v)/\(∀c∈as,c.bX=true/\c.au=true)
 |[],[],_=>⟨rfl,λi c v h _=>by simp at h,λc h=>by simp at h⟩
 |v::vs,a::as,h=>by
  simp only[oN,Bool.and_eq_true]at h
  obtain⟨e1,e2,e3⟩:=wQ w G h.2
  obtain⟨f1,f2,f3⟩:=we h.1 w G
  refine⟨by simp[e1],λi c u hc hu=>?_,λc hc=>?_⟩
  ·cases i with
   |zero=>simp at hc hu;subst hc;subst hu;exact f1
   |succ i=>simp at hc hu;exact e2 i c u hc hu
  ·rcases List.mem_cons.1 hc with rfl|hc
   ·exact⟨f2,f3⟩
   ·exact e3 c hc
 |[],_::_,h=>by simp[oN]at h
 |_::_,[],h=>by simp[oN]at h
end Ax
namespace Ax
open Go
variable {P:Program}{w:World}{G:aM}
theorem j7 {t:TypeId}{n:Nat}(h:ck P t n=true):∃i,P.info? t=some i/\i.size=n/\P.cellsOf t=n:=by
 unfold ck at h
 split at h
 ·rename_i i hi;exact⟨i,hi,by simpa using h,by simp[Program.cellsOf,hi];simpa using h⟩
 ·cases h
theorem dG {t:TypeId}{n:Nat}(h:ck P t n=true)(w:World):(Go.sizeOf t).run P w=.ok n w:=by
 obtain⟨i,hi,hs,hc⟩:=j7 h
 rw[run_sizeOf w hi,hc]
def b8 (w:World)(G:aM)(as:List AV)(xs:List Value):Prop:=as.length=xs.length/\∀(i:Nat) c v,as[i]?=some c->xs[i]?=some v->aN w G c v
theorem SH {t:TypeId}{k:SK}{a b:AV}{x y:Value}{r:Bool}(ht:nB P t k=true)(h:CF k a b=some r)(ha:aN w G a x)(hb:aN w G b y)(D:Nat)(w':World) :
  (Op.equalIn (D+1) t x y).run P w'=.ok r w':=by
 unfold CF at h
 split at h
 ·cases h
  rw[ha.jc,hb.jc]
  have hu:P.underlying t=some .bool:=by
   unfold nB at ht;simp only at ht;split at ht<;>simp_all
  exact run_equalIn_bool w' D t _ _ hu
 ·split at h
  ·rename_i k1 p k2 q hk
   cases h
   subst hk
   rw[ha.eZ,hb.eZ]
   have hu:∃q,P.underlying t=some (.int q):=by
    unfold nB at ht;simp only at ht;split at ht
    ·exact⟨_,by assumption⟩
    ·cases ht
   obtain⟨q,hu⟩:=hu
   exact run_equalIn_int w' D t _ q _ _ hu
  ·cases h
 ·cases h
  obtain⟨s,rfl,rfl⟩:=ha.k5
  obtain⟨s',rfl,rfl⟩:=hb.k5
  have hu:P.underlying t=some .string:=by
   unfold nB at ht;simp only at ht;split at ht<;>simp_all
  rw[run_equalIn_string w' D t _ _ hu,ByteArray.toList_eq,ByteArray.toList_eq]
 ·cases h
theorem AN:∀(k1 k2:List SK)(a b:List AV)(r:Bool),CG (k1++k2) a b=some r->
  ∃r1 r2,CG k1 (a.take k1.length) (b.take k1.length)=some r1/\CG k2 (a.drop k1.length) (b.drop k1.length)=some r2/\r=(r1&&r2)
 |[],k2,a,b,r,h=>⟨true,r,by simp[CG],by simpa using h,by simp⟩
 |k::k1,k2,[],b,r,h=>by cases b<;>simp[CG]at h
 |k::k1,k2,a::as,[],r,h=>by simp[CG]at h
 |k::k1,k2,a::as,b::bs,r,h=>by
  simp only[List.cons_append,CG]at h
  split at h
  ·rename_i p q hp hq
   cases h
   obtain⟨r1,r2,e1,e2,rfl⟩:=AN k1 k2 as bs q hq
   exact⟨p&&r1,r2,by simp[CG,hp,e1],by simpa using e2,by simp[Bool.and_assoc]⟩
  ·cases h
theorem AO:∀(ks:List SK)(a b:List AV)(r:Bool),CG ks a b=some r->a.length=ks.length/\b.length=ks.length
 |[],[],[],_,_=>⟨rfl,rfl⟩
 |[],[],_::_,_,h=>by simp[CG]at h
 |[],_::_,_,_,h=>by simp[CG]at h
 |_::_,[],_,_,h=>by simp[CG]at h
 |_::_,_::_,[],_,h=>by simp[CG]at h
 |k::ks,a::as,b::bs,r,h=>by
  simp only[CG]at h
  split at h
  ·rename_i p q hp hq
   obtain⟨e1,e2⟩:=AO ks as bs q hq
   simp[e1,e2]
  ·cases h
theorem wR {t:TypeId}{fs:Array Field}{n off:Nat}(hu:P.underlying t=some (.struct fs))(hn:ck P t n=true)(xs:Array Value)(w:World) :
  (part t xs off).run P w=.ok (.agg (xs.extract off (off+n))) w:=by
 simp[part,isAgg,run_underlying hu,dG hn]
theorem yR {t:TypeId}{k:SK}{off:Nat}{v:Value}(hk:nB P t k=true){xs:Array Value}(hx:xs[off]?=some v)(w:World) :
  (part t xs off).run P w=.ok v w:=by
 refine run_part_plain w ?_ hx
 unfold nB at hk
 unfold Program.plainKey
 cases k<;>simp only at hk<;>split at hk<;>simp_all
theorem b8.take {as:List AV}{xs:List Value}(h:b8 w G as xs)(n:Nat):b8 w G (as.take n) (xs.take n):=by
 refine⟨by simp[h.1],λi c v hc hv=>?_⟩
 rw[List.getElem?_take]at hc hv
 split at hc
 ·rename_i hi;rw[if_pos hi]at hv;exact h.2 i c v hc hv
 ·cases hc
theorem b8.drop {as:List AV}{xs:List Value}(h:b8 w G as xs)(n:Nat):b8 w G (as.drop n) (xs.drop n):=by
 refine⟨by simp[h.1],λi c v hc hv=>?_⟩
 rw[List.getElem?_drop]at hc hv
 exact h.2 _ c v hc hv
def abd (P:Program)(G:aM)(w:World)(D:Nat)(t:TypeId)(ks:List SK):Prop:=
 (∃k,ks=[k]/\nB P t k=true)\/
 (∃fs,P.underlying t=some (.struct fs))/\∀(xs ys:Array Value) (as bs:List AV) (r:Bool),b8 w G as xs.toList->b8 w G bs ys.toList->CG ks as bs=some r->
  (Op.equalIn D t (.agg xs) (.agg ys)).run P w=.ok r w
theorem wS (D:Nat)(xs ys:Array Value)(as bs:List AV)(hx:b8 w G as xs.toList)(hy:b8 w G bs ys.toList)(rec:TypeId->Option (List SK))
  (abe:∀t ks,rec t=some ks->abd P G w (D+1) t ks):∀(fs:List Field) (off:Nat) (ks:List SK) (r:Bool),AJ P rec off fs=some ks->CG ks (as.drop off) (bs.drop off)=some r->
  (Op.eqFields (D+1) xs ys fs).run P w=.ok r w
 |[],off,ks,r,h,he=>by
  simp only[AJ,Option.some.injEq]at h
  subst h
  cases ha:as.drop off<;>cases hb:bs.drop off<;>rw[ha,hb]at he<;>simp[CG]at he
  subst he
  simp[Op.eqFields]
 |f::fs,off,ks,r,h,he=>by
  unfold AJ at h
  split at h
  ·rename_i hc
   simp only[Bool.and_eq_true,decide_eq_true_eq,bne_iff_ne]at hc
   split at h
   ·rename_i kf hkf
    split at h
    ·rename_i mG
     split at h
     ·rename_i kr VC
      cases h
      obtain⟨r1,r2,e1,e2,rfl⟩:=AN kf kr _ _ r he
      have ih:=wS D xs ys as bs hx hy rec abe fs (off+kf.length) kr r2 VC (by simpa [List.drop_drop] using e2)
      have hf : f.name ≠ "_" := hc.2
      have step:∃a b,(part f.type xs f.offset).run P w=.ok a w/\(part f.type ys f.offset).run P w=.ok b w/\(Op.equalIn (D+1) f.type a b).run P w=.ok r1 w:=by
       rw[hc.1]
       obtain⟨l1,l2⟩:=AO _ _ _ _ e1
       rcases abe _ _ hkf with⟨k,rfl,hk⟩|⟨⟨gs,hu⟩,iU⟩
       ·simp only[List.length_cons,List.length_nil,Nat.zero_add]at e1 l1 l2
        have ha:∃a,as[off]?=some a:=by
         cases h:as[off]? with
         |some a=>exact⟨a,rfl⟩
         |none=>rw[List.getElem?_eq_none_iff]at h;simp at l1;omega
        have hb:∃b,bs[off]?=some b:=by
         cases h:bs[off]? with
         |some a=>exact⟨a,rfl⟩
         |none=>rw[List.getElem?_eq_none_iff]at h;simp at l2;omega
        obtain⟨a,ha⟩:=ha
        obtain⟨b,hb⟩:=hb
        have II:off<xs.size:=by have:=(List.getElem?_eq_some_iff.1 ha).1;have:=hx.1;simp at this;omega
        have SI:off<ys.size:=by have:=(List.getElem?_eq_some_iff.1 hb).1;have:=hy.1;simp at this;omega
        have hxa:=hx.2 off a xs[off] ha (by simp[II])
        have hyb:=hy.2 off b ys[off] hb (by simp[SI])
        refine⟨xs[off],ys[off],yR hk (by simp[II]) w,yR hk (by simp[SI]) w,?_⟩
        have:CF k a b=some r1:=by
         have t1:(as.drop off).take 1=[a]:=by
          rw[List.drop_eq_getElem_cons (List.getElem?_eq_some_iff.1 ha).1,(List.getElem?_eq_some_iff.1 ha).2];simp
         have t2:(bs.drop off).take 1=[b]:=by
          rw[List.drop_eq_getElem_cons (List.getElem?_eq_some_iff.1 hb).1,(List.getElem?_eq_some_iff.1 hb).2];simp
         rw[t1,t2]at e1
         simp only[CG]at e1
         split at e1
         ·rename_i p q hp hq
          cases hq
          simpa [hp] using e1
         ·cases e1
        exact SH hk this hxa hyb D w
       ·refine⟨_,_,wR hu mG xs w,wR hu mG ys w,iU _ _ _ _ _ ?_ ?_ e1⟩
        ·have:=(hx.drop off).take kf.length
         simpa [Array.toList_extract,List.extract] using this
        ·have:=(hy.drop off).take kf.length
         simpa [Array.toList_extract,List.extract] using this
      obtain⟨a,b,p1,p2,p3⟩:=step
      simp only[Op.eqFields,hf,ne_eq,not_false_eq_true,if_true,Sem.run_bind,p1,p2,p3,Result.andThen_ok]
      cases r1
      ·simp
      ·simpa using ih
     ·cases h
    ·cases h
   ·cases h
  ·cases h
theorem Gc:∀(d D:Nat)(t:TypeId)(ks:List SK),d<=D->AK P d t=some ks->abd P G w (D+1) t ks
 |0,_,_,_,_,h=>by simp[AK]at h
 |d+1,D,t,ks,hd,h=>by
  unfold AK at h
  split at h
  ·cases h;exact .inl ⟨.bool,rfl,by unfold nB;simp[*]⟩
  ·cases h;exact .inl ⟨.int,rfl,by unfold nB;simp[*]⟩
  ·cases h;exact .inl ⟨.str,rfl,by unfold nB;simp[*]⟩
  ·rename_i fs hu
   split at h
   ·cases h
   ·rename_i hs
    refine .inr ⟨⟨fs,hu⟩,λxs ys as bs r hx hy he=>?_⟩
    have hfs:P.fieldsOf t=fs:=by simp[Program.fieldsOf,hu]
    rw[run_equalIn_struct w D t xs ys (by rw[hfs];exact hu) (by simpa using hs),hfs]
    obtain⟨D',rfl⟩:∃D',D=D'+1:=⟨D-1,by omega⟩
    exact wS D' xs ys as bs hx hy (AK P d) (λt ks h=>Gc d D' t ks (by omega) h) fs.toList 0 ks r h (by simpa using he)
  ·cases h
theorem LR {t:TypeId}(h:vq P t (.sc .bool)=true):P.underlying t=some .bool:=by
 simp only[vq]at h;split at h
 ·assumption
 ·cases h
theorem NS {t:TypeId}(h:vq P t .ptr=true):∃e,P.underlying t=some (.pointer e):=by
 simp only[vq]at h;split at h
 ·exact⟨_,by assumption⟩
 ·cases h
theorem Km {t:TypeId}(h:vq P t .sl=true):∃e,P.underlying t=some (.slice e):=by
 simp only[vq]at h;split at h
 ·exact⟨_,by assumption⟩
 ·cases h
theorem SJ {t:TypeId}(h:vq P t .fn=true):∃a b c,P.underlying t=some (.func a b c):=by
 simp only[vq]at h;split at h
 ·exact⟨_,_,_,by assumption⟩
 ·cases h
def Kn (x:Value):Prop:=(∀k n,x≠.int k n)/\(∀k n,x≠.float k n)/\(∀s,x≠.string s)/\(∀k r i,x≠.complex k r i)
theorem cn (t:TypeId){x y:Value}(h1:x≠.nilIface)(h2:∀cs,x≠.agg cs)(op:BinOp)(xo yo:Operand)(w:World):(eqGuard op t xo yo x y).run P w=.ok () w:=by
 cases op<;>cases x<;>simp_all [eqGuard]
theorem SL {t:TypeId}{k:ZY}{a b:AV}{x y:Value}{r:Bool}(ht:vq P t k=true)(h:Ef k a b=some r)(ha:aN w G a x)(hb:aN w G b y) :
  (Op.equal t x y).run P w=.ok r w/\(∀op (xo yo:Operand),(eqGuard op t xo yo x y).run P w=.ok () w)/\Kn x:=by
 unfold Op.equal Op.maxDepth
 cases k with
 |sc k=>
  cases k with
  |bool=>
   simp only[Ef]at h
   have hu:=LR ht
   unfold CF at h
   split at h<;>try cases h
   ·rw[ha.jc,hb.jc]
    exact⟨run_equalIn_bool w 9999 t _ _ hu,λop xo yo=>cn t (by simp) (by simp) op xo yo w,by simp,by simp,by simp,by simp⟩
   all_goals simp_all
  |int=>simp[vq]at ht
  |str=>simp[vq]at ht
 |flat ks=>
  unfold Ef at h
  split at h<;>try (cases h;done)
  all_goals try (rename_i heq;cases heq;done)
  rename_i ks' as bs heq
  cases heq
  cases ha with
  |agg _ xs hl hx=>
   cases hb with
   |agg _ ys nR hy=>
    simp only[vq,Bool.and_eq_true,Bool.not_eq_true']at ht
    obtain⟨⟨hu,hf⟩,hg⟩:=ht
    have hfk:AK P 20 t=some ks:=by simpa using hf
    refine⟨?_,λop xo yo=>run_eqGuard_agg w op t xo yo xs ys hg,by simp,by simp,by simp,by simp⟩
    rcases Gc (w:=w) (G:=G) 20 9999 t ks (by omega) hfk with⟨k,rfl,hk⟩|⟨_,iU⟩
    ·exfalso
     unfold nB at hk
     cases k<;>simp only at hk<;>split at hk<;>simp_all
    ·exact iU xs ys as bs r ⟨by simpa using hl,λi c v h1 h2=>hx i c v h1 (by simpa using h2)⟩ ⟨by simpa using nR,λi c v h1 h2=>hy i c v h1 (by simpa using h2)⟩ h
 |ptr=>
  obtain⟨e,hu⟩:=NS ht
  have key:∀(p q:Option Addr) (r:Bool),(p=none/\r=q.isNone\/q=none/\r=p.isNone)->(Op.equalIn (9999+1) t (.pointer p) (.pointer q)).run P w=.ok r w:=by
   generalize 9999=D
   intro p q r h
   rcases h with⟨rfl,rfl⟩|⟨rfl,rfl⟩
   ·cases q<;>simp[Op.equalIn,run_underlying hu]
   ·cases p<;>simp[Op.equalIn,run_underlying hu]
  have inv:∀{a x},aN w G a x->(a=.eC->x=.pointer none)/\(∀i v k l,a=.ptr i v k l->∃p,x=.pointer (some p))/\(∀i v k l,a=.n8 i v k l->∃p,x=.pointer (some p)):=by
   intro a x h
   refine⟨λe=>by subst e;cases h;rfl,λi v k l e=>by subst e;cases h with|ptr _ _ _ _ _ loc hp=>exact hp,λi v k l e=>by subst e;cases h;exact⟨_,rfl⟩⟩
  unfold Ef at h
  split at h<;>try (cases h;done)
  all_goals try (rename_i heq;cases heq;done)
  ·cases h;rw[(inv ha).1 rfl,(inv hb).1 rfl]
   exact⟨key _ _ _ (.inl ⟨rfl,rfl⟩),λop xo yo=>cn t (by simp) (by simp) op xo yo w,by simp,by simp,by simp,by simp⟩
  ·cases h;obtain⟨p,hp⟩:=(inv hb).2.1 _ _ _ _ rfl;rw[(inv ha).1 rfl,hp]
   exact⟨key _ _ _ (.inl ⟨rfl,rfl⟩),λop xo yo=>cn t (by simp) (by simp) op xo yo w,by simp,by simp,by simp,by simp⟩
  ·cases h;obtain⟨p,hp⟩:=(inv hb).2.2 _ _ _ _ rfl;rw[(inv ha).1 rfl,hp]
   exact⟨key _ _ _ (.inl ⟨rfl,rfl⟩),λop xo yo=>cn t (by simp) (by simp) op xo yo w,by simp,by simp,by simp,by simp⟩
  ·cases h;obtain⟨p,hp⟩:=(inv ha).2.1 _ _ _ _ rfl;rw[(inv hb).1 rfl,hp]
   exact⟨key _ _ _ (.inr ⟨rfl,rfl⟩),λop xo yo=>cn t (by simp) (by simp) op xo yo w,by simp,by simp,by simp,by simp⟩
  ·cases h;obtain⟨p,hp⟩:=(inv ha).2.2 _ _ _ _ rfl;rw[(inv hb).1 rfl,hp]
   exact⟨key _ _ _ (.inr ⟨rfl,rfl⟩),λop xo yo=>cn t (by simp) (by simp) op xo yo w,by simp,by simp,by simp,by simp⟩
 |sl=>
  obtain⟨e,hu⟩:=Km ht
  have SM:∀(q:Option Addr) (n c:Nat),(Op.equalIn (9999+1) t (.slice none 0 0) (.slice q n c)).run P w=.ok q.isNone w:=by
   generalize 9999=D
   intro q n c;simp[Op.equalIn,run_underlying hu]
  have NT:∀(q:Option Addr) (n c:Nat),(Op.equalIn (9999+1) t (.slice q n c) (.slice none 0 0)).run P w=.ok q.isNone w:=by
   generalize 9999=D
   intro q n c;cases q<;>simp[Op.equalIn,run_underlying hu]
  have inv:∀{a x},aN w G a x->(a=.U->x=.slice none 0 0)/\(∀s r,a=.cU s r->∃p n c,x=.slice (some p) n c)/\(∀s r,a=.own s r->∃p n c,x=.slice (some p) n c)/\(a=.emp->∃p n c,x=.slice (some p) n c):=by
   intro a x h
   refine⟨λe=>by subst e;cases h;rfl,λs r e=>by subst e;cases h;exact⟨_,_,_,rfl⟩,λs r e=>by subst e;cases h;exact⟨_,_,_,rfl⟩,λe=>by subst e;cases h;exact⟨_,_,_,rfl⟩⟩
  unfold Ef at h
  split at h<;>try (cases h;done)
  all_goals try (rename_i heq;cases heq;done)
  ·cases h;rw[(inv ha).1 rfl,(inv hb).1 rfl]
   exact⟨SM _ _ _,λop xo yo=>cn t (by simp) (by simp) op xo yo w,by simp,by simp,by simp,by simp⟩
  ·cases h;obtain⟨p,n,c,hp⟩:=(inv hb).2.1 _ _ rfl;rw[(inv ha).1 rfl,hp]
   exact⟨SM _ _ _,λop xo yo=>cn t (by simp) (by simp) op xo yo w,by simp,by simp,by simp,by simp⟩
  ·cases h;obtain⟨p,n,c,hp⟩:=(inv hb).2.2.1 _ _ rfl;rw[(inv ha).1 rfl,hp]
   exact⟨SM _ _ _,λop xo yo=>cn t (by simp) (by simp) op xo yo w,by simp,by simp,by simp,by simp⟩
  ·cases h;obtain⟨p,n,c,hp⟩:=(inv hb).2.2.2 rfl;rw[(inv ha).1 rfl,hp]
   exact⟨SM _ _ _,λop xo yo=>cn t (by simp) (by simp) op xo yo w,by simp,by simp,by simp,by simp⟩
  ·cases h;obtain⟨p,n,c,hp⟩:=(inv ha).2.1 _ _ rfl;rw[(inv hb).1 rfl,hp]
   exact⟨NT _ _ _,λop xo yo=>cn t (by simp) (by simp) op xo yo w,by simp,by simp,by simp,by simp⟩
  ·cases h;obtain⟨p,n,c,hp⟩:=(inv ha).2.2.1 _ _ rfl;rw[(inv hb).1 rfl,hp]
   exact⟨NT _ _ _,λop xo yo=>cn t (by simp) (by simp) op xo yo w,by simp,by simp,by simp,by simp⟩
  ·cases h;obtain⟨p,n,c,hp⟩:=(inv ha).2.2.2 rfl;rw[(inv hb).1 rfl,hp]
   exact⟨NT _ _ _,λop xo yo=>cn t (by simp) (by simp) op xo yo w,by simp,by simp,by simp,by simp⟩
 |fn=>
  obtain⟨e1,e2,e3,hu⟩:=SJ ht
  have k1:∀D,(Op.equalIn (D+1) t .nilFunc .nilFunc).run P w=.ok true w:=λD=>by simp[Op.equalIn,run_underlying hu]
  have k2:∀D f p q,(Op.equalIn (D+1) t .nilFunc (.func f p q)).run P w=.ok false w:=λD f p q=>by simp[Op.equalIn,run_underlying hu]
  have k3:∀D f p q,(Op.equalIn (D+1) t (.func f p q) .nilFunc).run P w=.ok false w:=λD f p q=>by simp[Op.equalIn,run_underlying hu]
  have inv:∀{a x},aN w G a x->(a=.gV->x=.nilFunc)/\(∀f b c,a=.fn f b c->∃p q,x=.func (.func f) p q):=by
   intro a x h
   refine⟨λe=>by subst e;cases h;rfl,λs r c e=>by subst e;cases h;exact⟨_,_,rfl⟩⟩
  unfold Ef at h
  split at h<;>try (cases h;done)
  all_goals try (rename_i heq;cases heq;done)
  ·cases h;rw[(inv ha).1 rfl,(inv hb).1 rfl]
   exact⟨k1 9999,λop xo yo=>cn t (by simp) (by simp) op xo yo w,by simp,by simp,by simp,by simp⟩
  ·cases h;obtain⟨p,q,hp⟩:=(inv hb).2 _ _ _ rfl;rw[(inv ha).1 rfl,hp]
   exact⟨k2 9999 _ _ _,λop xo yo=>cn t (by simp) (by simp) op xo yo w,by simp,by simp,by simp,by simp⟩
  ·cases h;obtain⟨p,q,hp⟩:=(inv ha).2 _ _ _ rfl;rw[(inv hb).1 rfl,hp]
   exact⟨k3 9999 _ _ _,λop xo yo=>cn t (by simp) (by simp) op xo yo w,by simp,by simp,by simp,by simp⟩
end Ax
namespace Ax
open Go
variable {P:Program}{w:World}{G:aM}{β:List k8}{ρ:Operand->Value}{o:Oper}
structure tE (w:World)(G:aM)(sz:Nat)(rows:List (List AV))(loc:Loc):Prop where
 fit:fits sz rows=true
 z6:∀r∈rows,AV.aK r=true
 len:loc.len=rows.length
 size:loc.sz=sz
 qv:loc.vals.length=rows.length
 qP:∀(i:Nat) r xs,rows[i]?=some r->loc.vals[i]?=some xs->b8 w G r xs
 nS:(loc.cap=0/\rows=[]/\loc.a.isSome=true)\/∃b off c e,loc.a=some ⟨b,off,none⟩/\0<loc.cap/\w.heap[b]?=some (.cells c e (0,0))/\off+loc.cap*sz<=c.size/\rows.length<=loc.cap/\
  G.kL b=some 0/\∀(i:Nat) xs (j:Nat) x,loc.vals[i]?=some xs->xs[j]?=some x->w.cell? ⟨b,off+(i*sz+j),none⟩=some x
theorem tE.cell {sz:Nat}{rows:List (List AV)}{loc:Loc}(h:tE w G sz rows loc){b off:Nat}(hc:∀(i:Nat) xs (j:Nat) x,loc.vals[i]?=some xs->xs[j]?=some x->w.cell? ⟨b,off+(i*sz+j),none⟩=some x) :
  ∀(i:Nat) r (j:Nat) x,rows[i]?=some r->r[j]?=some x->∃v,w.cell? ⟨b,off+(i*sz+j),none⟩=some v/\aN w G x v:=by
 intro i r j x h1 h2
 have hi:i<loc.vals.length:=by rw[h.qv];exact(List.getElem?_eq_some_iff.1 h1).1
 have hv:=List.getElem?_eq_getElem hi
 obtain⟨e1,e2⟩:=h.qP i r _ h1 hv
 have hj:j<loc.vals[i].length:=by rw[<-e1];exact(List.getElem?_eq_some_iff.1 h2).1
 exact⟨_,hc i _ j _ hv (List.getElem?_eq_getElem hj),e2 j x _ h2 (List.getElem?_eq_getElem hj)⟩
def nT (w:World)(G:aM):fB->Loc->Prop
 |.rows bU sz rows,loc=>loc.mp=false/\loc.bU=bU/\tE w G sz rows loc
 |.map es,loc=>loc.mp=true/\loc.cap=1/\∃b tu clock,loc.a=some ⟨b,0,none⟩/\w.heap[b]?=some (.map tu clock)/\G.kL b=some 0/\tu.size=es.length/\
   ∀(i:Nat) k v e,es[i]?=some (k,v)->tu[i]?=some e->aN w G k e.key/\aN w G v e.val/\v.bX=true/\k.bX=true
structure Inv (w:World)(G:aM)(st:an):Prop where
 len:G.ls.length=st.length
 obj:∀(id:Nat) ob loc,st[id]?=some ob->G.ls[id]?=some loc->nT w G ob loc
 k9:∀b p,G.kL b=some p->b<w.heap.size
theorem Inv.loc {st:an}(h:Inv w G st){id:Nat}{ob:fB}(hs:st[id]?=some ob):∃loc,G.ls[id]?=some loc/\nT w G ob loc:=by
 have hi:id<st.length:=(List.getElem?_eq_some_iff.1 hs).1
 have:id<G.ls.length:=by rw[h.len];exact hi
 exact⟨G.ls[id],List.getElem?_eq_getElem this,h.obj id ob _ hs (List.getElem?_eq_getElem this)⟩
theorem NU {st:an}(hI:Inv w G st){a:AV}{v:Value}{rows:List (List AV)}(h:aN w G a v)(hr:rowsOf st a=some rows) :
  ∃p n c,v=.slice p n c/\n=rows.length:=by
 unfold rowsOf at hr
 split at hr
 ·cases hr;cases h;exact⟨_,_,_,rfl,rfl⟩
 ·cases hr;cases h;exact⟨_,_,_,rfl,rfl⟩
 ·cases hr;cases h;exact⟨_,_,_,rfl,rfl⟩
 ·cases hr;cases h;exact⟨_,_,_,rfl,rfl⟩
 ·rename_i id bU
  split at hr
  ·rename_i v' sz dJ fm
   split at hr
   ·rename_i hv
    cases hr
    obtain⟨loc,hl,ho⟩:=hI.loc fm
    cases h with
    |mu _ _ _ loc' hp nR CH he=>
     rw[hl]at nR;cases nR
     obtain⟨h1,h2,h3⟩:=ho
     refine⟨_,_,_,he (by omega),h3.len⟩
   ·cases hr
  ·cases hr
 ·cases hr
theorem abf {op:BinOp}{t yt:TypeId}{x y:Operand}(ho:o.op=.binOp op t x y yt){a b v:AV}(hv:zD op a b=some v)(ha:aN w G a (ρ x))(hb:aN w G b (ρ y)) :
  ∃u,(execOp ρ o).run P w=.ok (.value u) w/\aN w G v u/\v.bX=true:=by
 unfold zD at hv
 split at hv
 ·rename_i k p l q
  split at hv
  ·rename_i hk
   subst hk
   have hx:=ha.eZ
   have hy:=hb.eZ
   simp only[execOp,ho,hx,hy]
   have hg:∀op (w:World),(eqGuard op t x y (.int k p) (.int k q)).run P w=.ok () w:=λop w=>cn t (by simp) (by simp) op x y w
   cases op<;>simp only[j4]at hv<;>(try (cases hv;done))<;>(try (split at hv;· cases hv))<;>cases hv
   all_goals first
    |(refine⟨_,?_,.int _ _,rfl⟩;simp[binOp,Op.intArith,Op.intBits,hg];done)
    |(refine⟨_,?_,.bool _,rfl⟩;simp[binOp,Op.intCmp,hg];done)
    |(rename_i h0;refine⟨_,?_,.int _ _,rfl⟩;simp[binOp,Op.intDiv,hg,if_neg h0];done)
  ·cases hv
 ·rename_i p q
  obtain⟨s,hx,rfl⟩:=ha.k5
  obtain⟨s',hy,rfl⟩:=hb.k5
  simp only[execOp,ho,hx,hy]
  have hg:∀op (w:World),(eqGuard op t x y (.string s) (.string s')).run P w=.ok () w:=λop w=>cn t (by simp) (by simp) op x y w
  have h1:s.data.toList.length=s.size:=by simp
  have h2:s'.data.toList.length=s'.size:=by simp
  split at hv
  ·split at hv
   ·rename_i hle
    cases hv
    refine⟨.string (s++s'),?_,.str _ _ (by simp),rfl⟩
    have:¬(((s.size+s'.size:Nat):Int) > IntKind.i64.max):=by
     rw[h1,h2]at hle
     have:IntKind.i64.max=9223372036854775807:=rfl
     omega
    simp only[binOp,Op.stringOp,Sem.run_bind,hg,Result.andThen_ok,if_neg this,Sem.run_pure]
   ·cases hv
  ·cases hv
   exact⟨_,by simp[binOp,Op.stringOp,hg,ByteArray.toList_eq],.bool _,rfl⟩
  ·cases hv
   exact⟨_,by simp[binOp,Op.stringOp,hg,ByteArray.toList_eq],.bool _,rfl⟩
  ·cases hv
 ·cases hv
theorem binOp_eql {x:Value}(h:Kn x)(t:TypeId)(y:Value):binOp .eql t x y=(do pure (.bool (<-Op.equal t x y))):=by
 obtain⟨h1,h2,h3,h4⟩:=h
 cases x<;>first|rfl|(cases y<;>first|rfl|simp_all)
theorem binOp_neq {x:Value}(h:Kn x)(t:TypeId)(y:Value):binOp .neq t x y=(do pure (.bool (!(<-Op.equal t x y)))):=by
 obtain⟨h1,h2,h3,h4⟩:=h
 cases x<;>first|rfl|(cases y<;>first|rfl|simp_all)
theorem abg {t yt:TypeId}{x y:Operand}{k:ZY}{neg:Bool}(ho:o.op=.binOp (if neg then .neq else .eql) t x y yt)(ht:vq P t k=true){a b:AV}{r:Bool}(hr:Ef k a b=some r)
  (ha:aN w G a (ρ x)) (hb:aN w G b (ρ y)):∃u,(execOp ρ o).run P w=.ok (.value u) w/\aN w G (.bool (if neg then !r else r)) u:=by
 obtain⟨h1,h2,h3⟩:=SL ht hr ha hb
 refine⟨_,?_,.bool _⟩
 simp only[execOp,ho]
 cases neg
 ·simp[h2,binOp_eql h3,h1]
 ·simp[h2,binOp_neq h3,h1]
theorem SN {t yt:TypeId}{x y:Operand}{neg:Bool}(ho:o.op=.binOp (if neg then .neq else .eql) t x y yt)(ht:vq P t .sl=true){st:an}(hI:Inv w G st){id bU v sz:Nat}{rows:List (List AV)}(fm:st[id]?=some (.rows v sz rows))(hv:v=bU)
  (ha:aN w G (.mu id bU) (ρ x)) (hb:aN w G .U (ρ y)):(execOp ρ o).run P w=.ok (.value (.bool neg)) w:=by
 obtain⟨loc,hl,SO⟩:=hI.loc fm
 obtain⟨e,hu⟩:=Km ht
 have hy:ρ y=.slice none 0 0:=by
  generalize ρ y=z at hb
  cases hb;rfl
 obtain⟨p,n,c,hx⟩:∃p n c,ρ x=.slice (some p) n c:=by
  generalize ρ x=z at ha
  cases ha with
  |mu _ _ _ loc' hp nR CH he=>
   rw[hl]at nR;cases nR
   obtain⟨h1,h2,h3⟩:=SO
   have hz:=he (by omega)
   rcases h3.nS with⟨_,_,h4⟩|⟨b,off,c,e,h4,_⟩
   ·obtain⟨a,ha⟩:=Option.isSome_iff_exists.1 h4
    rw[ha]at hz;exact⟨_,_,_,hz⟩
   ·rw[h4]at hz;exact⟨_,_,_,hz⟩
 have h1:(Op.equal t (ρ x) (ρ y)).run P w=.ok false w:=by
  have NT:∀(q:Option Addr) (n c:Nat),(Op.equalIn (9999+1) t (.slice q n c) (.slice none 0 0)).run P w=.ok q.isNone w:=by
   generalize 9999=D
   intro q n c;cases q<;>simp[Op.equalIn,run_underlying hu]
  rw[hx,hy]
  unfold Op.equal Op.maxDepth
  exact NT (some p) n c
 have h2:∀op (xo yo:Operand),(eqGuard op t xo yo (ρ x) (ρ y)).run P w=.ok () w:=by
  rw[hx,hy]
  exact λop xo yo=>cn t (by simp) (by simp) op xo yo w
 have h3:Kn (ρ x):=by
  rw[hx]
  exact⟨by simp,by simp,by simp,by simp⟩
 simp only[execOp,ho]
 cases neg
 ·simp[h2,binOp_eql h3,h1]
 ·simp[h2,binOp_neq h3,h1]
theorem afO {op:UnOp}{t:TypeId}{x:Operand}(ho:o.op=.unOp op t x){a v:AV}(hv:WI op a=some v)(ha:aN w G a (ρ x)) :
  ∃u,(execOp ρ o).run P w=.ok (.value u) w/\aN w G v u/\v.bX=true:=by
 unfold WI at hv
 split at hv
 ·rename_i k p
  split at hv
  ·cases hv
   refine⟨_,?_,.int _ _,rfl⟩
   simp only[execOp,ho,ha.eZ]
   simp[Op.unary,Op.intArith]
  ·cases hv
 ·rename_i b
  split at hv
  ·cases hv
   refine⟨_,?_,.bool _,rfl⟩
   simp only[execOp,ho,ha.jc]
   simp[Op.unary]
  ·cases hv
 ·cases hv
theorem WK {s d:TypeId}{x:Operand}{k k':IntKind}(ho:o.op=.convert s d x)(hs:P.underlying s=some (.int k'))(hd:P.underlying d=some (.int k)){l:IntKind}{n:Int}(ha:aN w G (.int l n) (ρ x)) :
  (execOp ρ o).run P w=.ok (.value (.int k (k.wrap n))) w:=by
 simp only[execOp,ho,ha.eZ]
 simp[convert,run_underlying hs,run_underlying hd,Conv.intToInt]
theorem abh {c:Call}(ho:o.op=.call c)(hc:c.callee=.builtin .len){x:Operand}{t:TypeId}(hx:c.args.toList=[x])(ht:c.argTypes[0]?=some t){k:LK}
  (hu:match k with|.sl=>∃e,P.underlying t=some (.slice e)|.str=>P.underlying t=some .string|.mp=>∃k e,P.underlying t=some (.map k e))
  {st:an} (hI:Inv w G st) {a:AV} {n:Nat} (hn:mJ st k a=some n) (ha:aN w G a (ρ x)) :
  (execOp ρ o).run P w=.ok (.value (.int .i64 n)) w:=by
 have vH:c.args = #[x]:=by
  have:=congrArg List.toArray hx;simpa using this
 simp only[execOp,ho,resolve,hc,Sem.run_bind,Sem.run_pure,Result.andThen_ok,invoke,builtin,vH]
 simp only[Builtin.len_]
 unfold mJ at hn
 split at hn
 ·obtain⟨s',VD,rfl⟩:=ha.k5
  cases hn
  simp[ht,run_underlying hu,VD,goInt]
 ·cases hn
  obtain⟨km,em,hu⟩:=hu
  cases h:ρ x<;>rw[h]at ha<;>cases ha
  simp[ht,run_underlying hu,goInt,h]
 ·obtain⟨km,em,hu⟩:=hu
  split at hn
  ·rename_i es fm
   cases hn
   obtain⟨loc,hl,SO⟩:=hI.loc fm
   generalize Gd:ρ x=xv at ha
   cases ha with
   |map _ loc' b nR hm hb=>
    rw[hl]at nR;cases nR
    obtain⟨h1,h2,b',tu,clock,h3,h4,h5,h6,h7⟩:=SO
    rw[hb]at h3;cases h3
    simp[ht,run_underlying hu,Gd,goInt,getObj,Sem.run,h4,h6]
  ·cases hn
 ·obtain⟨e,hu⟩:=hu
  split at hn
  ·rename_i rows hr
   cases hn
   obtain⟨p,m,cc,VD,rfl⟩:=NU hI ha hr
   simp[ht,run_underlying hu,VD,goInt]
  ·cases hn
 ·cases hn
end Ax
namespace Ax
open Go
theorem di {α:Type}:∀(cs:List α)(k:Nat)(vs:List α),(af cs k vs).length=cs.length
 |[],0,[]=>rfl
 |[],0,_::_=>rfl
 |[],_+1,_=>rfl
 |_::_,0,[]=>rfl
 |_::cs,0,_::vs=>by simp[af,di cs 0 vs]
 |_::cs,k+1,vs=>by simp[af,di cs k vs]
theorem iC {α:Type}:∀(cs:List α)(k:Nat)(vs:List α)(i:Nat),k+vs.length<=cs.length->
  (af cs k vs)[i]?=if k<=i/\i<k+vs.length then vs[i-k]? else cs[i]?
 |[],0,[],i,_=>by simp[af]
 |[],0,_::_,i,h=>by simp at h
 |[],k+1,vs,i,h=>by simp at h
 |c::cs,0,[],i,_=>by simp[af]
 |c::cs,0,v::vs,0,_=>by simp[af]
 |c::cs,0,v::vs,i+1,h=>by
  have:=iC cs 0 vs i (by simp at h ⊢;omega)
  simp only[af,List.getElem?_cons_succ,this,List.length_cons,Nat.zero_add,Nat.sub_zero,Nat.zero_le,true_and]
  by_cases hi:i<vs.length
  ·simp[hi]
  ·simp[hi]
 |c::cs,k+1,vs,0,h=>by simp[af]
 |c::cs,k+1,vs,i+1,h=>by
  have:=iC cs k vs i (by simp at h;omega)
  simp only[af,List.getElem?_cons_succ,this]
  by_cases hi:k<=i/\i<k+vs.length
  ·rw[if_pos hi,if_pos (by omega),show i+1-(k+1)=i-k by omega]
  ·rw[if_neg hi,if_neg (by omega)]
theorem jd {α:Type}(cs:List α)(k:Nat)(vs:List α)(h:k+vs.length<=cs.length):af cs k vs=cs.take k++vs++cs.drop (k+vs.length):=by
 apply List.ext_getElem?
 intro i
 rw[iC cs k vs i h]
 by_cases h1:i<k
 ·rw[if_neg (by omega),List.getElem?_append_left (by simp;omega),List.getElem?_append_left (by simp;omega),List.getElem?_take,if_pos h1]
 ·by_cases h2:i<k+vs.length
  ·rw[if_pos (by omega),List.getElem?_append_left (by simp;omega),List.getElem?_append_right (by simp;omega)]
   simp only[List.length_take]
   rw[Nat.min_eq_left (by omega)]
  ·rw[if_neg (by omega),List.getElem?_append_right (by simp;omega)]
   simp only[List.length_append,List.length_take,List.getElem?_drop]
   rw[Nat.min_eq_left (by omega)]
   congr 1
   omega
theorem AP (b:Nat)(xs:List Value):bR b [] xs=0:=by cases xs<;>rfl
theorem eW (b:Nat):∀(as bs:List AV)(xs ys:List Value),as.length=xs.length->bR b (as++bs) (xs++ys)=bR b as xs+bR b bs ys
 |[],bs,[],ys,_=>by simp[bR]
 |[],_,_::_,_,h=>by simp at h
 |_::_,_,[],_,h=>by simp at h
 |a::as,bs,x::xs,ys,h=>by
  simp only[List.cons_append,bR]
  rw[eW b as bs xs ys (by simpa using h)]
  omega
theorem j8 (b n:Nat)(as:List AV)(xs:List Value)(h:as.length=xs.length):bR b as xs=bR b (as.take n) (xs.take n)+bR b (as.drop n) (xs.drop n):=by
 rw[<-eW b _ _ _ _ (by simp[h]),List.take_append_drop,List.take_append_drop]
theorem uI (b n:Nat)(as:List AV)(xs:List Value)(h:as.length=xs.length):bR b (as.drop n) (xs.drop n)<=bR b as xs:=by
 have:=j8 b n as xs h;omega
theorem LU (b n:Nat)(as:List AV)(xs:List Value)(h:as.length=xs.length):bR b (as.take n) (xs.take n)<=bR b as xs:=by
 have:=j8 b n as xs h;omega
theorem o0 (b:Nat)(as vs:List AV)(xs ys:List Value)(k:Nat)(h1:as.length=xs.length)(h2:vs.length=ys.length)(h:k+vs.length<=as.length) :
  bR b (af as k vs) (af xs k ys)<=bR b as xs+bR b vs ys:=by
 rw[jd _ _ _ h,jd _ _ _ (by omega)]
 rw[eW b _ _ _ _ (by simp;omega),eW b _ _ _ _ (by simp;omega)]
 have e1:=j8 b k as xs h1
 have e2:=uI b vs.length (as.drop k) (xs.drop k) (by simp;omega)
 rw[List.drop_drop,List.drop_drop]at e2
 rw[h2]at *
 omega
section
variable {w:World}{G:aM}
theorem b8.af {as vs:List AV}{xs ys:List Value}(h:b8 w G as xs)(k:b8 w G vs ys){n:Nat}(hn:n+vs.length<=as.length):b8 w G (Ax.af as n vs) (Ax.af xs n ys):=by
 refine⟨by rw[di,di];exact h.1,λi c v hc hv=>?_⟩
 have h1:=h.1
 have h2:=k.1
 rw[iC _ _ _ _ hn]at hc
 rw[iC _ _ _ _ (by omega)]at hv
 rw[<-h2]at hv
 split at hc
 ·rename_i hi;rw[if_pos hi]at hv;exact k.2 _ c v hc hv
 ·rename_i hi;rw[if_neg hi]at hv;exact h.2 _ c v hc hv
theorem aN.cells {a:AV}{v:Value}(h:aN w G a v):b8 w G a.cells v.cells.toList/\∀b,bR b a.cells v.cells.toList=eP b a v:=by
 have one:∀{a:AV} {v:Value},aN w G a v->(∀cs,a≠.agg cs)->(∀cs,v≠.agg cs)->b8 w G a.cells v.cells.toList/\∀b,bR b a.cells v.cells.toList=eP b a v:=by
  intro a v h h1 h2
  have e1:a.cells=[a]:=by cases a<;>first|rfl|exact absurd rfl (h1 _)
  have e2:v.cells = #[v]:=by cases v<;>first|rfl|exact absurd rfl (h2 _)
  rw[e1,e2]
  refine⟨⟨rfl,λi c x hc hx=>?_⟩,λb=>by simp[bR]⟩
  cases i with
  |zero=>simp at hc hx;subst hc;subst hx;exact h
  |succ i=>simp at hc
 cases a with
 |agg cs=>
  cases h with
  |agg _ vs hl hh=>exact⟨⟨by simpa [AV.cells,Value.cells] using hl,λi c x hc hx=>hh i c x hc (by simpa [Value.cells] using hx)⟩,λb=>by simp[AV.cells,Value.cells,eP]⟩
 |gone=>
  refine one h (by simp) λcs e=>?_
  subst e
  cases h with|gone _ h=>simp[Value.oneCell']at h
 |mu id bU=>
  refine one h (by simp) λcs e=>?_
  subst e
  cases h with|mu _ _ _ _ hp=>obtain⟨p,n,c,hp⟩:=hp;cases hp
 |ptr id bU i k=>
  refine one h (by simp) λcs e=>?_
  subst e
  cases h with|ptr _ _ _ _ _ _ hp=>obtain⟨p,hp⟩:=hp;cases hp
 |undef=>refine one h (by simp) λcs e=>?_;subst e;generalize hx:Value.agg cs=x at h;cases h;cases hx
 |bool _|int _ _|str _|eC|U|fh|gV|jt|fz _|cU _ _|own _ _|raw _ _|emp|n8 _ _ _ _|map _|fn _ _ _=>
  refine one h (by simp) λcs e=>?_;subst e;cases h
theorem NW {a:AV}{v:Value}(h:aN w G a v)(hc:a.cw=true):v.oneCell'=true:=by
 cases h with
 |agg _ _ _ _=>simp[AV.cw]at hc
 |fz _ _ _ _=>simp[AV.cw]at hc
 |undef=>simp[AV.cw]at hc
 |gone _ h=>exact h
 |mu _ _ _ _ hp=>obtain⟨p,n,c,rfl⟩:=hp;rfl
 |ptr _ _ _ _ _ _ hp=>obtain⟨p,rfl⟩:=hp;rfl
 |_=>rfl
theorem b8.SQ {as:List AV}{xs:List Value}(h:b8 w G as xs)(hc:AV.aK as=true):∀v∈xs,v.oneCell'=true:=by
 intro v hv
 obtain⟨i,hi,rfl⟩:=List.mem_iff_getElem.1 hv
 have oM:i<as.length:=by have:=h.1;omega
 refine NW (h.2 i as[i] xs[i] (List.getElem?_eq_getElem oM) (List.getElem?_eq_getElem hi)) ?_
 simp only[AV.aK,List.all_eq_true]at hc
 exact hc _ (List.getElem_mem oM)
theorem b8.mono {as:List AV}{xs:List Value}{w':World}{G':aM}(h:b8 w G as xs)(hs:qa w G w' G')(ho:∀b,0<bR b as xs->G'.kL b=G.kL b/\w'.heap[b]?=w.heap[b]?):b8 w' G' as xs:=
 ⟨h.1,λi c v hc hv=>(h.2 i c v hc hv).iB hs λb hb=>ho b (by have:=tD b as xs i c v hc hv;omega)⟩
end
theorem IV (off:Nat)(l:List Value)(cs:Array Value)(h:off+l.length<=cs.size) :
  (l.toArray.zipIdx.foldl (λcs (c,j)=>cs.setIfInBounds (off+j) c) cs).toList=af cs.toList off l:=by
 have key:∀(l:List Value) (s:Nat) (cs:Array Value),off+s+l.length<=cs.size->
   ((l.zipIdx s).foldl (λ(cs:Array Value) (x:Value×Nat)=>cs.setIfInBounds (off+x.2) x.1) cs).toList=af cs.toList (off+s) l:=by
  intro l
  induction l with
  |nil=>intro s cs h;simp;rw[jd _ _ _ (by simpa using h)];simp
  |cons v l ih=>
   intro s cs h
   simp only[List.length_cons]at h
   rw[List.zipIdx_cons,List.foldl_cons,ih (s+1) _ (by simp;omega)]
   simp only[Array.toList_setIfInBounds]
   apply List.ext_getElem?
   intro i
   rw[iC _ _ _ _ (by simp;omega),iC _ _ _ _ (by simp;omega)]
   simp only[List.length_cons]
   by_cases hi:i=off+s
   ·subst hi
    rw[if_neg (by omega),if_pos (by omega),List.getElem?_set_self (by simp;omega)]
    simp
   ·by_cases h2:off+s<=i/\i<off+s+(l.length+1)
    ·rw[if_pos (by omega),if_pos h2]
     have:i-(off+s)=(i-(off+(s+1)))+1:=by omega
     rw[this,List.getElem?_cons_succ]
    ·rw[if_neg (by omega),if_neg h2,List.getElem?_set,if_neg (by omega)]
 have:=key l 0 cs (by simpa using h)
 simp only[Nat.add_zero]at this
 rw[<-this,<-Array.foldl_toList]
 simp
end Ax
