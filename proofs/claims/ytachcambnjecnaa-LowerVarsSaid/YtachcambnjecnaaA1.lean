/- The library of this proof, part 1: an abstract interpreter of the loaded code, and its soundness. -/
import Derived.Calls
import Derived.Laws.Sem
import Derived.Laws.Entries
import Derived.ChangeKeysEq
import Derived.Laws.StructEq
import Derived.Laws.Pointers
import Derived.Great.FillDense

namespace Ax
open Go
inductive AV where
 |undef|gone
 |bool (b:Bool)|int (k:IntKind) (n:Int)|str (s:List UInt8)
 |dY|U|eX|gD|jj
 |agg (cs:List AV)|fm (vs:List AV)
 |cN (sz:Nat) (rows:List (List AV))
 |own (sz:Nat) (rows:List (List AV))
 |raw (sz:Nat) (rows:List (List AV))
 |emp
 |mu (id bP:Nat)
 |ptr (id bP i k:Nat)
 |nJ (sz:Nat) (rows:List (List AV)) (i k:Nat)
 |map (id:Nat)
 |fn (f:Nat) (first jI:List AV)
 deriving Inhabited
mutual
def AV.an:AV->Bool
 |.mu _ _|.ptr _ _ _ _|.map _=>false
 |.agg cs|.fm cs=>AV.ah cs
 |.fn _ a b=>AV.ah a&&AV.ah b
 |_=>true
def AV.ah:List AV->Bool
 |[]=>true
 |v::r=>v.an&&AV.ah r
end
mutual
def AV.view:AV->AV
 |.own sz rows=>.cN sz rows
 |.raw _ _=>.gone
 |.agg cs=>.agg (AV.cy cs)
 |.fm cs=>.fm (AV.cy cs)
 |v=>v
def AV.cy:List AV->List AV
 |[]=>[]
 |v::r=>v.view::AV.cy r
end
mutual
def AV.same:AV->AV->Bool
 |.undef,.undef|.gone,.gone|.dY,.dY|.U,.U|.eX,.eX|.gD,.gD|.jj,.jj|.emp,.emp=>true
 |.bool a,.bool b=>a==b
 |.int k a,.int l b=>k==l&&a==b
 |.str a,.str b=>a==b
 |.agg a,.agg b|.fm a,.fm b=>AV.pq a b
 |.cN s a,.cN t b|.own s a,.own t b|.raw s a,.raw t b=>s==t&&AV.pZ a b
 |.mu i v,.mu j w=>i==j&&v==w
 |.ptr a b c d,.ptr a' b' c' d'=>a==a'&&b==b'&&c==c'&&d==d'
 |.nJ s a i k,.nJ t b j l=>s==t&&AV.pZ a b&&i==j&&k==l
 |.map i,.map j=>i==j
 |.fn f a b,.fn g c d=>f==g&&AV.pq a c&&AV.pq b d
 |_,_=>false
def AV.pq:List AV->List AV->Bool
 |[],[]=>true
 |a::x,b::y=>a.same b&&AV.pq x y
 |_,_=>false
def AV.pZ:List (List AV)->List (List AV)->Bool
 |[],[]=>true
 |a::x,b::y=>AV.pq a b&&AV.pZ x y
 |_,_=>false
end
def AV.cells:AV->List AV
 |.agg cs=>cs
 |v=>[v]
def AV.cv:AV->Bool
 |.agg _|.fm _|.undef=>false
 |_=>true
def AV.aH (cs:List AV):Bool:=cs.all AV.cv
def AV.hJ:AV->AV
 |.own _ _=>.gone
 |.raw _ _=>.gone
 |v=>v
inductive dK where
 |none
 |val (v:AV)
 |fp (j k:Nat)
 deriving Inhabited
def dK.view:dK->dK
 |.val v=>.val v.view
 |e=>e
def dK.same:dK->dK->Bool
 |.none,.none=>true
 |.val a,.val b=>a.same b
 |.fp j k,.fp l m=>j==l&&k==m
 |_,_=>false
def dK.mT (j:Nat):dK->Bool
 |.fp j' _=>j' != j
 |_=>true
inductive fh where
 |rows (bP sz:Nat) (rows:List (List AV))
 |map (es:List (AV×AV))
 deriving Inhabited
abbrev aj:=List fh
abbrev aS:=List (List AV)
inductive Src where
 |tmp (t:Nat) (mv:Bool)
 |const (a:AV)
 deriving Inhabited
abbrev Env:=List (Nat×dK)
def cA:Env->Nat->dK
 |[],_=>.none
 |(k,e)::r,t=>if k=t then e else cA r t
def rZ:Env->Nat->dK->Env
 |[],t,e=>[(t,e)]
 |(k,x)::r,t,e=>if t<k then (t,e)::(k,x)::r else if t=k then (t,e)::r else (k,x)::rZ r t e
def zk:Env->Nat->Env
 |[],_=>[]
 |(k,x)::r,t=>if k=t then zk r t else (k,x)::zk r t
def Fv (env:Env):Src->dK
 |.tmp t true=>cA env t
 |.tmp t false=>(cA env t).view
 |.const a=>.val a
def kD:Env->Src->Env
 |env,.tmp t true=>zk env t
 |env,_=>env
structure St where
 env:Env
 bx:aS
 st:aj
 deriving Inhabited
inductive Mode where
 |pure|lq|Cv
 deriving DecidableEq,Inhabited
inductive SK where
 |bool|int|str
 deriving DecidableEq,Inhabited
inductive LK where
 |str|sl|mp
 deriving DecidableEq,Inhabited
inductive Za where
 |sc (k:SK)
 |ptr|sl|fn
 |flat (ks:List SK)
 deriving DecidableEq,Inhabited
inductive fA where
 |move
 |pick
 |bin (op:BinOp)
 |eqv (k:Za) (neg:Bool)
 |JW (neg:Bool)
 |un (op:UnOp)
 |conv (k:IntKind)
 |toStr
 |len (k:LK)
 |DW (mx:Bool)
 |nilCheck
 |extract (i:Nat)
 |field (off n:Nat) (agg:Bool)
 |build (zero:List AV) (parts:List (Nat×Nat))
 |lit (sz n:Nat) (zero:List AV) (parts:List Nat)
 |RO (sz n:Nat) (zero:List AV) (parts:List Nat)
 |fieldAddr (off:Nat)
 |indexAddr (sz:Nat)
 |index
 |slice (sd lo hi mx:Bool) (sz:Nat)
 |u6 (sz:Nat)
 |load (agg:Bool) (n:Nat) (take:Bool)
 |aD (j:Nat) (agg:Bool) (n:Nat) (take:Bool)
 |store (n:Nat)
 |ai (j n:Nat)
 |alloc (zero:List AV)
 |aF (j:Nat) (zero:List AV)
 |box (n:Nat)
 |fR (j n:Nat)
 |append (sz bytes:Nat)
 |lu (sz bytes:Nat)
 |qI (sz bytes:Nat) (zero:List AV) (mt:Bool)
 |zF (sz bytes:Nat) (zero:List AV)
 |tG (sz bytes:Nat) (zero:List AV)
 |RP
 |makeMap
 |mapUpdate (kk:SK)
 |lookup (kk:SK) (zero:AV) (ok:Bool)
 |makeFunc (f ae0:Nat)
 |call (f:Nat)
 |ox
 |copy (sz:Nat)
 deriving Inhabited
structure aU where
 dst:Option Nat
 op:fA
 args:List Src
 guard:Option (Nat×Bool)
 deriving Inhabited
inductive bG where
 |skip
 |region (ops:List aU) (draw:Option (List (Nat×Nat))) (dx:List Nat)
 |seq (a b:bG)
 |cond (c:Src) (ajH:List Nat) (thn:bG) (ajI:List Nat) (Nk:bG)
 |block (id:Nat) (body:bG)
 |loop (body:bG)
 |exit (id:Nat)
 |ret
 |Nl (t:Nat)
 |Ai (j k:Nat)
 |uw (t off:Nat)
 deriving Inhabited
inductive jA where
 |tmp (t:Nat) (mv:Bool)
 |box (t j n:Nat) (agg:Bool)
 |cell (t:Nat) (n:Nat) (agg:Bool)
 deriving Inhabited
structure aC where
 fD:Nat
 mode:Mode
 nparams:Nat
 aM:Nat
 dx:List Nat
 results:List jA
 body:bG
 deriving Inhabited
inductive Ex where
 |normal
 |exit (id:Nat)
 |ret (v:AV)
 deriving Inhabited
structure jf where
 call:Nat->Nat->Nat->List AV->aj->Option (AV×aj)
 loop:Nat->Nat->List jA->bG->St->Option (Ex×St)
def room:Nat:=140737488355328
def Cp:SK->AV->AV->Option Bool
 |.bool,.bool a,.bool b=>some (a==b)
 |.int,.int k a,.int l b=>if k=l then some (a==b) else none
 |.str,.str a,.str b=>some (a==b)
 |_,_,_=>none
def Cq:List SK->List AV->List AV->Option Bool
 |[],[],[]=>some true
 |k::ks,a::as,b::bs=>match Cp k a b,Cq ks as bs with
  |some p,some q=>some (p&&q)
  |_,_=>none
 |_,_,_=>none
def Fw:Za->AV->AV->Option Bool
 |.sc k,a,b=>Cp k a b
 |.flat ks,.agg a,.agg b=>Cq ks a b
 |.ptr,.dY,.dY=>some true
 |.ptr,.dY,.ptr _ _ _ _|.ptr,.dY,.nJ _ _ _ _|.ptr,.ptr _ _ _ _,.dY|.ptr,.nJ _ _ _ _,.dY=>some false
 |.fn,.gD,.gD=>some true
 |.fn,.gD,.fn _ _ _|.fn,.fn _ _ _,.gD=>some false
 |.sl,.U,.U=>some true
 |.sl,.U,.cN _ _|.sl,.U,.own _ _|.sl,.U,.emp|.sl,.cN _ _,.U|.sl,.own _ _,.U|.sl,.emp,.U=>some false
 |_,_,_=>none
def jJ (op:BinOp)(k:IntKind)(a b:Int):Option AV:=
 match op with
 |.add=>some (.int k (k.wrap (a+b)))
 |.sub=>some (.int k (k.wrap (a-b)))
 |.mul=>some (.int k (k.wrap (a*b)))
 |.quo=>if b=0 then none else some (.int k (k.wrap (a.tdiv b)))
 |.rem=>if b=0 then none else some (.int k (a.tmod b))
 |.and=>some (.int k (k.wrap ((BitVec.ofInt k.bits a &&& BitVec.ofInt k.bits b).toNat)))
 |.eql=>some (.bool (a==b))
 |.neq=>some (.bool (a != b))
 |.lss=>some (.bool (decide (a<b)))
 |.leq=>some (.bool (decide (a<=b)))
 |.gtr=>some (.bool (decide (a > b)))
 |.geq=>some (.bool (decide (a ≥ b)))
 |_=>none
def zl (op:BinOp):AV->AV->Option AV
 |.int k a,.int l b=>if k=l then jJ op k a b else none
 |.str a,.str b=>
  match op with
  |.add=>if a.length+b.length<=4611686018427387904 then some (.str (a++b)) else none
  |.eql=>some (.bool (a==b))
  |.neq=>some (.bool (!(a==b)))
  |_=>none
 |_,_=>none
def VX (op:UnOp):AV->Option AV
 |.int k a=>match op with|.neg=>some (.int k (k.wrap (0-a)))|_=>none
 |.bool b=>match op with|.not=>some (.bool (!b))|_=>none
 |_=>none
def rowsOf (st:aj):AV->Option (List (List AV))
 |.U|.emp=>some []
 |.cN _ rows|.own _ rows=>some rows
 |.mu id bP=>match st[id]? with
  |some (.rows v _ rows)=>if v=bP then some rows else none
  |_=>none
 |_=>none
def dM (s:List UInt8):List (List AV):=s.map λb=>[.int .u8 b.toNat]
def di (st:aj):AV->Option (List (List AV))
 |.str s=>some (dM s)
 |.mu id bP=>match rowsOf st (.mu id bP) with|some rows=>some (rows.map AV.cy)|none=>none
 |v=>rowsOf st v
def fits (sz:Nat)(rows:List (List AV)):Bool:=rows.all λr=>r.length==sz
def mc (st:aj):LK->AV->Option Nat
 |.str,.str s=>some s.length
 |.mp,.eX=>some 0
 |.mp,.map id=>match st[id]? with|some (.map es)=>some es.length|_=>none
 |.sl,v=>match rowsOf st v with|some rows=>some rows.length|none=>none
 |_,_=>none
def cut (cs:List AV)(k n:Nat):Option (List AV):=if k+n<=cs.length then some ((cs.drop k).take n) else none
def fF (st:aj):AV->Nat->Option (List AV)
 |.ptr id bP i k,n=>match st[id]? with
  |some (.rows v _ rows)=>if v=bP then match rows[i]? with|some r=>cut r k n|none=>none else none
  |_=>none
 |.nJ _ rows i k,n=>match rows[i]? with|some r=>cut r k n|none=>none
 |_,_=>none
def af {α:Type}:List α->Nat->List α->List α
 |cs,0,[]=>cs
 |_::cs,0,v::vs=>v::af cs 0 vs
 |c::cs,k+1,vs=>c::af cs k vs
 |[],_,_=>[]
def bf (wl aa id:Nat)(cells:List AV):Bool:=decide (wl<=id)&&(decide (aa<=id)||AV.ah cells)
def dz (wl aa:Nat)(st:aj):AV->List AV->Option aj
 |.ptr id bP i k,cells=>match st[id]? with
  |some (.rows v sz rows)=>
   if v=bP&&bf wl aa id cells then
    match rows[i]? with
    |some r=>if k+cells.length<=r.length then some (st.set id (.rows v sz (rows.set i (af r k cells)))) else none
    |none=>none
   else none
  |_=>none
 |_,_=>none
def bU (agg:Bool)(cells:List AV):Option AV:=
 if agg then some (.agg cells) else match cells with | [v]=>some v|_=>none
def gy:List AV->List (Nat×Nat)->List AV->Option (List AV)
 |cs,[],[]=>some cs
 |cs,(off,n)::ps,v::vs=>
  if v.cells.length=n&&off+n<=cs.length then gy (af cs off v.cells) ps vs else none
 |_,_,_=>none
def fo (sz:Nat):List (List AV)->List Nat->List AV->Option (List (List AV))
 |rows,[],[]=>some rows
 |rows,i::ps,v::vs=>if v.cells.length=sz&&i<rows.length then fo sz (rows.set i v.cells) ps vs else none
 |_,_,_=>none
def pz (kk:SK)(k:AV):List (AV×AV)->Option (Option AV)
 |[]=>some none
 |(a,v)::r=>match Cp kk k a with|some true=>some (some v)|some false=>pz kk k r|none=>none
def Cw (kk:SK)(k v:AV):List (AV×AV)->Option (List (AV×AV))
 |[]=>some [(k,v)]
 |(a,u)::r=>match Cp kk k a with
  |some true=>some ((k,v)::r)
  |some false=>match Cw kk k v r with|some r'=>some ((a,u)::r')|none=>none
  |none=>none
def isKey:SK->AV->Bool
 |.int,.int _ _|.str,.str _|.bool,.bool _=>true
 |_,_=>false
def iq:List dK->Option (List AV)
 |[]=>some []
 |.val v::r=>match iq r with|some vs=>some (v::vs)|none=>none
 |_::_=>none
def bytesOf:List (List AV)->Option (List UInt8)
 |[]=>some []
 |[.int .u8 n]::r=>if 0<=n/\n<256 then match bytesOf r with|some l=>some (UInt8.ofNat n.toNat::l)|none=>none else none
 |_=>none
def pA (has:Bool)(VY:Int)(l:List dK):Option (Int×List dK):=
 if has then match l with|.val (.int .i64 n)::r=>some (n,r)|_=>none else some (VY,l)
def jo (sd:Bool)(sz:Nat)(x:AV)(lo hi:Int)(mx:Option Int):Option AV:=
 match sd,x with
 |true,.str s=>if mx.isNone&&decide (0<=lo)&&decide (lo<=hi)&&decide (hi<=s.length) then some (.str ((s.take hi.toNat).drop lo.toNat)) else none
 |false,.U=>if lo=0&&hi=0&&(match mx with|some m=>m==0|none=>true) then some .U else none
 |false,.emp=>if lo=0&&hi=0&&(match mx with|some m=>m==0|none=>true) then some .emp else none
 |false,.cN s rows|false,.own s rows=>
  match mx with
  |none=>if s=sz&&decide (0<=lo)&&decide (lo<=hi)&&decide (hi<=rows.length) then some (.cN sz ((rows.take hi.toNat).drop lo.toNat)) else none
  |some m=>if lo=0&&hi=0&&m=0 then some .emp else none
 |_,_=>none
def xE (wl aa sz bytes:Nat)(s:AV)(new:List (List AV))(st:aj)(bx:aS):Option (dK×aj×aS):=
 if fits sz new then match s with
  |.U=>if new.isEmpty then some (.val .U,st,bx) else if new.length*bytes<=room then some (.val (.mu st.length 0),st++[.rows 0 sz new],bx) else none
  |.emp=>if new.length*bytes<=room then some (.val (.mu st.length 0),st++[.rows 0 sz new],bx) else none
  |.mu id bP=>match st[id]? with
   |some (.rows v iI old)=>
    if v=bP&&iI=sz&&decide ((old.length+new.length)*bytes<=room)&&decide (wl<=id)&&(decide (aa<=id)||new.all AV.ah) then
     some (.val (.mu id (v+1)),st.set id (.rows (v+1) sz (old++new)),bx) else none
   |_=>none
  |_=>none else none
def aI (wl aa:Nat)(op:fA)(vals:List dK)(st:aj)(bx:aS):Option (dK×aj×aS):=
 match op with
 |.move=>match vals with
  |[e]=>some (e,st,bx)
  |_=>none
 |.pick=>match vals with
  |[.val (.bool b),x,y]=>some (if b then x else y,st,bx)
  |_=>none
 |.bin op=>match vals with
  |[.val x,.val y]=>match zl op x y with|some v=>some (.val v,st,bx)|none=>none
  |_=>none
 |.eqv k neg=>match vals with
  |[.val x,.val y]=>match Fw k x y with|some b=>some (.val (.bool (if neg then !b else b)),st,bx)|none=>none
  |_=>none
 |.JW neg=>match vals with
  |[.val (.mu id bP),.val .U]=>match st[id]? with
   |some (.rows v _ _)=>if v=bP then some (.val (.bool neg),st,bx) else none
   |_=>none
  |_=>none
 |.un op=>match vals with
  |[.val x]=>match VX op x with|some v=>some (.val v,st,bx)|none=>none
  |_=>none
 |.conv k=>match vals with
  |[.val (.int _ n)]=>some (.val (.int k (k.wrap n)),st,bx)
  |_=>none
 |.toStr=>match vals with
  |[.val x]=>match rowsOf st x with
   |some rows=>match bytesOf rows with|some s=>some (.val (.str s),st,bx)|none=>none
   |none=>none
  |_=>none
 |.len k=>match vals with
  |[.val x]=>match mc st k x with|some n=>some (.val (.int .i64 n),st,bx)|none=>none
  |_=>none
 |.DW mx=>match vals with
  |[.val (.int k a),.val (.int l b)]=>
   if k=l then some (.val (.int k (if mx then (if b > a then b else a) else (if b<a then b else a))),st,bx) else none
  |_=>none
 |.nilCheck=>match vals with
  |[.fp j k]=>some (.fp j k,st,bx)
  |[.val x]=>match x with
   |.ptr .. | .nJ ..=>some (.val x,st,bx)
   |_=>none
  |_=>none
 |.extract i=>match vals with
  |[.val (.fm vs)]=>match vs[i]? with|some v=>some (.val v,st,bx)|none=>none
  |_=>none
 |.field off n agg=>match vals with
  |[.val (.agg cs)]=>match cut cs off n with
   |some r=>match bU agg r with|some v=>some (.val v,st,bx)|none=>none
   |none=>none
  |_=>none
 |.build zero parts=>match vals with
  |l=>match iq l with
   |some vs=>match gy zero parts vs with|some cs=>some (.val (.agg cs),st,bx)|none=>none
   |none=>none
 |.lit sz n zero parts=>match vals with
  |l=>match iq l with
   |some vs=>match fo sz (List.replicate n zero) parts (AV.cy vs) with
    |some rows=>if rows.all AV.ah&&rows.all AV.aH then some (.val (if n=0 then .emp else .cN sz rows),st,bx) else none
    |none=>none
   |none=>none
 |.RO sz n zero parts=>match vals with
  |l=>match iq l with
   |some vs=>match fo sz (List.replicate n zero) parts vs with
    |some rows=>if rows.all AV.aH&&decide (0<n) then some (.val (.mu st.length 0),st++[.rows 0 sz rows],bx) else none
    |none=>none
   |none=>none
 |.fieldAddr off=>match vals with
  |[.fp j k]=>some (.fp j (k+off),st,bx)
  |[.val (.ptr id bP i k)]=>some (.val (.ptr id bP i (k+off)),st,bx)
  |[.val (.nJ sz rows i k)]=>some (.val (.nJ sz rows i (k+off)),st,bx)
  |_=>none
 |.indexAddr sz=>match vals with
  |[.val x,.val (.int .i64 i)]=>match x with
   |.cN s rows|.own s rows=>if s=sz&&decide (0<=i)&&decide (i<rows.length) then some (.val (.nJ sz rows i.toNat 0),st,bx) else none
   |.mu id bP=>match st[id]? with
    |some (.rows v s rows)=>if v=bP&&s=sz&&decide (0<=i)&&decide (i<rows.length) then some (.val (.ptr id bP i.toNat 0),st,bx) else none
    |_=>none
   |_=>none
  |_=>none
 |.index=>match vals with
  |[.val (.str s),.val (.int .i64 i)]=>
   if 0<=i then match s[i.toNat]? with|some b=>some (.val (.int .u8 b.toNat),st,bx)|none=>none else none
  |_=>none
 |.slice sd lo hi mx sz=>match vals with
  |.val x::l=>match mc st (if sd then .str else .sl) x with
   |none=>none
   |some n=>match pA lo 0 l with
    |none=>none
    |some (a,l)=>match pA hi n l with
     |none=>none
     |some (b,l)=>match mx,l with
      |false,[]=>match jo sd sz x a b none with|some v=>some (.val v,st,bx)|none=>none
      |true,[.val (.int .i64 m)]=>match jo sd sz x a b (some m) with|some v=>some (.val v,st,bx)|none=>none
      |_,_=>none
  |_=>none
 |.u6 sz=>match vals with
  |[.val (.mu id bP),.val (.int .i64 hi)]=>match st[id]? with
   |some (.rows v s rows)=>if v=bP&&s=sz&&decide (0<=hi)&&decide (hi<=rows.length)&&decide (wl<=id) then
     some (.val (.mu id (v+1)),st.set id (.rows (v+1) s (rows.take hi.toNat)),bx) else none
   |_=>none
  |_=>none
 |.load agg n take=>match vals with
  |[.val p]=>match fF st p n with
   |some cs=>
    if take then
     match dz wl aa st p (cs.map AV.hJ),bU agg cs with
     |some bK,some v=>some (.val v,bK,bx)
     |_,_=>none
    else match bU agg (AV.cy cs) with|some v=>some (.val v,st,bx)|none=>none
   |none=>none
  |_=>none
 |.aD j agg n take=>match vals with
  |[.fp j' k]=>if j=j' then match bx[j]? with
    |some row=>match cut row k n with
     |some cs=>
      if take then match bU agg cs with|some v=>some (.val v,st,bx.set j (af row k (cs.map AV.hJ)))|none=>none
      else match bU agg (AV.cy cs) with|some v=>some (.val v,st,bx)|none=>none
     |none=>none
    |none=>none
   else none
  |_=>none
 |.store n=>match vals with
  |[.val p,.val v]=>if v.cells.length=n&&AV.aH v.cells then
    match dz wl aa st p v.cells with|some bK=>some (.none,bK,bx)|none=>none else none
  |_=>none
 |.ai j n=>match vals with
  |[.fp j' k,.val v]=>if j=j'&&v.cells.length=n&&AV.aH v.cells then match bx[j]? with
    |some row=>if k+n<=row.length then some (.none,st,bx.set j (af row k v.cells)) else none
    |none=>none
   else none
  |_=>none
 |.alloc zero=>match vals with
  |[]=>some (.val (.ptr st.length 0 0 0),st++[.rows 0 zero.length [zero]],bx)
  |_=>none
 |.aF j zero=>match vals with
  |[]=>if j<bx.length then some (.fp j 0,st,bx.set j zero) else none
  |_=>none
 |.box n=>match vals with
  |[.val v]=>if v.cells.length=n&&AV.aH v.cells then some (.val (.ptr st.length 0 0 0),st++[.rows 0 n [v.cells]],bx) else none
  |_=>none
 |.fR j n=>match vals with
  |[.val v]=>if j<bx.length&&v.cells.length=n&&AV.aH v.cells then some (.fp j 0,st,bx.set j v.cells) else none
  |_=>none
 |.append sz bytes=>match vals with
  |[.val s,.val x]=>match di [] x with
   |none=>none
   |some new=>if fits sz new then match s with
    |.U|.emp=>if new.isEmpty then some (.val s,st,bx) else if new.length*bytes<=room then some (.val (.own sz new),st,bx) else none
    |.own iI old=>if iI=sz&&decide ((old.length+new.length)*bytes<=room) then some (.val (.own sz (old++new)),st,bx) else none
    |_=>none else none
  |_=>none
 |.lu sz bytes=>match vals with
  |[.val s,.val x]=>match di st x with
   |none=>none
   |some new=>xE wl aa sz bytes s new st bx
  |_=>none
 |.qI sz bytes zero mt=>match vals with
  |[.val (.int .i64 n),.val (.int .i64 c)]=>
   if 0<=n/\n<=c/\c*bytes<=room/\zero.length=sz then
    if mt then some (.val (.mu st.length 0),st++[.rows 0 sz (List.replicate n.toNat zero)],bx)
    else if AV.ah zero then some (.val (.own sz (List.replicate n.toNat zero)),st,bx) else none
   else none
  |_=>none
 |.zF sz bytes zero=>match vals with
  |[.val (.int .i64 n),.val (.int .i64 c)]=>
   if 0<=n/\n<=c/\c*bytes<=room/\zero.length=sz/\AV.ah zero=true then some (.val (.raw sz (List.replicate n.toNat zero)),st,bx) else none
  |_=>none
 |.tG sz bytes zero=>match vals with
  |[.val s,.val (.int .i64 n)]=>
   if 0<=n/\n*bytes<=room/\zero.length=sz/\AV.ah zero=true then xE wl aa sz bytes s (List.replicate n.toNat zero) st bx else none
  |_=>none
 |.RP=>match vals with
  |[.val .U]=>some (.val (.int .i64 0),st,bx)
  |_=>none
 |.makeMap=>match vals with
  |[]=>some (.val (.map st.length),st++[.map []],bx)
  |_=>none
 |.mapUpdate kk=>match vals with
  |[.val (.map id),.val k,.val v]=>match st[id]? with
   |some (.map es)=>if isKey kk k&&bf wl aa id [v] then match Cw kk k v.view es with|some se=>some (.none,st.set id (.map se),bx)|none=>none else none
   |_=>none
  |_=>none
 |.lookup kk zero ok=>match vals with
  |[.val m,.val k]=>
   match (match m with|.eX=>some []|.map id=>(match st[id]? with|some (.map es)=>some es|_=>none)|_=>none) with
   |none=>none
   |some es=>if isKey kk k then match pz kk k es with
    |none=>none
    |some r=>let v:=r.getD zero
     some (.val (if ok then .fm [v,.bool r.isSome] else v),st,bx)
    else none
  |_=>none
 |.makeFunc f n=>match vals with
  |l=>match iq l with
   |some vs=>some (.val (.fn f (AV.cy (vs.take n)) (AV.cy (vs.drop n))),st,bx)
   |none=>none
 |.copy sz=>match vals with
  |[.val (.mu id bP),.val x]=>match st[id]?,di st x with
   |some (.rows v iI old),some new=>
    if v=bP&&iI=sz&&fits sz new&&decide (new.length<=old.length)&&decide (wl<=id)&&(decide (aa<=id)||new.all AV.ah) then
     some (.val (.int .i64 new.length),st.set id (.rows v sz (new++old.drop new.length)),bx) else none
   |_,_=>none
  |_=>none
 |.call _|.ox=>none
def kE:fA->List dK->Option (Nat×List AV)
 |.call f,l=>match iq l with
  |some vs=>some (f,vs)
  |none=>none
 |.ox,.val (.fn f first jI)::l=>match iq l with
  |some vs=>some (f,first++vs++jI)
  |none=>none
 |_,_=>none
def eR (O:jf)(wl aa:Nat)(x:Option (Nat×List AV))(st:aj)(bx:aS):Option (dK×aj×aS):=
 match x with
 |some (f,vs)=>match O.call wl aa f vs st with|some (v,bK)=>some (.val v,bK,bx)|none=>none
 |none=>none
def act (O:jf)(wl aa:Nat)(op:fA)(vals:List dK)(st:aj)(bx:aS):Option (dK×aj×aS):=
 match op with
 |.call f=>eR O wl aa (kE (.call f) vals) st bx
 |.ox=>eR O wl aa (kE .ox vals) st bx
 |op=>aI wl aa op vals st bx
def fA.bq:fA->Option Nat
 |.aF j _|.fR j _=>some j
 |_=>none
def ux (env:Env)(dst:Option Nat)(e:dK):Env:=
 match dst with
 |some d=>rZ env d e
 |none=>env
def kL (env:Env):Option (Nat×Bool)->Option Bool
 |none=>some true
 |some (t,b)=>match cA env t with
  |.val (.bool c)=>some (c==b)
  |.val .undef=>some false
  |_=>none
def nw (j:Nat)(env:Env):Bool:=env.all λx=>x.2.mT j
def evalOp (O:jf)(wl aa:Nat)(o:aU)(s:St):Option St:=
 match kL s.env o.guard with
 |none=>none
 |some false=>some { s with env:=ux s.env o.dst (.val .undef) }
 |some true=>
  match act O wl aa o.op (o.args.map (Fv s.env)) s.st s.bx with
  |none=>none
  |some (e,bK,eI)=>
   match o.op.bq with
   |none=>some ⟨ux (o.args.foldl kD s.env) o.dst e,eI,bK⟩
   |some j=>if nw j (ux (o.args.foldl kD s.env) o.dst .none) then some ⟨ux (o.args.foldl kD s.env) o.dst e,eI,bK⟩ else none
def eC (O:jf)(wl aa:Nat):List aU->St->Option St
 |[],s=>some s
 |o::l,s=>match evalOp O wl aa o s with|some s'=>eC O wl aa l s'|none=>none
def dm (O:jf)(wl aa:Nat):List aU->St->Option (St×List St)
 |[],s=>some (s,[s])
 |o::l,s=>match evalOp O wl aa o s with
  |some s'=>match dm O wl aa l s' with|some (e,l')=>some (e,s::l')|none=>none
  |none=>none
def cT (O:jf)(wl aa:Nat)(o:aU)(s t:St)(st:aj):Bool:=
 match kL s.env o.guard with
 |none=>false
 |some false=>true
 |some true=>
  match act O wl aa o.op (o.args.map (Fv s.env)) st s.bx with
  |some (e,_,_)=>(match o.dst with|some d=>(cA t.env d).same e|none=>false)
  |none=>false
def xSt (wl aa:Nat)(ops:List aU)(gp:List St)(p q:Nat):Option aj:=
 match ops[p]?,gp[p]?,ops[q]?,gp[q]? with
 |some a,some s,some b,some t=>
  match a.op,a.args.map (Fv s.env),b.op,b.args.map (Fv t.env) with
  |.store _,[.val (.ptr i _ _ _),.val _],.store m,[.val (.ptr j v x y),.val u]=>
   if i=j then none else match aI wl aa (.store m) [.val (.ptr j v x y),.val u] s.st [] with
   |some (_,X,_)=>some X
   |none=>none
  |_,_,_,_=>none
 |_,_,_,_=>none
def gG (O:jf)(wl aa:Nat)(ops:List aU)(gp:List St):Nat×Nat->Bool
 |(q,w)=>if q<100000 then match ops[q]?,gp[q]?,gp[q+1]?,gp[w]?,gp[w+1]? with
   |some o,some s,some t,some a,some b=>cT O wl aa o s t a.st&&cT O wl aa o s t b.st
   |_,_,_,_,_=>false
  else match xSt wl aa ops gp (q % 100000) w with
   |none=>false
   |some X=>if q<200000 then true else match ops[q / 100000-2]?,gp[q / 100000-2]?,gp[q / 100000-2+1]? with
    |some o,some s,some t=>cT O wl aa o s t X
    |_,_,_=>false
def bp (env:Env)(o:aU):Bool:=match o.op.bq with|some j=>nw j env|none=>true
def fq (O:jf)(wl aa:Nat)(ops:List aU)(bD:List (Nat×Nat))(s:St):Option St:=
 match dm O wl aa ops s with
 |none=>none
 |some (e,gp)=>
  if bD.all (gG O wl aa ops gp)&&ops.all (bp s.env) then some e else none
def gH:List Nat->Env->Env
 |[],env=>env
 |t::l,env=>gH l (zk env t)
def oy (env:Env)(c:Src):Option Bool:=
 match Fv env c with
 |.val (.bool b)=>some b
 |_=>none
def pC (wl:Nat)(v:AV)(st:aj):Option (AV×aj):=
 match v with
 |.mu id bP=>match st[id]? with
  |some (.rows v sz rows)=>if v=bP&&rows.all AV.ah && !rows.isEmpty&&decide (wl<=id) then some (.cN sz (rows.map AV.cy),st.set id (.rows (v+1) sz [])) else none
  |_=>none
 |v=>if v.an&&v.cv then some (v.view,st) else none
def jZ (wl:Nat):List AV->aj->Option (List AV×aj)
 |[],st=>some ([],st)
 |v::l,st=>match pC wl v st with
  |some (v',bK)=>match jZ wl l bK with
   |some (l',Lp)=>some (v'::l',Lp)
   |none=>none
  |none=>none
def kF (wl:Nat):List (List AV)->aj->Option (List (List AV)×aj)
 |[],st=>some ([],st)
 |r::l,st=>match jZ wl r st with
  |some (r',bK)=>match kF wl l bK with
   |some (l',Lp)=>some (r'::l',Lp)
   |none=>none
  |none=>none
def jq (wl:Nat)(v:AV)(st:aj):Option (AV×aj):=
 match v with
 |.mu id bP=>match st[id]? with
  |some (.rows v sz rows)=>if v=bP && !rows.isEmpty&&decide (wl<=id) then
    match kF wl rows (st.set id (.rows (v+1) sz [])) with
    |some (dy,bK)=>some (.cN sz dy,bK)
    |none=>none
   else none
  |_=>none
 |.U=>some (.U,st)
 |_=>none
def nP (wl:Nat)(v:AV)(st:aj):Option (AV×aj):=
 match v with
 |.raw sz rows=>some (.mu st.length 0,st++[.rows 0 sz rows])
 |v=>jq wl v st
def Aj (s:St):jA->Option AV
 |.tmp t mv=>match Fv s.env (.tmp t mv) with|.val v=>some v|_=>none
 |.box t j n agg=>match cA s.env t,s.bx[j]? with|.fp i 0,some row=>if i=j&&row.length=n then bU agg row else none|_,_=>none
 |.cell t n agg=>match cA s.env t with
  |.val p=>match fF s.st p n with|some cs=>bU agg (AV.cy cs)|none=>none
  |_=>none
def u7 (s:St):List jA->Option (List AV)
 |[]=>some []
 |r::l=>match Aj s r,u7 s l with
  |some v,some vs=>some (v::vs)
  |_,_=>none
def u9 (s:St)(l:List jA):Option AV:=
 match u7 s l with
 |some [v]=>some v
 |some vs=>some (.fm vs)
 |none=>none
def gm (O:jf)(wl aa:Nat)(rs:List jA):bG->St->Option (Ex×St)
 |.skip,s=>some (.normal,s)
 |.region ops draw dx,s=>
  match (match draw with|none=>eC O wl aa ops s|some bD=>fq O wl aa ops bD s) with
  |some s'=>some (.normal,{ s' with env:=gH dx s'.env })
  |none=>none
 |.seq a b,s=>match gm O wl aa rs a s with
  |some (.normal,s')=>gm O wl aa rs b s'
  |r=>r
 |.cond c ca a cb b,s=>match oy s.env c with
  |some true=>gm O wl aa rs a { s with env:=gH ca (kD s.env c) }
  |some false=>gm O wl aa rs b { s with env:=gH cb (kD s.env c) }
  |none=>none
 |.block id c,s=>match gm O wl aa rs c s with
  |some (.exit UL,s')=>if UL=id then some (.normal,s') else some (.exit UL,s')
  |r=>r
 |.loop c,s=>O.loop wl aa rs c s
 |.exit id,s=>some (.exit id,s)
 |.ret,s=>match u9 s rs with|some v=>some (.ret v,⟨[],[],s.st⟩)|none=>none
 |.Nl t,s=>match cA s.env t with
  |.val v=>match jq wl v s.st with
   |some (v',bK)=>some (.normal,⟨rZ s.env t (.val v'),s.bx,bK⟩)
   |none=>none
  |_=>none
 |.Ai j k,s=>match s.bx[j]? with
  |some row=>match row[k]? with
   |some v=>match jq wl v s.st with
    |some (v',bK)=>some (.normal,⟨s.env,s.bx.set j (af row k [v']),bK⟩)
    |none=>none
   |none=>none
  |none=>none
 |.uw t off,s=>match cA s.env t with
  |.val (.ptr id bP i k)=>match fF s.st (.ptr id bP i (k+off)) 1 with
   |some [v]=>match nP wl v s.st with
    |some (v',bK)=>match dz wl aa bK (.ptr id bP i (k+off)) [v'] with
     |some lf=>some (.normal,⟨s.env,s.bx,lf⟩)
     |none=>none
    |none=>none
   |_=>none
  |_=>none
def CT:Nat->List AV->Env
 |_,[]=>[]
 |k,v::r=>(k,.val v)::CT (k+1) r
def Mode.va:Mode->Nat->Nat->Nat
 |.pure,n,_=>n
 |_,_,wl=>wl
def Mode.oz:Mode->Nat->Nat->Nat
 |.Cv,_,aa=>aa
 |_,n,_=>n
def Mode.fin (m:Mode)(st:aj)(v:AV)(bK:aj):Option (AV×aj):=
 match m with
 |.pure=>if v.an then some (v,st) else none
 |.lq=>if v.an then some (v,bK.take st.length) else none
 |.Cv=>some (v,bK)
def Cx (rs:List jA):Ex->St->Option AV
 |.exit _,_=>none
 |.ret v,_=>some v
 |.normal,s=>u9 s rs
def oA (sf:aC)(args:List AV)(st:aj):St:=⟨gH sf.dx (CT 0 args),List.replicate sf.aM [],st⟩
def cM (O:jf)(wl aa:Nat)(sf:aC)(args:List AV)(st:aj):Option (AV×aj):=
 if args.length=sf.nparams then
  match gm O (sf.mode.va st.length wl) (sf.mode.oz st.length aa) sf.results sf.body (oA sf args st) with
  |some (x,s)=>match Cx sf.results x s with
   |some v=>sf.mode.fin st v s.st
   |none=>none
  |none=>none
 else none
def alone (sf:aC)(args:List AV):Bool:=decide (sf.mode=.pure)&&AV.ah args
def dD (O:jf)(wl aa:Nat)(sf:aC)(args:List AV)(st:aj):Option (AV×aj):=
 if alone sf args then (cM O 0 0 sf args []).map λr=>(r.1,st) else cM O wl aa sf args st
def ny (S:Nat->Option aC):Nat->jf
 |0=>⟨λ_ _ _ _ _=>none,λ_ _ _ _ _=>none⟩
 |n+1=>
  ⟨λwl aa f args st=>match S f with
   |some sf=>dD (ny S n) wl aa sf args st
   |none=>none,
   λwl aa rs c s=>match gm (ny S n) wl aa rs c s with
   |some (.normal,s')=>(ny S n).loop wl aa rs c s'
   |r=>r⟩
def Nn (RR DX:List (Option aC))(n:Nat):Option aC:=if n<100000 then (RR[n]?).getD none else (DX[n-100000]?).getD none
end Ax
namespace Ax
open Go
structure jf.le (A B:jf):Prop where
 call:∀wl aa f args st r,A.call wl aa f args st=some r->B.call wl aa f args st=some r
 loop:∀wl aa rs c s r,A.loop wl aa rs c s=some r->B.loop wl aa rs c s=some r
theorem jf.le_refl (A:jf):A.le A:=⟨λ_ _ _ _ _ _ h=>h,λ_ _ _ _ _ _ h=>h⟩
theorem jf.le_trans {A B C:jf}(h:A.le B)(k:B.le C):A.le C:=
 ⟨λ_ _ _ _ _ _ x=>k.call _ _ _ _ _ _ (h.call _ _ _ _ _ _ x),λ_ _ _ _ _ _ x=>k.loop _ _ _ _ _ _ (h.loop _ _ _ _ _ _ x)⟩
structure Sup (o:Nat->jf)(L:jf):Prop where
 mono:∀n,(o n).le (o (n+1))
 call:∀wl aa f args st r,L.call wl aa f args st=some r->∃n,(o n).call wl aa f args st=some r
 loop:∀wl aa rs c s r,L.loop wl aa rs c s=some r->∃n,(o n).loop wl aa rs c s=some r
theorem Sup.le {o:Nat->jf}{L:jf}(h:Sup o L)(n k:Nat):(o n).le (o (n+k)):=by
 induction k with
 |zero=>exact jf.le_refl _
 |succ k ih=>exact jf.le_trans ih (h.mono (n+k))
theorem FF (A B:jf)(wl aa:Nat)(op:fA)(vals:List dK)(st:aj)(bx:aS)(h1:∀f,op≠.call f)(h2:op≠.ox) :
  act A wl aa op vals st bx=act B wl aa op vals st bx:=by
 cases op<;>first|rfl|exact absurd rfl (h1 _)|exact absurd rfl h2
theorem vP {A B:jf}(sj:A.le B){wl aa:Nat}{x:Option (Nat×List AV)}{st:aj}{bx:aS}{r:dK×aj×aS}
  (h:eR A wl aa x st bx=some r):eR B wl aa x st bx=some r:=by
 unfold eR at h ⊢
 split at h
 ·rename_i f vs
  cases hc:A.call wl aa f vs st with
  |none=>simp[hc]at h
  |some x=>rw[hc]at h;rw[sj.call _ _ _ _ _ _ hc];exact h
 ·cases h
theorem FG {A B:jf}(sj:A.le B){wl aa:Nat}{op:fA}{vals:List dK}{st:aj}{bx:aS}{r:dK×aj×aS}
  (h:act A wl aa op vals st bx=some r):act B wl aa op vals st bx=some r:=by
 by_cases h1:∃f,op=.call f
 ·obtain⟨f,rfl⟩:=h1
  exact vP sj h
 ·by_cases h2:op=.ox
  ·subst h2
   exact vP sj h
  ·rw[<-FF A B wl aa op vals st bx (λf e=>h1 ⟨f,e⟩) h2];exact h
theorem pD {A B:jf}(sj:A.le B){wl aa:Nat}{o:aU}{s r:St}(h:evalOp A wl aa o s=some r):evalOp B wl aa o s=some r:=by
 unfold evalOp at h ⊢
 split at h
 ·cases h
 ·exact h
 ·split at h
  ·cases h
  ·rename_i e bK eI ha
   rw[FG sj ha]
   exact h
theorem qJ {A B:jf}(sj:A.le B){wl aa:Nat}:∀{l:List aU}{s r:St},eC A wl aa l s=some r->eC B wl aa l s=some r
 |[],_,_,h=>h
 |o::l,s,r,h=>by
  unfold eC at h ⊢
  split at h
  ·rename_i s' hs;rw[pD sj hs];exact qJ sj h
  ·cases h
theorem nQ {A B:jf}(sj:A.le B){wl aa:Nat}:∀{l:List aU}{s:St} {r},dm A wl aa l s=some r->dm B wl aa l s=some r
 |[],_,_,h=>h
 |o::l,s,r,h=>by
  unfold dm at h ⊢
  split at h
  ·rename_i s' hs
   rw[pD sj hs]
   split at h
   ·rename_i e l' hr
    simp only[nQ sj hr];exact h
   ·cases h
  ·cases h
theorem jK {A B:jf}(sj:A.le B){wl aa:Nat}{o:aU}{s t:St}{st:aj}(h:cT A wl aa o s t st=true):cT B wl aa o s t st=true:=by
 unfold cT at h ⊢
 split at h
 ·cases h
 ·rfl
 ·split at h
  ·rename_i e _ _ ha;rw[FG sj ha];exact h
  ·cases h
theorem pE {A B:jf}(sj:A.le B){wl aa:Nat}{ops:List aU}{gp:List St}{x:Nat×Nat}(h:gG A wl aa ops gp x=true):gG B wl aa ops gp x=true:=by
 obtain⟨q,w⟩:=x
 unfold gG at h ⊢
 by_cases h1:q<100000
 ·simp only[h1,if_true]at h ⊢
  split at h
  ·simp only[Bool.and_eq_true]at h ⊢
   exact⟨jK sj h.1,jK sj h.2⟩
  ·cases h
 ·simp only[h1,if_false]at h ⊢
  split at h
  ·cases h
  ·by_cases h2:q<200000
   ·simp only[h2,if_true]
   ·simp only[h2,if_false]at h ⊢
    split at h
    ·exact jK sj h
    ·cases h
theorem Cy {A B:jf}(sj:A.le B){wl aa:Nat}{ops:List aU}{bD:List (Nat×Nat)}{s r:St}(h:fq A wl aa ops bD s=some r):fq B wl aa ops bD s=some r:=by
 unfold fq at h ⊢
 split at h
 ·cases h
 ·rename_i e gp hr
  split at h
  ·rename_i hc
   cases h
   rw[nQ sj hr]
   simp only[Bool.and_eq_true,List.all_eq_true]at hc
   have h1:bD.all (gG B wl aa ops gp)=true:=by
    rw[List.all_eq_true];exact λx hx=>pE sj (hc.1 x hx)
   have h2:ops.all (bp s.env)=true:=by
    rw[List.all_eq_true];exact hc.2
   simp only[h1,h2,Bool.and_self,if_true]
  ·cases h
theorem jL {A B:jf}(sj:A.le B){wl aa:Nat}{rs:List jA}:∀{c:bG}{s:St} {r},gm A wl aa rs c s=some r->gm B wl aa rs c s=some r
 |.skip,_,_,h=>h
 |.region ops draw dx,s,r,h=>by
  unfold gm at h ⊢
  cases draw with
  |none=>
   simp only at h ⊢
   split at h
   ·rename_i s' hs;rw[qJ sj hs];exact h
   ·cases h
  |some bD=>
   simp only at h ⊢
   split at h
   ·rename_i s' hs;rw[Cy sj hs];exact h
   ·cases h
 |.seq a b,s,r,h=>by
  unfold gm at h ⊢
  cases ha:gm A wl aa rs a s with
  |none=>rw[ha]at h;cases h
  |some x=>
   rw[ha]at h
   rw[jL sj ha]
   obtain⟨e,s'⟩:=x
   cases e with
   |normal=>exact jL sj h
   |exit id=>exact h
   |ret v=>exact h
 |.cond c ca a cb b,s,r,h=>by
  unfold gm at h ⊢
  split at h
  ·exact jL sj h
  ·exact jL sj h
  ·cases h
 |.block id c,s,r,h=>by
  unfold gm at h ⊢
  cases ha:gm A wl aa rs c s with
  |none=>rw[ha]at h;cases h
  |some x=>rw[ha]at h;rw[jL sj ha];exact h
 |.loop c,s,r,h=>sj.loop _ _ _ _ _ _ h
 |.exit id,s,r,h=>h
 |.ret,s,r,h=>h
 |.Nl t,s,r,h=>h
 |.Ai j k,s,r,h=>h
 |.uw t off,s,r,h=>h
theorem sq {A B:jf}(sj:A.le B){wl aa:Nat}{sf:aC}{args:List AV}{st:aj} {r}(h:cM A wl aa sf args st=some r):cM B wl aa sf args st=some r:=by
 unfold cM at h ⊢
 split at h
 ·rename_i hl
  rw[if_pos hl]
  cases hs:gm A (sf.mode.va st.length wl) (sf.mode.oz st.length aa) sf.results sf.body (oA sf args st) with
  |none=>rw[hs]at h;cases h
  |some x=>rw[hs]at h;rw[jL sj hs];exact h
 ·cases h
theorem uG {A B:jf}(sj:A.le B){wl aa:Nat}{sf:aC}{args:List AV}{st:aj} {r}(h:dD A wl aa sf args st=some r):dD B wl aa sf args st=some r:=by
 unfold dD at h ⊢
 split at h
 ·rename_i Ik
  rw[if_pos Ik]
  cases hc:cM A 0 0 sf args [] with
  |none=>rw[hc]at h;cases h
  |some x=>rw[hc]at h;rw[sq sj hc];exact h
 ·rename_i Ik
  rw[if_neg Ik]
  exact sq sj h
theorem Ak (S:Nat->Option aC):∀n,(ny S n).le (ny S (n+1))
 |0=>⟨λ_ _ _ _ _ _ h=>(nomatch h),λ_ _ _ _ _ _ h=>(nomatch h)⟩
 |n+1=>by
  have ih:=Ak S n
  constructor
  ·intro wl aa f args st r h
   show (match S f with|some sf=>dD (ny S (n+1)) wl aa sf args st|none=>none)=some r
   change (match S f with|some sf=>dD (ny S n) wl aa sf args st|none=>none)=some r at h
   cases hf:S f with
   |none=>rw[hf]at h;cases h
   |some sf=>rw[hf]at h;exact uG ih h
  ·intro wl aa rs c s r h
   show (match gm (ny S (n+1)) wl aa rs c s with|some (.normal,s')=>(ny S (n+1)).loop wl aa rs c s'|r=>r)=some r
   change (match gm (ny S n) wl aa rs c s with|some (.normal,s')=>(ny S n).loop wl aa rs c s'|r=>r)=some r at h
   cases hs:gm (ny S n) wl aa rs c s with
   |none=>rw[hs]at h;cases h
   |some x=>
    rw[hs]at h
    rw[jL ih hs]
    obtain⟨e,s'⟩:=x
    cases e with
    |normal=>exact ih.loop _ _ _ _ _ _ h
    |exit id=>exact h
    |ret v=>exact h
open Classical in
noncomputable def aW (S:Nat->Option aC):jf:=
 ⟨λwl aa f args st=>if h:∃n r,(ny S n).call wl aa f args st=some r then some h.choose_spec.choose else none,
  λwl aa rs c s=>if h:∃n r,(ny S n).loop wl aa rs c s=some r then some h.choose_spec.choose else none⟩
theorem xF (S:Nat->Option aC)(n k:Nat):(ny S n).le (ny S (n+k)):=by
 induction k with
 |zero=>exact jf.le_refl _
 |succ k ih=>exact jf.le_trans ih (Ak S (n+k))
theorem qk (S:Nat->Option aC):Sup (ny S) (aW S) where
 mono:=Ak S
 call:=λwl aa f args st r h=>by
  unfold aW at h
  simp only at h
  split at h
  ·rename_i hx
   cases h
   exact⟨_,hx.choose_spec.choose_spec⟩
  ·cases h
 loop:=λwl aa rs c s r h=>by
  unfold aW at h
  simp only at h
  split at h
  ·rename_i hx
   cases h
   exact⟨_,hx.choose_spec.choose_spec⟩
  ·cases h
theorem nR (S:Nat->Option aC)(n:Nat):(ny S n).le (aW S) where
 call:=λwl aa f args st r h=>by
  have hx:∃n r,(ny S n).call wl aa f args st=some r:=⟨n,r,h⟩
  have:(aW S).call wl aa f args st=some hx.choose_spec.choose:=by unfold aW;simp only;rw[dif_pos hx]
  have h2:=hx.choose_spec.choose_spec
  have a:=(xF S n hx.choose).call _ _ _ _ _ _ h
  have b:=(xF S hx.choose n).call _ _ _ _ _ _ h2
  rw[Nat.add_comm]at b
  exact this.trans (b.symm.trans a)
 loop:=λwl aa rs c s r h=>by
  have hx:∃n r,(ny S n).loop wl aa rs c s=some r:=⟨n,r,h⟩
  have:(aW S).loop wl aa rs c s=some hx.choose_spec.choose:=by unfold aW;simp only;rw[dif_pos hx]
  have h2:=hx.choose_spec.choose_spec
  have a:=(xF S n hx.choose).loop _ _ _ _ _ _ h
  have b:=(xF S hx.choose n).loop _ _ _ _ _ _ h2
  rw[Nat.add_comm]at b
  exact this.trans (b.symm.trans a)
section
variable {o:Nat->jf}{L:jf}(hs:Sup o L){wl aa:Nat}
include hs
theorem yD {x:Option (Nat×List AV)}{st:aj}{bx:aS}{r:dK×aj×aS}
  (h:eR L wl aa x st bx=some r):∃n,eR (o n) wl aa x st bx=some r:=by
 unfold eR at h
 split at h
 ·rename_i f vs
  cases hc:L.call wl aa f vs st with
  |none=>simp[hc]at h
  |some x=>
   obtain⟨n,hn⟩:=hs.call _ _ _ _ _ _ hc
   refine⟨n,?_⟩
   rw[hc]at h
   unfold eR
   simp only
   rw[hn];exact h
 ·cases h
theorem JX {op:fA}{vals:List dK}{st:aj}{bx:aS}{r:dK×aj×aS}
  (h:act L wl aa op vals st bx=some r):∃n,act (o n) wl aa op vals st bx=some r:=by
 by_cases h1:∃f,op=.call f
 ·obtain⟨f,rfl⟩:=h1
  exact yD hs h
 ·by_cases h2:op=.ox
  ·subst h2
   exact yD hs h
  ·exact⟨0,by rw[<-FF L (o 0) wl aa op vals st bx (λf e=>h1 ⟨f,e⟩) h2];exact h⟩
theorem Al {p:aU}{s r:St}(h:evalOp L wl aa p s=some r):∃n,evalOp (o n) wl aa p s=some r:=by
 unfold evalOp at h
 split at h
 ·cases h
 ·rename_i hw;exact⟨0,by unfold evalOp;rw[hw];exact h⟩
 ·rename_i hw
  split at h
  ·cases h
  ·rename_i e bK eI ha
   obtain⟨n,hn⟩:=JX hs ha
   exact⟨n,by unfold evalOp;rw[hw];simp only;rw[hn];exact h⟩
theorem yE:∀{l:List aU}{s r:St},eC L wl aa l s=some r->∃n,eC (o n) wl aa l s=some r
 |[],_,_,h=>⟨0,h⟩
 |p::l,s,r,h=>by
  unfold eC at h
  split at h
  ·rename_i s' hp
   obtain⟨n,hn⟩:=Al hs hp
   obtain⟨m,hm⟩:=yE h
   refine⟨n+m,?_⟩
   unfold eC
   rw[pD (hs.le n m) hn]
   simp only
   exact qJ (by rw[Nat.add_comm];exact hs.le m n) hm
  ·cases h
theorem yF:∀{l:List aU}{s:St} {r},dm L wl aa l s=some r->∃n,dm (o n) wl aa l s=some r
 |[],_,_,h=>⟨0,h⟩
 |p::l,s,r,h=>by
  unfold dm at h
  split at h
  ·rename_i s' hp
   split at h
   ·rename_i e l' hr
    obtain⟨n,hn⟩:=Al hs hp
    obtain⟨m,hm⟩:=yF hr
    refine⟨n+m,?_⟩
    unfold dm
    rw[pD (hs.le n m) hn]
    simp only
    rw[nQ (by rw[Nat.add_comm];exact hs.le m n) hm]
    exact h
   ·cases h
  ·cases h
theorem p0 {p:aU}{s t:St}{st:aj}(h:cT L wl aa p s t st=true):∃n,cT (o n) wl aa p s t st=true:=by
 unfold cT at h
 split at h
 ·cases h
 ·rename_i hw;exact⟨0,by unfold cT;rw[hw]⟩
 ·rename_i hw
  split at h
  ·rename_i e a b ha
   obtain⟨n,hn⟩:=JX hs ha
   exact⟨n,by unfold cT;rw[hw];simp only;rw[hn];exact h⟩
  ·cases h
theorem Iw {ops:List aU}{gp:List St}{x:Nat×Nat}(h:gG L wl aa ops gp x=true):∃n,gG (o n) wl aa ops gp x=true:=by
 obtain⟨q,w⟩:=x
 unfold gG at h ⊢
 by_cases h1:q<100000
 ·simp only[h1,if_true]at h ⊢
  split at h
  ·simp only[Bool.and_eq_true]at h ⊢
   obtain⟨n,hn⟩:=p0 hs h.1
   obtain⟨m,hm⟩:=p0 hs h.2
   exact⟨n+m,jK (hs.le n m) hn,jK (by rw[Nat.add_comm];exact hs.le m n) hm⟩
  ·cases h
 ·simp only[h1,if_false]at h ⊢
  split at h
  ·cases h
  ·by_cases h2:q<200000
   ·simp only[h2,if_true,exists_const]
   ·simp only[h2,if_false]at h ⊢
    split at h
    ·exact p0 hs h
    ·cases h
theorem CU {ops:List aU}{gp:List St}:∀{l:List (Nat×Nat)},l.all (gG L wl aa ops gp)=true->∃n,l.all (gG (o n) wl aa ops gp)=true
 |[],_=>⟨0,rfl⟩
 |x::l,h=>by
  simp only[List.all_cons,Bool.and_eq_true]at h
  obtain⟨n,hn⟩:=Iw hs h.1
  obtain⟨m,hm⟩:=CU h.2
  refine⟨n+m,?_⟩
  simp only[List.all_cons,Bool.and_eq_true]
  refine⟨pE (hs.le n m) hn,?_⟩
  rw[List.all_eq_true]at hm ⊢
  exact λx hx=>pE (by rw[Nat.add_comm];exact hs.le m n) (hm x hx)
theorem DY {ops:List aU}{bD:List (Nat×Nat)}{s r:St}(h:fq L wl aa ops bD s=some r):∃n,fq (o n) wl aa ops bD s=some r:=by
 unfold fq at h
 split at h
 ·cases h
 ·rename_i e gp hr
  split at h
  ·rename_i hc
   cases h
   simp only[Bool.and_eq_true]at hc
   obtain⟨n,hn⟩:=yF hs hr
   obtain⟨m,hm⟩:=CU hs hc.1
   refine⟨n+m,?_⟩
   unfold fq
   rw[nQ (hs.le n m) hn]
   have:bD.all (gG (o (n+m)) wl aa ops gp)=true:=by
    rw[List.all_eq_true]at hm ⊢
    exact λx hx=>pE (by rw[Nat.add_comm];exact hs.le m n) (hm x hx)
   simp only[this,hc.2,Bool.and_self,if_true]
  ·cases h
theorem qK {rs:List jA}:∀{c:bG}{s:St} {r},gm L wl aa rs c s=some r->∃n,gm (o n) wl aa rs c s=some r
 |.skip,_,_,h=>⟨0,h⟩
 |.region ops draw dx,s,r,h=>by
  unfold gm at h
  cases draw with
  |none=>
   simp only at h
   split at h
   ·rename_i s' hp
    obtain⟨n,hn⟩:=yE hs hp
    exact⟨n,by unfold gm;simp only;rw[hn];exact h⟩
   ·cases h
  |some bD=>
   simp only at h
   split at h
   ·rename_i s' hp
    obtain⟨n,hn⟩:=DY hs hp
    exact⟨n,by unfold gm;simp only;rw[hn];exact h⟩
   ·cases h
 |.seq a b,s,r,h=>by
  unfold gm at h
  cases ha:gm L wl aa rs a s with
  |none=>rw[ha]at h;cases h
  |some x=>
   rw[ha]at h
   obtain⟨n,hn⟩:=qK ha
   obtain⟨e,s'⟩:=x
   cases e with
   |normal=>
    obtain⟨m,hm⟩:=qK h
    refine⟨n+m,?_⟩
    unfold gm
    rw[jL (hs.le n m) hn]
    exact jL (by rw[Nat.add_comm];exact hs.le m n) hm
   |exit id=>exact⟨n,by unfold gm;rw[hn];exact h⟩
   |ret v=>exact⟨n,by unfold gm;rw[hn];exact h⟩
 |.cond c ca a cb b,s,r,h=>by
  unfold gm at h
  split at h
  ·rename_i hb;obtain⟨n,hn⟩:=qK h;exact⟨n,by unfold gm;rw[hb];exact hn⟩
  ·rename_i hb;obtain⟨n,hn⟩:=qK h;exact⟨n,by unfold gm;rw[hb];exact hn⟩
  ·cases h
 |.block id c,s,r,h=>by
  unfold gm at h
  cases ha:gm L wl aa rs c s with
  |none=>rw[ha]at h;cases h
  |some x=>
   rw[ha]at h
   obtain⟨n,hn⟩:=qK ha
   exact⟨n,by unfold gm;rw[hn];exact h⟩
 |.loop c,s,r,h=>hs.loop _ _ _ _ _ _ h
 |.exit id,s,r,h=>⟨0,h⟩
 |.ret,s,r,h=>⟨0,h⟩
 |.Nl t,s,r,h=>⟨0,h⟩
 |.Ai j k,s,r,h=>⟨0,h⟩
 |.uw t off,s,r,h=>⟨0,h⟩
theorem uH {sf:aC}{args:List AV}{st:aj} {r}(h:cM L wl aa sf args st=some r):∃n,cM (o n) wl aa sf args st=some r:=by
 unfold cM at h
 split at h
 ·rename_i hl
  cases hx:gm L (sf.mode.va st.length wl) (sf.mode.oz st.length aa) sf.results sf.body (oA sf args st) with
  |none=>rw[hx]at h;cases h
  |some x=>
   rw[hx]at h
   obtain⟨n,hn⟩:=qK hs hx
   exact⟨n,by unfold cM;rw[if_pos hl,hn];exact h⟩
 ·cases h
theorem DZ {sf:aC}{args:List AV}{st:aj} {r}(h:dD L wl aa sf args st=some r):∃n,dD (o n) wl aa sf args st=some r:=by
 unfold dD at h
 split at h
 ·rename_i Ik
  cases hc:cM L 0 0 sf args [] with
  |none=>rw[hc]at h;cases h
  |some x=>
   rw[hc]at h
   obtain⟨n,hn⟩:=uH hs hc
   exact⟨n,by unfold dD;rw[if_pos Ik,hn];exact h⟩
 ·rename_i Ik
  obtain⟨n,hn⟩:=uH hs h
  exact⟨n,by unfold dD;rw[if_neg Ik];exact hn⟩
end
theorem JY {α:Type}{a b:Option α}(h:∀r,a=some r↔b=some r):a=b:=by
 cases a with
 |none=>cases b with
  |none=>rfl
  |some y=>exact absurd ((h y).2 rfl) (by simp)
 |some x=>exact((h x).1 rfl).symm
theorem xG (S:Nat->Option aC)(wl aa f:Nat)(args:List AV)(st:aj) :
  (aW S).call wl aa f args st=match S f with
   |some sf=>dD (aW S) wl aa sf args st
   |none=>none:=by
 refine JY λr=>⟨λh=>?_,λh=>?_⟩
 ·obtain⟨n,hn⟩:=(qk S).call _ _ _ _ _ _ h
  cases n with
  |zero=>cases hn
  |succ n=>
   change (match S f with|some sf=>dD (ny S n) wl aa sf args st|none=>none)=some r at hn
   cases hf:S f with
   |none=>rw[hf]at hn;cases hn
   |some sf=>rw[hf]at hn;exact uG (nR S n) hn
 ·cases hf:S f with
  |none=>rw[hf]at h;cases h
  |some sf=>
   rw[hf]at h
   obtain⟨n,hn⟩:=DZ (qk S) h
   refine(nR S (n+1)).call _ _ _ _ _ _ ?_
   show (match S f with|some sf=>dD (ny S n) wl aa sf args st|none=>none)=some r
   rw[hf];exact hn
theorem Lq (S:Nat->Option aC)(wl aa:Nat)(rs:List jA)(c:bG)(s:St) :
  (aW S).loop wl aa rs c s=match gm (aW S) wl aa rs c s with
   |some (.normal,s')=>(aW S).loop wl aa rs c s'
   |r=>r:=by
 refine JY λr=>⟨λh=>?_,λh=>?_⟩
 ·obtain⟨n,hn⟩:=(qk S).loop _ _ _ _ _ _ h
  cases n with
  |zero=>cases hn
  |succ n=>
   change (match gm (ny S n) wl aa rs c s with|some (.normal,s')=>(ny S n).loop wl aa rs c s'|r=>r)=some r at hn
   cases hx:gm (ny S n) wl aa rs c s with
   |none=>rw[hx]at hn;cases hn
   |some x=>
    rw[hx]at hn
    rw[jL (nR S n) hx]
    obtain⟨e,s'⟩:=x
    cases e with
    |normal=>exact(nR S n).loop _ _ _ _ _ _ hn
    |exit id=>exact hn
    |ret v=>exact hn
 ·cases hx:gm (aW S) wl aa rs c s with
  |none=>rw[hx]at h;cases h
  |some x=>
   rw[hx]at h
   obtain⟨n,hn⟩:=qK (qk S) hx
   obtain⟨e,s'⟩:=x
   have key:∀m,(ny S m).le (aW S):=nR S
   cases e with
   |normal=>
    obtain⟨m,hm⟩:=(qk S).loop _ _ _ _ _ _ h
    refine(nR S (n+m+1)).loop _ _ _ _ _ _ ?_
    show (match gm (ny S (n+m)) wl aa rs c s with|some (.normal,s')=>(ny S (n+m)).loop wl aa rs c s'|r=>r)=some r
    rw[jL (xF S n m) hn]
    exact(by rw[Nat.add_comm];exact xF S m n:(ny S m).le (ny S (n+m))).loop _ _ _ _ _ _ hm
   |exit id=>
    refine(nR S (n+1)).loop _ _ _ _ _ _ ?_
    show (match gm (ny S n) wl aa rs c s with|some (.normal,s')=>(ny S n).loop wl aa rs c s'|r=>r)=some r
    rw[hn];exact h
   |ret v=>
    refine(nR S (n+1)).loop _ _ _ _ _ _ ?_
    show (match gm (ny S n) wl aa rs c s with|some (.normal,s')=>(ny S n).loop wl aa rs c s'|r=>r)=some r
    rw[hn];exact h
end Ax
namespace Ax
theorem Am {O:jf}{wl aa:Nat}{rs:List jA}{t off:Nat}{s s':St}{x:Ex}(h:gm O wl aa rs (.uw t off) s=some (x,s')) :
  x=.normal/\∃id bP i k v v' kV lf,cA s.env t=.val (.ptr id bP i k)/\fF s.st (.ptr id bP i (k+off)) 1=some [v]/\nP wl v s.st=some (v',kV)/\dz wl aa kV (.ptr id bP i (k+off)) [v']=some lf/\s'=⟨s.env,s.bx,lf⟩:=by
 unfold gm at h
 split at h
 ·rename_i id bP i k h1
  split at h
  ·rename_i v h2
   split at h
   ·rename_i v' kV h3
    split at h
    ·rename_i lf h4
     cases h
     exact⟨rfl,id,bP,i,k,v,v',kV,lf,h1,h2,h3,h4,rfl⟩
    ·cases h
   ·cases h
  ·cases h
 ·cases h
end Ax
namespace Ax
open Go
mutual
def AV.bR:AV->Bool
 |.own _ _|.raw _ _=>false
 |.agg cs|.fm cs=>AV.dj cs
 |_=>true
def AV.dj:List AV->Bool
 |[]=>true
 |v::r=>v.bR&&AV.dj r
end
structure Loc where
 a:Option Addr
 cap:Nat
 len:Nat
 sz:Nat
 bP:Nat
 mp:Bool
 vals:List (List Value)
def Loc.hd (l:Loc):Option Addr×Nat×Nat×Nat×Bool:=(l.a,l.cap,l.len,l.sz,l.mp)
structure aK where
 ls:List Loc
 kg:Nat->Option Nat
def Imm (w:World)(G:aK)(b o:Nat):Prop:=b<w.heap.size/\∀p,G.kg b=some p->o<p
inductive aL (w:World) (G:aK):AV->Value->Prop
 |undef:aL w G .undef Go.undef
 |gone (v:Value) (h:v.oneCell'=true):aL w G .gone v
 |bool (b:Bool):aL w G (.bool b) (.bool b)
 |int (k:IntKind) (n:Int):aL w G (.int k n) (.int k n)
 |str (l:List UInt8) (s:ByteArray) (h:s.data.toList=l):aL w G (.str l) (.string s)
 |dY:aL w G .dY (.pointer none)
 |U:aL w G .U (.slice none 0 0)
 |eX:aL w G .eX (.map none)
 |gD:aL w G .gD .nilFunc
 |jj:aL w G .jj .nilIface
 |agg (cs:List AV) (vs:Array Value) (hl:cs.length=vs.size) (h:∀(i:Nat) c v,cs[i]?=some c->vs[i]?=some v->aL w G c v):aL w G (.agg cs) (.agg vs)
 |fm (cs:List AV) (vs:Array Value) (hl:cs.length=vs.size) (h:∀(i:Nat) c v,cs[i]?=some c->vs[i]?=some v->aL w G c v):aL w G (.fm cs) (.tuple vs)
 |cN (sz:Nat) (rows:List (List AV)) (a:Addr) (cap:Nat) (nS:a.spot=none) (eJ:rows.length<=cap) (bY:fits sz rows=true)
   (hY:∀r∈rows,AV.dj r=true) (mU:∀r∈rows,AV.ah r=true) (tH:∀r∈rows,AV.aH r=true)
   (hc:∀(i:Nat) r (j:Nat) c,rows[i]?=some r->r[j]?=some c->Imm w G a.block (a.off+(i*sz+j))/\∃v,w.cell? ⟨a.block,a.off+(i*sz+j),none⟩=some v)
   (hr:∀(i:Nat) r (j:Nat) c v,rows[i]?=some r->r[j]?=some c->w.cell? ⟨a.block,a.off+(i*sz+j),none⟩=some v->aL w G c v) :
   aL w G (.cN sz rows) (.slice (some a) rows.length cap)
 |own (sz:Nat) (rows:List (List AV)) (a:Addr) (cap:Nat) (nS:a.spot=none) (eJ:rows.length<=cap) (bY:fits sz rows=true)
   (hY:∀r∈rows,AV.dj r=true) (mU:∀r∈rows,AV.ah r=true) (tH:∀r∈rows,AV.aH r=true)
   (hc:∀(i:Nat) r (j:Nat) c,rows[i]?=some r->r[j]?=some c->∃v,w.cell? ⟨a.block,a.off+(i*sz+j),none⟩=some v)
   (hr:∀(i:Nat) r (j:Nat) c v,rows[i]?=some r->r[j]?=some c->w.cell? ⟨a.block,a.off+(i*sz+j),none⟩=some v->aL w G c v)
   (gq:G.kg a.block=some (a.off+rows.length*sz))
   (eF:∃c e,w.heap[a.block]?=some (.cells c e (0,0))/\a.off+cap*sz<=c.size) :
   aL w G (.own sz rows) (.slice (some a) rows.length cap)
 |raw (sz:Nat) (rows:List (List AV)) (a:Addr) (cap:Nat) (nS:a.spot=none) (eJ:rows.length<=cap) (bY:fits sz rows=true)
   (hY:∀r∈rows,AV.dj r=true) (mU:∀r∈rows,AV.ah r=true) (tH:∀r∈rows,AV.aH r=true)
   (hc:∀(i:Nat) r (j:Nat) c,rows[i]?=some r->r[j]?=some c->∃v,w.cell? ⟨a.block,a.off+(i*sz+j),none⟩=some v)
   (hr:∀(i:Nat) r (j:Nat) c v,rows[i]?=some r->r[j]?=some c->w.cell? ⟨a.block,a.off+(i*sz+j),none⟩=some v->aL w G c v)
   (gq:G.kg a.block=some 0)
   (eF:∃c e,w.heap[a.block]?=some (.cells c e (0,0))/\a.off+cap*sz<=c.size) :
   aL w G (.raw sz rows) (.slice (some a) rows.length cap)
 |emp (a:Addr):aL w G .emp (.slice (some a) 0 0)
 |mu (id bP:Nat) (v:Value) (loc:Loc) (hp:∃p n c,v=.slice p n c) (hl:G.ls[id]?=some loc) (hv:bP<=loc.bP) (he:bP=loc.bP->v=.slice loc.a loc.len loc.cap):aL w G (.mu id bP) v
 |ptr (id bP i k:Nat) (v:Value) (loc:Loc) (hp:∃a,v=.pointer (some a)) (hl:G.ls[id]?=some loc) (hv:bP<=loc.bP)
   (he:bP=loc.bP->∃a,loc.a=some a/\v=.pointer (some ⟨a.block,a.off+(i*loc.sz+k),none⟩)):aL w G (.ptr id bP i k) v
 |nJ (sz:Nat) (rows:List (List AV)) (i k:Nat) (a:Addr) (cap:Nat) (hs:aL w G (.cN sz rows) (.slice (some a) rows.length cap)) :
   aL w G (.nJ sz rows i k) (.pointer (some ⟨a.block,a.off+(i*sz+k),none⟩))
 |map (id:Nat) (loc:Loc) (b:Nat) (hl:G.ls[id]?=some loc) (hm:loc.mp=true) (hb:loc.a=some ⟨b,0,none⟩):aL w G (.map id) (.map (some b))
 |fn (f:Nat) (first jI:List AV) (vf vc:Array Value) (hl:first.length=vf.size) (hm:jI.length=vc.size)
   (hn:AV.dj first=true/\AV.dj jI=true/\f<100000)
   (h:∀(i:Nat) c v,first[i]?=some c->vf[i]?=some v->aL w G c v) (k:∀(i:Nat) c v,jI[i]?=some c->vc[i]?=some v->aL w G c v) :
   aL w G (.fn f first jI) (.func (.func f) vf vc)
mutual
def eH (b:Nat):AV->Value->Nat
 |.own _ _,.slice (some a) _ _=>if a.block=b then 1 else 0
 |.raw _ _,.slice (some a) _ _=>if a.block=b then 1 else 0
 |.agg cs,.agg vs=>bM b cs vs.toList
 |.fm cs,.tuple vs=>bM b cs vs.toList
 |_,_=>0
def bM (b:Nat):List AV->List Value->Nat
 |c::cs,v::vs=>eH b c v+bM b cs vs
 |_,_=>0
end
theorem sw (b:Nat):∀(cs:List AV)(vs:List Value)(i:Nat)(c:AV)(v:Value),cs[i]?=some c->vs[i]?=some v->eH b c v<=bM b cs vs
 |[],_,_,_,_,h,_=>by simp at h
 |_::_,[],_,_,_,_,h=>by simp at h
 |c::cs,v::vs,0,c',v',h,k=>by
  simp at h k;subst h;subst k;simp only[bM];omega
 |c::cs,v::vs,i+1,c',v',h,k=>by
  simp at h k
  have:=sw b cs vs i c' v' h k
  simp only[bM];omega
mutual
theorem dN (b:Nat):∀(a:AV)(v:Value),a.bR=true->eH b a v=0
 |.own _ _,_,h=>by simp[AV.bR]at h
 |.raw _ _,_,h=>by simp[AV.bR]at h
 |.agg cs,.agg vs,h=>by simp only[eH];exact cU b cs vs.toList (by simpa [AV.bR] using h)
 |.fm cs,.tuple vs,h=>by simp only[eH];exact cU b cs vs.toList (by simpa [AV.bR] using h)
 |.undef,_,_|.gone,_,_|.bool _,_,_|.int _ _,_,_|.str _,_,_|.dY,_,_|.U,_,_|.eX,_,_|.gD,_,_|.jj,_,_
 |.cN _ _,_,_|.emp,_,_|.mu _ _,_,_|.ptr _ _ _ _,_,_|.nJ _ _ _ _,_,_|.map _,_,_|.fn _ _ _,_,_=>by simp[eH]
 |.agg cs,.bool _,_|.agg cs,.int _ _,_|.agg cs,.float _ _,_|.agg cs,.complex _ _ _,_|.agg cs,.string _,_|.agg cs,.pointer _,_|.agg cs,.slice _ _ _,_
 |.agg cs,.map _,_|.agg cs,.chan _,_|.agg cs,.func _ _ _,_|.agg cs,.nilFunc,_|.agg cs,.iface _ _,_|.agg cs,.nilIface,_|.agg cs,.tuple _,_=>by simp[eH]
 |.fm cs,.bool _,_|.fm cs,.int _ _,_|.fm cs,.float _ _,_|.fm cs,.complex _ _ _,_|.fm cs,.string _,_|.fm cs,.pointer _,_|.fm cs,.slice _ _ _,_
 |.fm cs,.map _,_|.fm cs,.chan _,_|.fm cs,.func _ _ _,_|.fm cs,.nilFunc,_|.fm cs,.iface _ _,_|.fm cs,.nilIface,_|.fm cs,.agg _,_=>by simp[eH]
theorem cU (b:Nat):∀(cs:List AV)(vs:List Value),AV.dj cs=true->bM b cs vs=0
 |[],_,_=>by simp[bM]
 |_::_,[],_=>by simp[bM]
 |c::cs,v::vs,h=>by
  simp[AV.dj]at h
  simp only[bM,dN b c v h.1,cU b cs vs h.2]
end
mutual
theorem qL:∀a:AV,a.view.bR=true
 |.own _ _=>by simp[AV.view,AV.bR]
 |.raw _ _=>by simp[AV.view,AV.bR]
 |.agg cs=>by simp only[AV.view,AV.bR];exact fB cs
 |.fm cs=>by simp only[AV.view,AV.bR];exact fB cs
 |.undef|.gone|.bool _|.int _ _|.str _|.dY|.U|.eX|.gD|.jj|.cN _ _|.emp|.mu _ _|.ptr _ _ _ _|.nJ _ _ _ _|.map _|.fn _ _ _=>by simp[AV.view,AV.bR]
theorem fB:∀cs:List AV,AV.dj (AV.cy cs)=true
 |[]=>rfl
 |c::cs=>by simp only[AV.cy,AV.dj,qL c,fB cs,Bool.and_self]
end
theorem tJ:∀(cs:List AV)(i:Nat),(AV.cy cs)[i]?=(cs[i]?).map AV.view
 |[],i=>by simp[AV.cy]
 |c::cs,0=>by simp[AV.cy]
 |c::cs,i+1=>by simp[AV.cy,tJ cs i]
theorem lz:∀(cs:List AV),(AV.cy cs).length=cs.length
 |[]=>rfl
 |c::cs=>by simp[AV.cy,lz cs]
theorem cn:∀(cs:List AV),AV.dj cs=true↔∀c∈cs,c.bR=true
 |[]=>by simp[AV.dj]
 |c::cs=>by simp[AV.dj,cn cs]
theorem fC:∀(cs:List AV),AV.ah cs=true↔∀c∈cs,c.an=true
 |[]=>by simp[AV.ah]
 |c::cs=>by simp[AV.ah,fC cs]
theorem cD {α:Type}{l:List α}{i:Nat}{x:α}(h:l[i]?=some x):x∈l:=List.mem_of_getElem? h
structure pF (w:World)(G:aK)(w':World)(G':aK):Prop where
 No:∀b o,Imm w G b o->w'.cell? ⟨b,o,none⟩=w.cell? ⟨b,o,none⟩/\Imm w' G' b o
 ids:∀(id:Nat) loc,G.ls[id]?=some loc->∃loc',G'.ls[id]?=some loc'/\loc.bP<=loc'.bP/\(loc.bP=loc'.bP\/loc.mp=true->loc'.hd=loc.hd)
theorem pF.refl (w:World)(G:aK):pF w G w G:=⟨λ_ _ h=>⟨rfl,h⟩,λ_ loc h=>⟨loc,h,Nat.le_refl _,λ_=>rfl⟩⟩
theorem pF.trans {w G w' G' w'' G''}(h:pF w G w' G')(k:pF w' G' w'' G''):pF w G w'' G'' where
 No:=λb o hi=>by
  obtain⟨a1,a2⟩:=h.No b o hi
  obtain⟨b1,b2⟩:=k.No b o a2
  exact⟨b1.trans a1,b2⟩
 ids:=λid loc hl=>by
  obtain⟨l1,a1,a2,a3⟩:=h.ids id loc hl
  obtain⟨l2,b1,b2,b3⟩:=k.ids id l1 a1
  refine⟨l2,b1,by omega,λe=>?_⟩
  rcases e with e|e
  ·have e1:loc.bP=l1.bP:=by omega
   have e2:l1.bP=l2.bP:=by omega
   rw[b3 (.inl e2),a3 (.inl e1)]
  ·have h1:=a3 (.inr e)
   have h2:l1.mp=loc.mp:=congrArg (·.2.2.2.2) h1
   exact(b3 (.inr (h2.trans e))).trans h1
theorem aL.iu {w:World}{G:aK}{w':World}{G':aK}{a:AV}{v:Value}(h:aL w G a v)(hs:pF w G w' G') :
  (∀b,0<eH b a v->G'.kg b=G.kg b/\w'.heap[b]?=w.heap[b]?)->aL w' G' a v:=by
 induction h with
 |undef=>exact λ_=>.undef
 |gone v h=>exact λ_=>.gone v h
 |bool b=>exact λ_=>.bool b
 |int k n=>exact λ_=>.int k n
 |str l s h=>exact λ_=>.str l s h
 |dY=>exact λ_=>.dY
 |U=>exact λ_=>.U
 |eX=>exact λ_=>.eX
 |gD=>exact λ_=>.gD
 |jj=>exact λ_=>.jj
 |agg cs vs hl h ih=>
  intro ho
  refine .agg cs vs hl λi c v hc hv=>ih i c v hc hv λb hb=>ho b ?_
  have:=sw b cs vs.toList i c v hc (by simpa using hv)
  simp only[eH];omega
 |fm cs vs hl h ih=>
  intro ho
  refine .fm cs vs hl λi c v hc hv=>ih i c v hc hv λb hb=>ho b ?_
  have:=sw b cs vs.toList i c v hc (by simpa using hv)
  simp only[eH];omega
 |cN sz rows a cap nS eJ bY hY mU tH hc hr ih=>
  intro _
  refine .cN sz rows a cap nS eJ bY hY mU tH (λi r j c h1 h2=>?_) (λi r j c v h1 h2 h3=>?_)
  ·obtain⟨hi,v,hv⟩:=hc i r j c h1 h2
   obtain⟨e,n8⟩:=hs.No _ _ hi
   exact⟨n8,v,e.trans hv⟩
  ·obtain⟨hi,v',Cr⟩:=hc i r j c h1 h2
   obtain⟨e,n8⟩:=hs.No _ _ hi
   rw[e]at h3
   refine ih i r j c v h1 h2 h3 λb hb=>?_
   rw[dN b c v ((cn r).1 (hY r (cD h1)) c (cD h2))]at hb
   omega
 |own sz rows a cap nS eJ bY hY mU tH hc hr gq eF ih=>
  intro ho
  obtain⟨ht,hh⟩:=ho a.block (by simp[eH])
  have l8:∀o,w'.cell? ⟨a.block,o,none⟩=w.cell? ⟨a.block,o,none⟩:=λo=>by simp[World.cell?,hh]
  refine .own sz rows a cap nS eJ bY hY mU tH (λi r j c h1 h2=>?_) (λi r j c v h1 h2 h3=>?_) (ht.trans gq) ?_
  ·obtain⟨v,hv⟩:=hc i r j c h1 h2
   exact⟨v,(l8 _).trans hv⟩
  ·rw[l8]at h3
   refine ih i r j c v h1 h2 h3 λb hb=>?_
   rw[dN b c v ((cn r).1 (hY r (cD h1)) c (cD h2))]at hb
   omega
  ·obtain⟨c,e,h1,h2⟩:=eF
   exact⟨c,e,hh.trans h1,h2⟩
 |raw sz rows a cap nS eJ bY hY mU tH hc hr gq eF ih=>
  intro ho
  obtain⟨ht,hh⟩:=ho a.block (by simp[eH])
  have l8:∀o,w'.cell? ⟨a.block,o,none⟩=w.cell? ⟨a.block,o,none⟩:=λo=>by simp[World.cell?,hh]
  refine .raw sz rows a cap nS eJ bY hY mU tH (λi r j c h1 h2=>?_) (λi r j c v h1 h2 h3=>?_) (ht.trans gq) ?_
  ·obtain⟨v,hv⟩:=hc i r j c h1 h2
   exact⟨v,(l8 _).trans hv⟩
  ·rw[l8]at h3
   refine ih i r j c v h1 h2 h3 λb hb=>?_
   rw[dN b c v ((cn r).1 (hY r (cD h1)) c (cD h2))]at hb
   omega
  ·obtain⟨c,e,h1,h2⟩:=eF
   exact⟨c,e,hh.trans h1,h2⟩
 |emp a=>exact λ_=>.emp a
 |mu id bP v loc hp hl hv he=>
  intro _
  obtain⟨loc',a1,a2,a3⟩:=hs.ids id loc hl
  refine .mu id bP v loc' hp a1 (by omega) λe=>?_
  have e1:bP=loc.bP:=by omega
  have e2:=a3 (.inl (by omega))
  rw[show loc'.a=loc.a from congrArg (·.1) e2,show loc'.len=loc.len from congrArg (·.2.2.1) e2,show loc'.cap=loc.cap from congrArg (·.2.1) e2]
  exact he e1
 |ptr id bP i k v loc hp hl hv he=>
  intro _
  obtain⟨loc',a1,a2,a3⟩:=hs.ids id loc hl
  refine .ptr id bP i k v loc' hp a1 (by omega) λe=>?_
  have e1:bP=loc.bP:=by omega
  have e2:=a3 (.inl (by omega))
  rw[show loc'.a=loc.a from congrArg (·.1) e2,show loc'.sz=loc.sz from congrArg (·.2.2.2.1) e2]
  exact he e1
 |nJ sz rows i k a cap hl ih=>exact λ_=>.nJ sz rows i k a cap (ih λb hb=>by simp[eH]at hb)
 |map id loc b hl hm hb=>
  intro _
  obtain⟨loc',a1,a2,a3⟩:=hs.ids id loc hl
  have e2:=a3 (.inr hm)
  exact .map id loc' b a1 ((congrArg (·.2.2.2.2) e2:loc'.mp=loc.mp).trans hm) ((congrArg (·.1) e2:loc'.a=loc.a).trans hb)
 |fn f first jI vf vc hl hm hn h k ih ik=>
  intro _
  refine .fn f first jI vf vc hl hm hn (λi c v h1 h2=>ih i c v h1 h2 λb hb=>?_) (λi c v h1 h2=>ik i c v h1 h2 λb hb=>?_)
  ·rw[dN b c v ((cn first).1 hn.1 c (cD h1))]at hb;omega
  ·rw[dN b c v ((cn jI).1 hn.2.1 c (cD h1))]at hb;omega
end Ax
namespace Ax
open Go
def tK:Nat->Value->Option AV
 |0,_=>none
 |d+1,v=>match v with
  |.bool b=>some (.bool b)
  |.int k n=>some (.int k n)
  |.string s=>some (.str s.data.toList)
  |.pointer none=>some .dY
  |.slice none 0 0=>some .U
  |.map none=>some .eX
  |.nilFunc=>some .gD
  |.nilIface=>some .jj
  |.agg cs=>match cs.toList.mapM (tK d) with|some l=>some (.agg l)|none=>none
  |_=>none
def tL (v:Value)(a:AV):Bool:=match tK 3 v with|some b=>b.same a|none=>false
def oc:List Value->List AV->Bool
 |[],[]=>true
 |v::vs,a::as=>tL v a&&oc vs as
 |_,_=>false
def Ix:Operand->Src->Bool
 |.tmp t,.tmp u _=>t==u
 |.const v,.const a=>tL v a
 |.func f,.const (.fn g [] [])=>f==g&&decide (f<100000)
 |_,_=>false
def eK:List Operand->List Src->Bool
 |[],[]=>true
 |x::xs,s::ss=>Ix x s&&eK xs ss
 |_,_=>false
def lA (P:Program)(t:TypeId):Option Bool:=match P.underlying t with
 |some (.struct _)|some (.array _ _)=>some true
 |some _=>some false
 |none=>none
def ck (P:Program)(t:TypeId)(n:Nat):Bool:=match P.info? t with|some i=>i.size==n|none=>false
def mK (P:Program)(t:TypeId)(n:Nat):Bool:=match P.info? t with|some i=>i.bytes==n|none=>false
def An (P:Program)(rec:TypeId->Option (List SK)):Nat->List Field->Option (List SK)
 |_,[]=>some []
 |off,f::fs=>
  if f.offset = off && f.name != "_" then
   match rec f.type with
   |some ks=>if ck P f.type ks.length then (match An P rec (off+ks.length) fs with|some r=>some (ks++r)|none=>none) else none
   |none=>none
  else none
def Ao (P:Program):Nat->TypeId->Option (List SK)
 |0,_=>none
 |d+1,t=>match P.underlying t with
  |some .bool=>some [.bool]
  |some (.int _)=>some [.int]
  |some .string=>some [.str]
  |some (.struct fs)=>if P.stoodInHeld t then none else An P (Ao P d) 0 fs.toList
  |_=>none
def uy (P:Program)(t:TypeId):Za->Bool
 |.sc .bool=>match P.underlying t with|some .bool=>true|_=>false
 |.sc _=>false
 |.ptr=>match P.underlying t with|some (.pointer _)=>true|_=>false
 |.sl=>match P.underlying t with|some (.slice _)=>true|_=>false
 |.fn=>match P.underlying t with|some (.func _ _ _)=>true|_=>false
 |.flat ks=>(match P.underlying t with|some (.struct _)=>true|_=>false)&&Ao P 20 t==some ks && !P.eqGuardType P.depth t
def mV (P:Program)(t:TypeId):SK->Bool
 |.bool=>match P.underlying t with|some .bool=>true|_=>false
 |.int=>match P.underlying t with|some (.int _)=>true|_=>false
 |.str=>match P.underlying t with|some .string=>true|_=>false
def me (P:Program)(t:TypeId)(zero:List AV):Bool:=match P.info? t with
 |some i=>(match i.zero with|some z=>oc z.cells.toList zero&&AV.aH zero|none=>false)
 |none=>false
def oB (P:Program)(fs:Array Field):List (Nat×Operand)->List (Nat×Nat)->Bool
 |[],[]=>true
 |(i,_)::ps,(off,n)::qs=>(match fs[i]? with|some f=>f.offset==off&&ck P f.type n|none=>false)&&oB P fs ps qs
 |_,_=>false
def tM (x:Operand)(lo hi mx:Option Operand):List Operand:=x::(lo.toList++hi.toList++mx.toList)
def Zb (S:Nat->Option aC)(P:Program)(o:Oper)(so:aU):Bool:=
 (match o.dst,so.dst with|some a,some b=>a==b|none,none=>true|_,_=>false) &&
 match o.op,so.op with
 |.move x,.move|.assign x,.move=>eK [x] so.args
 |.pick c a b,.pick=>eK [c,a,b] so.args
 |.binOp op _ x y _,.bin op'=>op==op'&&eK [x,y] so.args
 |.binOp op t x y _,.eqv k neg=>op==(if neg then .neq else .eql)&&eK [x,y] so.args&&uy P t k
 |.binOp op t x y _,.JW neg=>op==(if neg then .neq else .eql)&&eK [x,y] so.args&&uy P t .sl
 |.unOp op _ x,.un op'=>op==op'&&eK [x] so.args
 |.convert s d x,.conv k=>eK [x] so.args&&(match P.underlying s,P.underlying d with|some (.int _),some (.int k')=>k==k'|_,_=>false)
 |.nilCheck x,.nilCheck=>eK [x] so.args
 |.extract x i,.extract j=>i==j&&eK [x] so.args
 |.field t x f,.field off n agg=>eK [x] so.args&&(match P.underlying t with
  |some (.struct fs)=>(match fs[f]? with|some fd=>fd.offset==off&&ck P fd.type n&&lA P fd.type==some agg|none=>false)
  |_=>false)
 |.build t parts,.build zero qs=>eK (parts.toList.map (·.2)) so.args&&me P t zero&&(match P.underlying t with
  |some (.struct fs)=>(match fs.toList.mapM (λf=>P.info? f.type) with|some _=>oB P fs parts.toList qs|none=>false)
  |_=>false)
 |.buildSlice t n parts,.lit sz n' zero qs|.buildSlice t n parts,.RO sz n' zero qs=>n==n'&&eK (parts.toList.map (·.2)) so.args&&(match P.underlying t with
  |some (.slice e)=>ck P e sz&&decide (n*sz<=16777216)&&me P e zero&&decide (0<sz)&&(zero.length==sz)&&parts.toList.map (·.1)==qs
  |_=>false)
 |.fieldAddr t x f,.fieldAddr off=>eK [x] so.args&&(match P.underlying t with
  |some (.struct fs)=>(match fs[f]? with
   |some fd=>fd.offset==off&&(match P.info? fd.type with|some i=>i.size != 0|none=>false)
   |none=>false)
  |_=>false)
 |.indexAddr t x i,.indexAddr sz=>eK [x,i] so.args&&(match P.underlying t with|some (.slice e)=>ck P e sz|_=>false)
 |.index t x i,.index=>eK [x,i] so.args&&(match P.underlying t with|some .string=>true|_=>false)
 |.slice t x lo hi mx,.slice sd l h m sz=>eK (tM x lo hi mx) so.args&&lo.isSome==l&&hi.isSome==h&&mx.isSome==m&&(!m||h)&&(match P.underlying t with
  |some (.slice e)=>!sd&&ck P e sz
  |some .string=>sd && !m
  |_=>false)
 |.slice t x none (some hi) none,.u6 sz=>eK [x,hi] so.args&&(match P.underlying t with|some (.slice e)=>ck P e sz|_=>false)
 |.load t a,.load agg n _|.load t a,.aD _ agg n _=>eK [a] so.args&&ck P t n&&lA P t==some agg&&(agg||n==1)
 |.store t a v,.store n|.store t a v,.ai _ n=>eK [a,v] so.args&&ck P t n
 |.alloc t,.alloc zero|.alloc t,.aF _ zero=>so.args.isEmpty&&me P t zero
 |.box _ v,.box _|.box _ v,.fR _ _=>eK [v] so.args
 |.makeSlice t l c,.qI sz bytes zero _=>eK [l,c] so.args&&(match P.underlying t with
  |some (.slice e)=>ck P e sz&&mK P e bytes&&me P e zero&&decide (0<sz)&&decide (0<bytes)
  |_=>false)
 |.makeMap t none,.makeMap=>so.args.isEmpty&&(match P.underlying t with|some (.map _ _)=>true|_=>false)
 |.mapUpdate t m k v,.mapUpdate kk|.insert t m k v,.mapUpdate kk=>eK [m,k,v] so.args&&(match P.underlying t with
  |some (.map kt _)=>mV P kt kk
  |_=>false)
 |.lookup t m k ok,.lookup kk zero ok'=>ok==ok'&&eK [m,k] so.args&&(match P.underlying t with
  |some (.map kt et)=>mV P kt kk &&
   (match P.info? et with|some i=>(match i.zero with|some z=>tL z zero|none=>false)|none=>false)
  |_=>false)
 |.makeFunc (.func f) first jI,.makeFunc f' n=>f==f'&&eK (first.toList++jI.toList) so.args&&first.size==n&&decide (f<100000)
 |.call c,.len k=>eK c.args.toList so.args&&c.args.size==1&&(match c.callee,c.argTypes[0]? with
  |.builtin .len,some t=>(match P.underlying t,k with|some .string,.str|some (.slice _),.sl|some (.map _ _),.mp=>true|_,_=>false)
  |_,_=>false)
 |.call c,.DW mx=>eK c.args.toList so.args&&c.args.size==2&&(match c.callee with|.builtin .max=>mx|.builtin .min=>!mx|_=>false)
 |.call c,.append sz bytes|.call c,.lu sz bytes=>eK c.args.toList so.args&&c.args.size==2&&c.argTypes.size==2&&(match c.callee,c.argTypes[0]?,c.argTypes[1]? with
  |.builtin .append,some t,some u=>(match P.underlying t with|some (.slice e)=>ck P e sz&&mK P e bytes&&decide (0<sz)&&decide (0<bytes)&&(match P.info? e with|some i=>(match i.zero with|some z=>z.cells.size==sz|none=>false)|none=>false)|_=>false) &&
   (match P.underlying u with|some (.slice _)|some .string=>true|_=>false)
  |_,_,_=>false)
 |.call c,.copy sz=>eK c.args.toList so.args&&c.args.size==2&&c.argTypes.size==2&&(match c.callee,c.argTypes[0]?,c.argTypes[1]? with
  |.builtin .copy,some t,some u=>(match P.underlying t with|some (.slice e)=>ck P e sz|_=>false)&&(match P.underlying u with|some (.slice _)|some .string=>true|_=>false)
  |_,_,_=>false)
 |.convert s d x,.toStr=>eK [x] so.args&&(match P.underlying s,P.underlying d with
  |some (.slice e),some .string=>(match P.underlying e with|some (.int .u8)=>true|_=>false)
  |_,_=>false)
 |.call c,.call i=>(match c.callee with
  |.value (.func f)=>eK c.args.toList so.args&&(match S i with|some sf=>sf.fD==f|none=>false)
  |_=>false)
 |.call c,.ox=>(match c.callee with
  |.value x=>eK (x::c.args.toList) so.args
  |_=>false)
 |.makeSlice t l c,.zF sz bytes zero=>eK [l,c] so.args&&(match P.underlying t with
  |some (.slice e)=>ck P e sz&&mK P e bytes&&me P e zero&&decide (0<sz)&&decide (0<bytes)
  |_=>false)
 |.call c,.tG sz bytes zero=>eK c.args.toList so.args&&c.args.size==2&&c.argTypes.size==2&&(match c.callee,c.argTypes[0]?,c.argTypes[1]? with
  |.builtin .append,some t,some u=>(match P.underlying t with|some (.slice e)=>ck P e sz&&mK P e bytes&&me P e zero&&decide (0<sz)&&decide (0<bytes)|_=>false) &&
   (match P.underlying u with|some (.int _)=>true|_=>false)
  |_,_,_=>false)
 |.call c,.RP=>eK c.args.toList so.args&&c.args.size==1&&(match c.callee,c.argTypes[0]? with
  |.builtin .cap,some t=>(match P.underlying t with|some (.slice _)=>true|_=>false)
  |_,_=>false)
 |_,.u6 0=>so.args.isEmpty
 |_,_=>false
end Ax
namespace Ax
open Go
structure kO where
 iQ:Option Nat
 vals:List Value
def jv (w:World)(G:aK)(β:List kO):dK->Value->Prop
 |.none,_=>True
 |.val a,v=>aL w G a v
 |.fp j k,v=>∃g b,β[j]?=some g/\g.iQ=some b/\v=.pointer (some ⟨b,k,none⟩)
def cg (b:Nat):dK->Value->Nat
 |.val a,v=>eH b a v
 |_,_=>0
def jD (w:World)(G:aK)(β:List kO):List dK->List Value->Prop
 |[],[]=>True
 |e::es,v::vs=>jv w G β e v/\jD w G β es vs
 |_,_=>False
def kh (b:Nat):List dK->List Value->Nat
 |e::es,v::vs=>cg b e v+kh b es vs
 |_,_=>0
variable {w:World}{G:aK}{β:List kO}
theorem jD.one {e:dK}{xs:List Value}(h:jD w G β [e] xs):∃v,xs=[v]/\jv w G β e v:=by
 match xs,h with
 |[v],h=>exact⟨v,rfl,h.1⟩
theorem jD.two {e f:dK}{xs:List Value}(h:jD w G β [e,f] xs):∃v u,xs=[v,u]/\jv w G β e v/\jv w G β f u:=by
 match xs,h with
 |[v,u],h=>exact⟨v,u,rfl,h.1,h.2.1⟩
theorem jD.cons {e:dK}{es:List dK}{xs:List Value}(h:jD w G β (e::es) xs):∃v vs,xs=v::vs/\jv w G β e v/\jD w G β es vs:=by
 match xs,h with
 |v::vs,h=>exact⟨v,vs,rfl,h.1,h.2⟩
theorem jD.vals:∀{es:List dK}{xs:List Value}{vs:List AV},jD w G β es xs->iq es=some vs->
  es=vs.map .val/\vs.length=xs.length/\∀(i:Nat) c v,vs[i]?=some c->xs[i]?=some v->aL w G c v
 |[],[],vs,_,h=>by simp[iq]at h;subst h;exact⟨rfl,rfl,λi c v h _=>by simp at h⟩
 |.val a::es,x::xs,vs,h,hv=>by
  simp only[iq]at hv
  split at hv
  ·rename_i vs' Cs
   cases hv
   obtain⟨e1,e2,e3⟩:=jD.vals h.2 Cs
   refine⟨by rw[e1];rfl,by simp[e2],λi c v h1 h2=>?_⟩
   cases i with
   |zero=>simp at h1 h2;subst h1;subst h2;exact h.1
   |succ i=>simp at h1 h2;exact e3 i c v h1 h2
  ·cases hv
 |.none::es,_::_,vs,_,hv=>by simp[iq]at hv
 |.fp _ _::es,_::_,vs,_,hv=>by simp[iq]at hv
 |[],_::_,_,h,_=>h.elim
 |_::_,[],_,h,_=>h.elim
theorem Ap:∀(b:Nat)(vs:List AV)(xs:List Value),kh b (vs.map .val) xs=bM b vs xs
 |_,[],[]=>rfl
 |_,[],_::_=>rfl
 |_,_::_,[]=>rfl
 |b,a::vs,x::xs=>by simp[kh,bM,cg,Ap b vs xs]
theorem aL.eS {k:IntKind}{n:Int}{v:Value}(h:aL w G (.int k n) v):v=.int k n:=by cases h;rfl
theorem aL.iR {b:Bool}{v:Value}(h:aL w G (.bool b) v):v=.bool b:=by cases h;rfl
theorem aL.kM {l:List UInt8}{v:Value}(h:aL w G (.str l) v):∃s,v=.string s/\s.data.toList=l:=by
 cases h with|str _ s h=>exact⟨s,rfl,h⟩
theorem aL.view {a:AV}{v:Value}(h:aL w G a v):aL w G a.view v:=by
 induction h with
 |undef=>exact .undef
 |gone v h=>exact .gone v h
 |bool b=>exact .bool b
 |int k n=>exact .int k n
 |str l s h=>exact .str l s h
 |dY=>exact .dY
 |U=>exact .U
 |eX=>exact .eX
 |gD=>exact .gD
 |jj=>exact .jj
 |agg cs vs hl h ih=>
  refine .agg _ vs (by rw[lz];exact hl) λi c v hc hv=>?_
  rw[tJ]at hc
  simp only[Option.map_eq_some_iff]at hc
  obtain⟨c',h1,rfl⟩:=hc
  exact ih i c' v h1 hv
 |fm cs vs hl h ih=>
  refine .fm _ vs (by rw[lz];exact hl) λi c v hc hv=>?_
  rw[tJ]at hc
  simp only[Option.map_eq_some_iff]at hc
  obtain⟨c',h1,rfl⟩:=hc
  exact ih i c' v h1 hv
 |cN sz rows a cap nS eJ bY hY mU tH hc hr ih=>exact .cN sz rows a cap nS eJ bY hY mU tH hc hr
 |own sz rows a cap nS eJ bY hY mU tH hc hr gq eF ih=>
  refine .cN sz rows a cap nS eJ bY hY mU tH (λi r j c h1 h2=>⟨⟨?_,λp hp=>?_⟩,hc i r j c h1 h2⟩) hr
  ·obtain⟨cc,e,h3,_⟩:=eF
   exact(Array.getElem?_eq_some_iff.1 h3).1
  ·rw[gq]at hp
   cases hp
   have hi:i<rows.length:=(List.getElem?_eq_some_iff.1 h1).1
   have hj:j<r.length:=(List.getElem?_eq_some_iff.1 h2).1
   have hs:r.length=sz:=by
    simp only[fits,List.all_eq_true,beq_iff_eq]at bY
    exact bY r (cD h1)
   have:i*sz+j<rows.length*sz:=by
    calc i*sz+j<i*sz+sz:=by omega
     _=(i+1)*sz:=by rw[Nat.succ_mul]
     _<=rows.length*sz:=Nat.mul_le_mul_right _ hi
   omega
 |raw sz rows a cap nS eJ bY hY mU tH hc hr gq eF ih=>exact .gone _ rfl
 |emp a=>exact .emp a
 |mu id bP v loc hp hl hv he=>exact .mu id bP v loc hp hl hv he
 |ptr id bP i k v loc hp hl hv he=>exact .ptr id bP i k v loc hp hl hv he
 |nJ sz rows i k a cap hl ih=>exact .nJ sz rows i k a cap hl
 |map id loc b hl hm hb=>exact .map id loc b hl hm hb
 |fn f first jI vf vc hl hm hn h k ih ik=>exact .fn f first jI vf vc hl hm hn h k
theorem jv.view {e:dK}{v:Value}(h:jv w G β e v):jv w G β e.view v:=by
 cases e with
 |none=>trivial
 |val a=>exact aL.view h
 |fp j k=>exact h
theorem CV (b:Nat)(e:dK)(v:Value):cg b e.view v=0:=by
 cases e with
 |none=>rfl
 |val a=>exact dN b _ _ (qL a)
 |fp j k=>rfl
mutual
theorem D0:∀(a b:AV),a.same b=true->a=b
 |.undef,b,h=>by cases b<;>simp[AV.same]at h<;>rfl
 |.gone,b,h=>by cases b<;>simp[AV.same]at h<;>rfl
 |.dY,b,h=>by cases b<;>simp[AV.same]at h<;>rfl
 |.U,b,h=>by cases b<;>simp[AV.same]at h<;>rfl
 |.eX,b,h=>by cases b<;>simp[AV.same]at h<;>rfl
 |.gD,b,h=>by cases b<;>simp[AV.same]at h<;>rfl
 |.jj,b,h=>by cases b<;>simp[AV.same]at h<;>rfl
 |.emp,b,h=>by cases b<;>simp[AV.same]at h<;>rfl
 |.bool x,b,h=>by cases b<;>simp[AV.same]at h;rw[h]
 |.int k x,b,h=>by cases b<;>simp[AV.same]at h;rw[h.1,h.2]
 |.str x,b,h=>by cases b<;>simp[AV.same]at h;rw[h]
 |.agg x,b,h=>by
  cases b<;>simp[AV.same]at h
  rw[qm _ _ h]
 |.fm x,b,h=>by
  cases b<;>simp[AV.same]at h
  rw[qm _ _ h]
 |.cN s x,b,h=>by
  cases b<;>simp[AV.same]at h
  rw[h.1,qn _ _ h.2]
 |.own s x,b,h=>by
  cases b<;>simp[AV.same]at h
  rw[h.1,qn _ _ h.2]
 |.raw s x,b,h=>by
  cases b<;>simp[AV.same]at h
  rw[h.1,qn _ _ h.2]
 |.mu i v,b,h=>by cases b<;>simp[AV.same]at h;rw[h.1,h.2]
 |.ptr i v k l,b,h=>by cases b<;>simp[AV.same]at h;rw[h.1.1.1,h.1.1.2,h.1.2,h.2]
 |.nJ s x i k,b,h=>by
  cases b<;>simp[AV.same]at h
  rw[h.1.1.1,qn _ _ h.1.1.2,h.1.2,h.2]
 |.map i,b,h=>by cases b<;>simp[AV.same]at h;rw[h]
 |.fn f x y,b,h=>by
  cases b<;>simp[AV.same]at h
  rw[h.1.1,qm _ _ h.1.2,qm _ _ h.2]
theorem qm:∀(a b:List AV),AV.pq a b=true->a=b
 |[],b,h=>by cases b<;>simp[AV.pq]at h;rfl
 |x::a,b,h=>by
  cases b with
  |nil=>simp[AV.pq]at h
  |cons y b=>
   simp[AV.pq]at h
   rw[D0 x y h.1,qm a b h.2]
theorem qn:∀(a b:List (List AV)),AV.pZ a b=true->a=b
 |[],b,h=>by cases b<;>simp[AV.pZ]at h;rfl
 |x::a,b,h=>by
  cases b with
  |nil=>simp[AV.pZ]at h
  |cons y b=>
   simp[AV.pZ]at h
   rw[qm x y h.1,qn a b h.2]
end
theorem Aq (w:World)(G:aK):∀(d:Nat)(v:Value)(a:AV),tK d v=some a->aL w G a v/\a.bR=true/\a.an=true
 |0,_,_,h=>by simp[tK]at h
 |d+1,v,a,h=>by
  unfold tK at h
  split at h
  ·cases h;exact⟨.bool _,rfl,rfl⟩
  ·cases h;exact⟨.int _ _,rfl,rfl⟩
  ·cases h;exact⟨.str _ _ rfl,rfl,rfl⟩
  ·cases h;exact⟨.dY,rfl,rfl⟩
  ·cases h;exact⟨.U,rfl,rfl⟩
  ·cases h;exact⟨.eX,rfl,rfl⟩
  ·cases h;exact⟨.gD,rfl,rfl⟩
  ·cases h;exact⟨.jj,rfl,rfl⟩
  ·rename_i cs
   split at h
   ·rename_i l hl
    cases h
    have key:∀(vs:List Value) (l:List AV),vs.mapM (tK d)=some l->vs.length=l.length/\(∀(i:Nat) c v,l[i]?=some c->vs[i]?=some v->aL w G c v/\c.bR=true/\c.an=true):=by
     intro vs
     induction vs with
     |nil=>intro l h;simp at h;subst h;exact⟨rfl,λi c v h _=>by simp at h⟩
     |cons x vs ih=>
      intro l h
      rw[List.mapM_cons]at h
      simp only[bind,Option.bind_eq_some_iff,pure,Option.some.injEq]at h
      obtain⟨a1,h1,l1,h2,rfl⟩:=h
      obtain⟨e1,e2⟩:=ih l1 h2
      refine⟨by simp[e1],λi c v hc hv=>?_⟩
      cases i with
      |zero=>simp at hc hv;subst hc;subst hv;exact Aq w G d _ _ h1
      |succ i=>simp at hc hv;exact e2 i c v hc hv
    obtain⟨e1,e2⟩:=key _ _ hl
    have iN:∀c∈l,c.bR=true/\c.an=true:=by
     intro c hc
     obtain⟨i,hi,rfl⟩:=List.mem_iff_getElem.1 hc
     have hi2:i<cs.toList.length:=by omega
     exact(e2 i l[i] cs.toList[i] (List.getElem?_eq_getElem hi) (List.getElem?_eq_getElem hi2)).2
    refine⟨.agg l cs (by rw[<-e1];simp) λi c v hc hv=>(e2 i c v hc (by simpa using hv)).1,?_,?_⟩
    ·simp only[AV.bR];exact(cn l).2 λc hc=>(iN c hc).1
    ·simp only[AV.an];exact(fC l).2 λc hc=>(iN c hc).2
   ·cases h
  ·cases h
theorem vg {v:Value}{a:AV}(h:tL v a=true)(w:World)(G:aK):aL w G a v/\a.bR=true/\a.an=true:=by
 unfold tL at h
 split at h
 ·rename_i b hb
  have:=D0 _ _ h
  subst this
  exact Aq w G 3 v b hb
 ·cases h
theorem vQ (w:World)(G:aK):∀{vs:List Value}{as:List AV},oc vs as=true->as.length=vs.length/\(∀(i:Nat) c v,as[i]?=some c->vs[i]?=some v->aL w G c v)/\(∀c∈as,c.bR=true/\c.an=true)
 |[],[],_=>⟨rfl,λi c v h _=>by simp at h,λc h=>by simp at h⟩
 |v::vs,a::as,h=>by
  simp only[oc,Bool.and_eq_true]at h
  obtain⟨e1,e2,e3⟩:=vQ w G h.2
  obtain⟨f1,f2,f3⟩:=vg h.1 w G
  refine⟨by simp[e1],λi c u hc hu=>?_,λc hc=>?_⟩
  ·cases i with
   |zero=>simp at hc hu;subst hc;subst hu;exact f1
   |succ i=>simp at hc hu;exact e2 i c u hc hu
  ·rcases List.mem_cons.1 hc with rfl|hc
   ·exact⟨f2,f3⟩
   ·exact e3 c hc
 |[],_::_,h=>by simp[oc]at h
 |_::_,[],h=>by simp[oc]at h
end Ax
namespace Ax
open Go
variable {P:Program}{w:World}{G:aK}
theorem jM {t:TypeId}{n:Nat}(h:ck P t n=true):∃i,P.info? t=some i/\i.size=n/\P.cellsOf t=n:=by
 unfold ck at h
 split at h
 ·rename_i i hi;exact⟨i,hi,by simpa using h,by simp[Program.cellsOf,hi];simpa using h⟩
 ·cases h
theorem dn {t:TypeId}{n:Nat}(h:ck P t n=true)(w:World):(Go.sizeOf t).run P w=.ok n w:=by
 obtain⟨i,hi,hs,hc⟩:=jM h
 rw[run_sizeOf w hi,hc]
def bV (w:World)(G:aK)(as:List AV)(xs:List Value):Prop:=as.length=xs.length/\∀(i:Nat) c v,as[i]?=some c->xs[i]?=some v->aL w G c v
theorem RU {t:TypeId}{k:SK}{a b:AV}{x y:Value}{r:Bool}(ht:mV P t k=true)(h:Cp k a b=some r)(ha:aL w G a x)(hb:aL w G b y)(D:Nat)(w':World) :
  (Op.equalIn (D+1) t x y).run P w'=.ok r w':=by
 unfold Cp at h
 split at h
 ·cases h
  rw[ha.iR,hb.iR]
  have hu:P.underlying t=some .bool:=by
   unfold mV at ht;simp only at ht;split at ht<;>simp_all
  exact run_equalIn_bool w' D t _ _ hu
 ·split at h
  ·rename_i k1 p k2 q hk
   cases h
   subst hk
   rw[ha.eS,hb.eS]
   have hu:∃q,P.underlying t=some (.int q):=by
    unfold mV at ht;simp only at ht;split at ht
    ·exact⟨_,by assumption⟩
    ·cases ht
   obtain⟨q,hu⟩:=hu
   exact run_equalIn_int w' D t _ q _ _ hu
  ·cases h
 ·cases h
  obtain⟨s,rfl,rfl⟩:=ha.kM
  obtain⟨s',rfl,rfl⟩:=hb.kM
  have hu:P.underlying t=some .string:=by
   unfold mV at ht;simp only at ht;split at ht<;>simp_all
  rw[run_equalIn_string w' D t _ _ hu,ByteArray.toList_eq,ByteArray.toList_eq]
 ·cases h
theorem Ar:∀(k1 k2:List SK)(a b:List AV)(r:Bool),Cq (k1++k2) a b=some r->
  ∃r1 r2,Cq k1 (a.take k1.length) (b.take k1.length)=some r1/\Cq k2 (a.drop k1.length) (b.drop k1.length)=some r2/\r=(r1&&r2)
 |[],k2,a,b,r,h=>⟨true,r,by simp[Cq],by simpa using h,by simp⟩
 |k::k1,k2,[],b,r,h=>by cases b<;>simp[Cq]at h
 |k::k1,k2,a::as,[],r,h=>by simp[Cq]at h
 |k::k1,k2,a::as,b::bs,r,h=>by
  simp only[List.cons_append,Cq]at h
  split at h
  ·rename_i p q hp hq
   cases h
   obtain⟨r1,r2,e1,e2,rfl⟩:=Ar k1 k2 as bs q hq
   exact⟨p&&r1,r2,by simp[Cq,hp,e1],by simpa using e2,by simp[Bool.and_assoc]⟩
  ·cases h
theorem As:∀(ks:List SK)(a b:List AV)(r:Bool),Cq ks a b=some r->a.length=ks.length/\b.length=ks.length
 |[],[],[],_,_=>⟨rfl,rfl⟩
 |[],[],_::_,_,h=>by simp[Cq]at h
 |[],_::_,_,_,h=>by simp[Cq]at h
 |_::_,[],_,_,h=>by simp[Cq]at h
 |_::_,_::_,[],_,h=>by simp[Cq]at h
 |k::ks,a::as,b::bs,r,h=>by
  simp only[Cq]at h
  split at h
  ·rename_i p q hp hq
   obtain⟨e1,e2⟩:=As ks as bs q hq
   simp[e1,e2]
  ·cases h
theorem vR {t:TypeId}{fs:Array Field}{n off:Nat}(hu:P.underlying t=some (.struct fs))(hn:ck P t n=true)(xs:Array Value)(w:World) :
  (part t xs off).run P w=.ok (.agg (xs.extract off (off+n))) w:=by
 simp[part,isAgg,run_underlying hu,dn hn]
theorem yG {t:TypeId}{k:SK}{off:Nat}{v:Value}(hk:mV P t k=true){xs:Array Value}(hx:xs[off]?=some v)(w:World) :
  (part t xs off).run P w=.ok v w:=by
 refine run_part_plain w ?_ hx
 unfold mV at hk
 unfold Program.plainKey
 cases k<;>simp only at hk<;>split at hk<;>simp_all
theorem bV.take {as:List AV}{xs:List Value}(h:bV w G as xs)(n:Nat):bV w G (as.take n) (xs.take n):=by
 refine⟨by simp[h.1],λi c v hc hv=>?_⟩
 rw[List.getElem?_take]at hc hv
 split at hc
 ·rename_i hi;rw[if_pos hi]at hv;exact h.2 i c v hc hv
 ·cases hc
theorem bV.drop {as:List AV}{xs:List Value}(h:bV w G as xs)(n:Nat):bV w G (as.drop n) (xs.drop n):=by
 refine⟨by simp[h.1],λi c v hc hv=>?_⟩
 rw[List.getElem?_drop]at hc hv
 exact h.2 _ c v hc hv
def aas (P:Program)(G:aK)(w:World)(D:Nat)(t:TypeId)(ks:List SK):Prop:=
 (∃k,ks=[k]/\mV P t k=true)\/
 (∃fs,P.underlying t=some (.struct fs))/\∀(xs ys:Array Value) (as bs:List AV) (r:Bool),bV w G as xs.toList->bV w G bs ys.toList->Cq ks as bs=some r->
  (Op.equalIn D t (.agg xs) (.agg ys)).run P w=.ok r w
theorem vU (D:Nat)(xs ys:Array Value)(as bs:List AV)(hx:bV w G as xs.toList)(hy:bV w G bs ys.toList)(rec:TypeId->Option (List SK))
  (RW:∀t ks,rec t=some ks->aas P G w (D+1) t ks):∀(fs:List Field) (off:Nat) (ks:List SK) (r:Bool),An P rec off fs=some ks->Cq ks (as.drop off) (bs.drop off)=some r->
  (Op.eqFields (D+1) xs ys fs).run P w=.ok r w
 |[],off,ks,r,h,he=>by
  simp only[An,Option.some.injEq]at h
  subst h
  cases ha:as.drop off<;>cases hb:bs.drop off<;>rw[ha,hb]at he<;>simp[Cq]at he
  subst he
  simp[Op.eqFields]
 |f::fs,off,ks,r,h,he=>by
  unfold An at h
  split at h
  ·rename_i hc
   simp only[Bool.and_eq_true,decide_eq_true_eq,bne_iff_ne]at hc
   split at h
   ·rename_i kf hkf
    split at h
    ·rename_i l8
     split at h
     ·rename_i kr UM
      cases h
      obtain⟨r1,r2,e1,e2,rfl⟩:=Ar kf kr _ _ r he
      have ih:=vU D xs ys as bs hx hy rec RW fs (off+kf.length) kr r2 UM (by simpa [List.drop_drop] using e2)
      have hf : f.name ≠ "_" := hc.2
      have step:∃a b,(part f.type xs f.offset).run P w=.ok a w/\(part f.type ys f.offset).run P w=.ok b w/\(Op.equalIn (D+1) f.type a b).run P w=.ok r1 w:=by
       rw[hc.1]
       obtain⟨l1,l2⟩:=As _ _ _ _ e1
       rcases RW _ _ hkf with⟨k,rfl,hk⟩|⟨⟨gs,hu⟩,iN⟩
       ·simp only[List.length_cons,List.length_nil,Nat.zero_add]at e1 l1 l2
        have ha:∃a,as[off]?=some a:=by
         cases h:as[off]? with
         |some a=>exact⟨a,rfl⟩
         |none=>rw[List.getElem?_eq_none_iff]at h;simp at l1;omega
        have hb:∃b,bs[off]?=some b:=by
         cases h:bs[off]? with
         |some a=>exact⟨a,rfl⟩
         |none=>rw[List.getElem?_eq_none_iff]at h;simp at l2;omega
        obtain⟨a,ha⟩:=ha
        obtain⟨b,hb⟩:=hb
        have Ik:off<xs.size:=by have:=(List.getElem?_eq_some_iff.1 ha).1;have:=hx.1;simp at this;omega
        have RX:off<ys.size:=by have:=(List.getElem?_eq_some_iff.1 hb).1;have:=hy.1;simp at this;omega
        have hxa:=hx.2 off a xs[off] ha (by simp[Ik])
        have hyb:=hy.2 off b ys[off] hb (by simp[RX])
        refine⟨xs[off],ys[off],yG hk (by simp[Ik]) w,yG hk (by simp[RX]) w,?_⟩
        have:Cp k a b=some r1:=by
         have t1:(as.drop off).take 1=[a]:=by
          rw[List.drop_eq_getElem_cons (List.getElem?_eq_some_iff.1 ha).1,(List.getElem?_eq_some_iff.1 ha).2];simp
         have t2:(bs.drop off).take 1=[b]:=by
          rw[List.drop_eq_getElem_cons (List.getElem?_eq_some_iff.1 hb).1,(List.getElem?_eq_some_iff.1 hb).2];simp
         rw[t1,t2]at e1
         simp only[Cq]at e1
         split at e1
         ·rename_i p q hp hq
          cases hq
          simpa [hp] using e1
         ·cases e1
        exact RU hk this hxa hyb D w
       ·refine⟨_,_,vR hu l8 xs w,vR hu l8 ys w,iN _ _ _ _ _ ?_ ?_ e1⟩
        ·have:=(hx.drop off).take kf.length
         simpa [Array.toList_extract,List.extract] using this
        ·have:=(hy.drop off).take kf.length
         simpa [Array.toList_extract,List.extract] using this
      obtain⟨a,b,p1,p2,p3⟩:=step
      simp only[Op.eqFields,hf,ne_eq,not_false_eq_true,if_true,Sem.run_bind,p1,p2,p3,Result.andThen_ok]
      cases r1
      ·simp
      ·simpa using ih
     ·cases h
    ·cases h
   ·cases h
  ·cases h
theorem FH:∀(d D:Nat)(t:TypeId)(ks:List SK),d<=D->Ao P d t=some ks->aas P G w (D+1) t ks
 |0,_,_,_,_,h=>by simp[Ao]at h
 |d+1,D,t,ks,hd,h=>by
  unfold Ao at h
  split at h
  ·cases h;exact .inl ⟨.bool,rfl,by unfold mV;simp[*]⟩
  ·cases h;exact .inl ⟨.int,rfl,by unfold mV;simp[*]⟩
  ·cases h;exact .inl ⟨.str,rfl,by unfold mV;simp[*]⟩
  ·rename_i fs hu
   split at h
   ·cases h
   ·rename_i hs
    refine .inr ⟨⟨fs,hu⟩,λxs ys as bs r hx hy he=>?_⟩
    have hfs:P.fieldsOf t=fs:=by simp[Program.fieldsOf,hu]
    rw[run_equalIn_struct w D t xs ys (by rw[hfs];exact hu) (by simpa using hs),hfs]
    obtain⟨D',rfl⟩:∃D',D=D'+1:=⟨D-1,by omega⟩
    exact vU D' xs ys as bs hx hy (Ao P d) (λt ks h=>FH d D' t ks (by omega) h) fs.toList 0 ks r h (by simpa using he)
  ·cases h
theorem Lr {t:TypeId}(h:uy P t (.sc .bool)=true):P.underlying t=some .bool:=by
 simp only[uy]at h;split at h
 ·assumption
 ·cases h
theorem Np {t:TypeId}(h:uy P t .ptr=true):∃e,P.underlying t=some (.pointer e):=by
 simp only[uy]at h;split at h
 ·exact⟨_,by assumption⟩
 ·cases h
theorem JZ {t:TypeId}(h:uy P t .sl=true):∃e,P.underlying t=some (.slice e):=by
 simp only[uy]at h;split at h
 ·exact⟨_,by assumption⟩
 ·cases h
theorem RY {t:TypeId}(h:uy P t .fn=true):∃a b c,P.underlying t=some (.func a b c):=by
 simp only[uy]at h;split at h
 ·exact⟨_,_,_,by assumption⟩
 ·cases h
def J0 (x:Value):Prop:=(∀k n,x≠.int k n)/\(∀k n,x≠.float k n)/\(∀s,x≠.string s)/\(∀k r i,x≠.complex k r i)
theorem cq (t:TypeId){x y:Value}(h1:x≠.nilIface)(h2:∀cs,x≠.agg cs)(op:BinOp)(xo yo:Operand)(w:World):(eqGuard op t xo yo x y).run P w=.ok () w:=by
 cases op<;>cases x<;>simp_all [eqGuard]
theorem RZ {t:TypeId}{k:Za}{a b:AV}{x y:Value}{r:Bool}(ht:uy P t k=true)(h:Fw k a b=some r)(ha:aL w G a x)(hb:aL w G b y) :
  (Op.equal t x y).run P w=.ok r w/\(∀op (xo yo:Operand),(eqGuard op t xo yo x y).run P w=.ok () w)/\J0 x:=by
 unfold Op.equal Op.maxDepth
 cases k with
 |sc k=>
  cases k with
  |bool=>
   simp only[Fw]at h
   have hu:=Lr ht
   unfold Cp at h
   split at h<;>try cases h
   ·rw[ha.iR,hb.iR]
    exact⟨run_equalIn_bool w 9999 t _ _ hu,λop xo yo=>cq t (by simp) (by simp) op xo yo w,by simp,by simp,by simp,by simp⟩
   all_goals simp_all
  |int=>simp[uy]at ht
  |str=>simp[uy]at ht
 |flat ks=>
  unfold Fw at h
  split at h<;>try (cases h;done)
  all_goals try (rename_i heq;cases heq;done)
  rename_i ks' as bs heq
  cases heq
  cases ha with
  |agg _ xs hl hx=>
   cases hb with
   |agg _ ys nA hy=>
    simp only[uy,Bool.and_eq_true,Bool.not_eq_true']at ht
    obtain⟨⟨hu,hf⟩,hg⟩:=ht
    have hfk:Ao P 20 t=some ks:=by simpa using hf
    refine⟨?_,λop xo yo=>run_eqGuard_agg w op t xo yo xs ys hg,by simp,by simp,by simp,by simp⟩
    rcases FH (w:=w) (G:=G) 20 9999 t ks (by omega) hfk with⟨k,rfl,hk⟩|⟨_,iN⟩
    ·exfalso
     unfold mV at hk
     cases k<;>simp only at hk<;>split at hk<;>simp_all
    ·exact iN xs ys as bs r ⟨by simpa using hl,λi c v h1 h2=>hx i c v h1 (by simpa using h2)⟩ ⟨by simpa using nA,λi c v h1 h2=>hy i c v h1 (by simpa using h2)⟩ h
 |ptr=>
  obtain⟨e,hu⟩:=Np ht
  have key:∀(p q:Option Addr) (r:Bool),(p=none/\r=q.isNone\/q=none/\r=p.isNone)->(Op.equalIn (9999+1) t (.pointer p) (.pointer q)).run P w=.ok r w:=by
   generalize 9999=D
   intro p q r h
   rcases h with⟨rfl,rfl⟩|⟨rfl,rfl⟩
   ·cases q<;>simp[Op.equalIn,run_underlying hu]
   ·cases p<;>simp[Op.equalIn,run_underlying hu]
  have inv:∀{a x},aL w G a x->(a=.dY->x=.pointer none)/\(∀i v k l,a=.ptr i v k l->∃p,x=.pointer (some p))/\(∀i v k l,a=.nJ i v k l->∃p,x=.pointer (some p)):=by
   intro a x h
   refine⟨λe=>by subst e;cases h;rfl,λi v k l e=>by subst e;cases h with|ptr _ _ _ _ _ loc hp=>exact hp,λi v k l e=>by subst e;cases h;exact⟨_,rfl⟩⟩
  unfold Fw at h
  split at h<;>try (cases h;done)
  all_goals try (rename_i heq;cases heq;done)
  ·cases h;rw[(inv ha).1 rfl,(inv hb).1 rfl]
   exact⟨key _ _ _ (.inl ⟨rfl,rfl⟩),λop xo yo=>cq t (by simp) (by simp) op xo yo w,by simp,by simp,by simp,by simp⟩
  ·cases h;obtain⟨p,hp⟩:=(inv hb).2.1 _ _ _ _ rfl;rw[(inv ha).1 rfl,hp]
   exact⟨key _ _ _ (.inl ⟨rfl,rfl⟩),λop xo yo=>cq t (by simp) (by simp) op xo yo w,by simp,by simp,by simp,by simp⟩
  ·cases h;obtain⟨p,hp⟩:=(inv hb).2.2 _ _ _ _ rfl;rw[(inv ha).1 rfl,hp]
   exact⟨key _ _ _ (.inl ⟨rfl,rfl⟩),λop xo yo=>cq t (by simp) (by simp) op xo yo w,by simp,by simp,by simp,by simp⟩
  ·cases h;obtain⟨p,hp⟩:=(inv ha).2.1 _ _ _ _ rfl;rw[(inv hb).1 rfl,hp]
   exact⟨key _ _ _ (.inr ⟨rfl,rfl⟩),λop xo yo=>cq t (by simp) (by simp) op xo yo w,by simp,by simp,by simp,by simp⟩
  ·cases h;obtain⟨p,hp⟩:=(inv ha).2.2 _ _ _ _ rfl;rw[(inv hb).1 rfl,hp]
   exact⟨key _ _ _ (.inr ⟨rfl,rfl⟩),λop xo yo=>cq t (by simp) (by simp) op xo yo w,by simp,by simp,by simp,by simp⟩
 |sl=>
  obtain⟨e,hu⟩:=JZ ht
  have R1:∀(q:Option Addr) (n c:Nat),(Op.equalIn (9999+1) t (.slice none 0 0) (.slice q n c)).run P w=.ok q.isNone w:=by
   generalize 9999=D
   intro q n c;simp[Op.equalIn,run_underlying hu]
  have Nq:∀(q:Option Addr) (n c:Nat),(Op.equalIn (9999+1) t (.slice q n c) (.slice none 0 0)).run P w=.ok q.isNone w:=by
   generalize 9999=D
   intro q n c;cases q<;>simp[Op.equalIn,run_underlying hu]
  have inv:∀{a x},aL w G a x->(a=.U->x=.slice none 0 0)/\(∀s r,a=.cN s r->∃p n c,x=.slice (some p) n c)/\(∀s r,a=.own s r->∃p n c,x=.slice (some p) n c)/\(a=.emp->∃p n c,x=.slice (some p) n c):=by
   intro a x h
   refine⟨λe=>by subst e;cases h;rfl,λs r e=>by subst e;cases h;exact⟨_,_,_,rfl⟩,λs r e=>by subst e;cases h;exact⟨_,_,_,rfl⟩,λe=>by subst e;cases h;exact⟨_,_,_,rfl⟩⟩
  unfold Fw at h
  split at h<;>try (cases h;done)
  all_goals try (rename_i heq;cases heq;done)
  ·cases h;rw[(inv ha).1 rfl,(inv hb).1 rfl]
   exact⟨R1 _ _ _,λop xo yo=>cq t (by simp) (by simp) op xo yo w,by simp,by simp,by simp,by simp⟩
  ·cases h;obtain⟨p,n,c,hp⟩:=(inv hb).2.1 _ _ rfl;rw[(inv ha).1 rfl,hp]
   exact⟨R1 _ _ _,λop xo yo=>cq t (by simp) (by simp) op xo yo w,by simp,by simp,by simp,by simp⟩
  ·cases h;obtain⟨p,n,c,hp⟩:=(inv hb).2.2.1 _ _ rfl;rw[(inv ha).1 rfl,hp]
   exact⟨R1 _ _ _,λop xo yo=>cq t (by simp) (by simp) op xo yo w,by simp,by simp,by simp,by simp⟩
  ·cases h;obtain⟨p,n,c,hp⟩:=(inv hb).2.2.2 rfl;rw[(inv ha).1 rfl,hp]
   exact⟨R1 _ _ _,λop xo yo=>cq t (by simp) (by simp) op xo yo w,by simp,by simp,by simp,by simp⟩
  ·cases h;obtain⟨p,n,c,hp⟩:=(inv ha).2.1 _ _ rfl;rw[(inv hb).1 rfl,hp]
   exact⟨Nq _ _ _,λop xo yo=>cq t (by simp) (by simp) op xo yo w,by simp,by simp,by simp,by simp⟩
  ·cases h;obtain⟨p,n,c,hp⟩:=(inv ha).2.2.1 _ _ rfl;rw[(inv hb).1 rfl,hp]
   exact⟨Nq _ _ _,λop xo yo=>cq t (by simp) (by simp) op xo yo w,by simp,by simp,by simp,by simp⟩
  ·cases h;obtain⟨p,n,c,hp⟩:=(inv ha).2.2.2 rfl;rw[(inv hb).1 rfl,hp]
   exact⟨Nq _ _ _,λop xo yo=>cq t (by simp) (by simp) op xo yo w,by simp,by simp,by simp,by simp⟩
 |fn=>
  obtain⟨e1,e2,e3,hu⟩:=RY ht
  have k1:∀D,(Op.equalIn (D+1) t .nilFunc .nilFunc).run P w=.ok true w:=λD=>by simp[Op.equalIn,run_underlying hu]
  have k2:∀D f p q,(Op.equalIn (D+1) t .nilFunc (.func f p q)).run P w=.ok false w:=λD f p q=>by simp[Op.equalIn,run_underlying hu]
  have k3:∀D f p q,(Op.equalIn (D+1) t (.func f p q) .nilFunc).run P w=.ok false w:=λD f p q=>by simp[Op.equalIn,run_underlying hu]
  have inv:∀{a x},aL w G a x->(a=.gD->x=.nilFunc)/\(∀f b c,a=.fn f b c->∃p q,x=.func (.func f) p q):=by
   intro a x h
   refine⟨λe=>by subst e;cases h;rfl,λs r c e=>by subst e;cases h;exact⟨_,_,rfl⟩⟩
  unfold Fw at h
  split at h<;>try (cases h;done)
  all_goals try (rename_i heq;cases heq;done)
  ·cases h;rw[(inv ha).1 rfl,(inv hb).1 rfl]
   exact⟨k1 9999,λop xo yo=>cq t (by simp) (by simp) op xo yo w,by simp,by simp,by simp,by simp⟩
  ·cases h;obtain⟨p,q,hp⟩:=(inv hb).2 _ _ _ rfl;rw[(inv ha).1 rfl,hp]
   exact⟨k2 9999 _ _ _,λop xo yo=>cq t (by simp) (by simp) op xo yo w,by simp,by simp,by simp,by simp⟩
  ·cases h;obtain⟨p,q,hp⟩:=(inv ha).2 _ _ _ rfl;rw[(inv hb).1 rfl,hp]
   exact⟨k3 9999 _ _ _,λop xo yo=>cq t (by simp) (by simp) op xo yo w,by simp,by simp,by simp,by simp⟩
end Ax
namespace Ax
open Go
variable {P:Program}{w:World}{G:aK}{β:List kO}{ρ:Operand->Value}{o:Oper}
structure sx (w:World)(G:aK)(sz:Nat)(rows:List (List AV))(loc:Loc):Prop where
 fit:fits sz rows=true
 zG:∀r∈rows,AV.aH r=true
 len:loc.len=rows.length
 size:loc.sz=sz
 p6:loc.vals.length=rows.length
 qo:∀(i:Nat) r xs,rows[i]?=some r->loc.vals[i]?=some xs->bV w G r xs
 nB:(loc.cap=0/\rows=[]/\loc.a.isSome=true)\/∃b off c e,loc.a=some ⟨b,off,none⟩/\0<loc.cap/\w.heap[b]?=some (.cells c e (0,0))/\off+loc.cap*sz<=c.size/\rows.length<=loc.cap/\
  G.kg b=some 0/\∀(i:Nat) xs (j:Nat) x,loc.vals[i]?=some xs->xs[j]?=some x->w.cell? ⟨b,off+(i*sz+j),none⟩=some x
theorem sx.cell {sz:Nat}{rows:List (List AV)}{loc:Loc}(h:sx w G sz rows loc){b off:Nat}(hc:∀(i:Nat) xs (j:Nat) x,loc.vals[i]?=some xs->xs[j]?=some x->w.cell? ⟨b,off+(i*sz+j),none⟩=some x) :
  ∀(i:Nat) r (j:Nat) x,rows[i]?=some r->r[j]?=some x->∃v,w.cell? ⟨b,off+(i*sz+j),none⟩=some v/\aL w G x v:=by
 intro i r j x h1 h2
 have hi:i<loc.vals.length:=by rw[h.p6];exact(List.getElem?_eq_some_iff.1 h1).1
 have hv:=List.getElem?_eq_getElem hi
 obtain⟨e1,e2⟩:=h.qo i r _ h1 hv
 have hj:j<loc.vals[i].length:=by rw[<-e1];exact(List.getElem?_eq_some_iff.1 h2).1
 exact⟨_,hc i _ j _ hv (List.getElem?_eq_getElem hj),e2 j x _ h2 (List.getElem?_eq_getElem hj)⟩
def nC (w:World)(G:aK):fh->Loc->Prop
 |.rows bP sz rows,loc=>loc.mp=false/\loc.bP=bP/\sx w G sz rows loc
 |.map es,loc=>loc.mp=true/\loc.cap=1/\∃b se clock,loc.a=some ⟨b,0,none⟩/\w.heap[b]?=some (.map se clock)/\G.kg b=some 0/\se.size=es.length/\
   ∀(i:Nat) k v e,es[i]?=some (k,v)->se[i]?=some e->aL w G k e.key/\aL w G v e.val/\v.bR=true/\k.bR=true
structure Inv (w:World)(G:aK)(st:aj):Prop where
 len:G.ls.length=st.length
 obj:∀(id:Nat) ob loc,st[id]?=some ob->G.ls[id]?=some loc->nC w G ob loc
 kP:∀b p,G.kg b=some p->b<w.heap.size
theorem Inv.loc {st:aj}(h:Inv w G st){id:Nat}{ob:fh}(hs:st[id]?=some ob):∃loc,G.ls[id]?=some loc/\nC w G ob loc:=by
 have hi:id<st.length:=(List.getElem?_eq_some_iff.1 hs).1
 have:id<G.ls.length:=by rw[h.len];exact hi
 exact⟨G.ls[id],List.getElem?_eq_getElem this,h.obj id ob _ hs (List.getElem?_eq_getElem this)⟩
theorem Nr {st:aj}(hI:Inv w G st){a:AV}{v:Value}{rows:List (List AV)}(h:aL w G a v)(hr:rowsOf st a=some rows) :
  ∃p n c,v=.slice p n c/\n=rows.length:=by
 unfold rowsOf at hr
 split at hr
 ·cases hr;cases h;exact⟨_,_,_,rfl,rfl⟩
 ·cases hr;cases h;exact⟨_,_,_,rfl,rfl⟩
 ·cases hr;cases h;exact⟨_,_,_,rfl,rfl⟩
 ·cases hr;cases h;exact⟨_,_,_,rfl,rfl⟩
 ·rename_i id bP
  split at hr
  ·rename_i v' sz dy eG
   split at hr
   ·rename_i hv
    cases hr
    obtain⟨loc,hl,ho⟩:=hI.loc eG
    cases h with
    |mu _ _ _ loc' hp nA Cr he=>
     rw[hl]at nA;cases nA
     obtain⟨h1,h2,h3⟩:=ho
     refine⟨_,_,_,he (by omega),h3.len⟩
   ·cases hr
  ·cases hr
 ·cases hr
theorem aat {op:BinOp}{t yt:TypeId}{x y:Operand}(ho:o.op=.binOp op t x y yt){a b v:AV}(hv:zl op a b=some v)(ha:aL w G a (ρ x))(hb:aL w G b (ρ y)) :
  ∃u,(execOp ρ o).run P w=.ok (.value u) w/\aL w G v u/\v.bR=true:=by
 unfold zl at hv
 split at hv
 ·rename_i k p l q
  split at hv
  ·rename_i hk
   subst hk
   have hx:=ha.eS
   have hy:=hb.eS
   simp only[execOp,ho,hx,hy]
   have hg:∀op (w:World),(eqGuard op t x y (.int k p) (.int k q)).run P w=.ok () w:=λop w=>cq t (by simp) (by simp) op x y w
   cases op<;>simp only[jJ]at hv<;>(try (cases hv;done))<;>(try (split at hv;· cases hv))<;>cases hv
   all_goals first
    |(refine⟨_,?_,.int _ _,rfl⟩;simp[binOp,Op.intArith,Op.intBits,hg];done)
    |(refine⟨_,?_,.bool _,rfl⟩;simp[binOp,Op.intCmp,hg];done)
    |(rename_i h0;refine⟨_,?_,.int _ _,rfl⟩;simp[binOp,Op.intDiv,hg,if_neg h0];done)
  ·cases hv
 ·rename_i p q
  obtain⟨s,hx,rfl⟩:=ha.kM
  obtain⟨s',hy,rfl⟩:=hb.kM
  simp only[execOp,ho,hx,hy]
  have hg:∀op (w:World),(eqGuard op t x y (.string s) (.string s')).run P w=.ok () w:=λop w=>cq t (by simp) (by simp) op x y w
  have h1:s.data.toList.length=s.size:=by simp
  have h2:s'.data.toList.length=s'.size:=by simp
  split at hv
  ·split at hv
   ·rename_i hle
    cases hv
    refine⟨.string (s++s'),?_,.str _ _ (by simp),rfl⟩
    have:¬(((s.size+s'.size:Nat):Int) > IntKind.i64.max):=by
     rw[h1,h2]at hle
     have:IntKind.i64.max=9223372036854775807:=rfl
     omega
    simp only[binOp,Op.stringOp,Sem.run_bind,hg,Result.andThen_ok,if_neg this,Sem.run_pure]
   ·cases hv
  ·cases hv
   exact⟨_,by simp[binOp,Op.stringOp,hg,ByteArray.toList_eq],.bool _,rfl⟩
  ·cases hv
   exact⟨_,by simp[binOp,Op.stringOp,hg,ByteArray.toList_eq],.bool _,rfl⟩
  ·cases hv
 ·cases hv
theorem binOp_eql {x:Value}(h:J0 x)(t:TypeId)(y:Value):binOp .eql t x y=(do pure (.bool (<-Op.equal t x y))):=by
 obtain⟨h1,h2,h3,h4⟩:=h
 cases x<;>first|rfl|(cases y<;>first|rfl|simp_all)
theorem binOp_neq {x:Value}(h:J0 x)(t:TypeId)(y:Value):binOp .neq t x y=(do pure (.bool (!(<-Op.equal t x y)))):=by
 obtain⟨h1,h2,h3,h4⟩:=h
 cases x<;>first|rfl|(cases y<;>first|rfl|simp_all)
theorem aau {t yt:TypeId}{x y:Operand}{k:Za}{neg:Bool}(ho:o.op=.binOp (if neg then .neq else .eql) t x y yt)(ht:uy P t k=true){a b:AV}{r:Bool}(hr:Fw k a b=some r)
  (ha:aL w G a (ρ x)) (hb:aL w G b (ρ y)):∃u,(execOp ρ o).run P w=.ok (.value u) w/\aL w G (.bool (if neg then !r else r)) u:=by
 obtain⟨h1,h2,h3⟩:=RZ ht hr ha hb
 refine⟨_,?_,.bool _⟩
 simp only[execOp,ho]
 cases neg
 ·simp[h2,binOp_eql h3,h1]
 ·simp[h2,binOp_neq h3,h1]
theorem R3 {t yt:TypeId}{x y:Operand}{neg:Bool}(ho:o.op=.binOp (if neg then .neq else .eql) t x y yt)(ht:uy P t .sl=true){st:aj}(hI:Inv w G st){id bP v sz:Nat}{rows:List (List AV)}(eG:st[id]?=some (.rows v sz rows))(hv:v=bP)
  (ha:aL w G (.mu id bP) (ρ x)) (hb:aL w G .U (ρ y)):(execOp ρ o).run P w=.ok (.value (.bool neg)) w:=by
 obtain⟨loc,hl,R4⟩:=hI.loc eG
 obtain⟨e,hu⟩:=JZ ht
 have hy:ρ y=.slice none 0 0:=by
  generalize ρ y=z at hb
  cases hb;rfl
 obtain⟨p,n,c,hx⟩:∃p n c,ρ x=.slice (some p) n c:=by
  generalize ρ x=z at ha
  cases ha with
  |mu _ _ _ loc' hp nA Cr he=>
   rw[hl]at nA;cases nA
   obtain⟨h1,h2,h3⟩:=R4
   have hz:=he (by omega)
   rcases h3.nB with⟨_,_,h4⟩|⟨b,off,c,e,h4,_⟩
   ·obtain⟨a,ha⟩:=Option.isSome_iff_exists.1 h4
    rw[ha]at hz;exact⟨_,_,_,hz⟩
   ·rw[h4]at hz;exact⟨_,_,_,hz⟩
 have h1:(Op.equal t (ρ x) (ρ y)).run P w=.ok false w:=by
  have Nq:∀(q:Option Addr) (n c:Nat),(Op.equalIn (9999+1) t (.slice q n c) (.slice none 0 0)).run P w=.ok q.isNone w:=by
   generalize 9999=D
   intro q n c;cases q<;>simp[Op.equalIn,run_underlying hu]
  rw[hx,hy]
  unfold Op.equal Op.maxDepth
  exact Nq (some p) n c
 have h2:∀op (xo yo:Operand),(eqGuard op t xo yo (ρ x) (ρ y)).run P w=.ok () w:=by
  rw[hx,hy]
  exact λop xo yo=>cq t (by simp) (by simp) op xo yo w
 have h3:J0 (ρ x):=by
  rw[hx]
  exact⟨by simp,by simp,by simp,by simp⟩
 simp only[execOp,ho]
 cases neg
 ·simp[h2,binOp_eql h3,h1]
 ·simp[h2,binOp_neq h3,h1]
theorem ae1 {op:UnOp}{t:TypeId}{x:Operand}(ho:o.op=.unOp op t x){a v:AV}(hv:VX op a=some v)(ha:aL w G a (ρ x)) :
  ∃u,(execOp ρ o).run P w=.ok (.value u) w/\aL w G v u/\v.bR=true:=by
 unfold VX at hv
 split at hv
 ·rename_i k p
  split at hv
  ·cases hv
   refine⟨_,?_,.int _ _,rfl⟩
   simp only[execOp,ho,ha.eS]
   simp[Op.unary,Op.intArith]
  ·cases hv
 ·rename_i b
  split at hv
  ·cases hv
   refine⟨_,?_,.bool _,rfl⟩
   simp only[execOp,ho,ha.iR]
   simp[Op.unary]
  ·cases hv
 ·cases hv
theorem VZ {s d:TypeId}{x:Operand}{k k':IntKind}(ho:o.op=.convert s d x)(hs:P.underlying s=some (.int k'))(hd:P.underlying d=some (.int k)){l:IntKind}{n:Int}(ha:aL w G (.int l n) (ρ x)) :
  (execOp ρ o).run P w=.ok (.value (.int k (k.wrap n))) w:=by
 simp only[execOp,ho,ha.eS]
 simp[convert,run_underlying hs,run_underlying hd,Conv.intToInt]
theorem aav {c:Call}(ho:o.op=.call c)(hc:c.callee=.builtin .len){x:Operand}{t:TypeId}(hx:c.args.toList=[x])(ht:c.argTypes[0]?=some t){k:LK}
  (hu:match k with|.sl=>∃e,P.underlying t=some (.slice e)|.str=>P.underlying t=some .string|.mp=>∃k e,P.underlying t=some (.map k e))
  {st:aj} (hI:Inv w G st) {a:AV} {n:Nat} (hn:mc st k a=some n) (ha:aL w G a (ρ x)) :
  (execOp ρ o).run P w=.ok (.value (.int .i64 n)) w:=by
 have uI:c.args = #[x]:=by
  have:=congrArg List.toArray hx;simpa using this
 simp only[execOp,ho,resolve,hc,Sem.run_bind,Sem.run_pure,Result.andThen_ok,invoke,builtin,uI]
 simp only[Builtin.len_]
 unfold mc at hn
 split at hn
 ·obtain⟨s',UN,rfl⟩:=ha.kM
  cases hn
  simp[ht,run_underlying hu,UN,goInt]
 ·cases hn
  obtain⟨km,em,hu⟩:=hu
  cases h:ρ x<;>rw[h]at ha<;>cases ha
  simp[ht,run_underlying hu,goInt,h]
 ·obtain⟨km,em,hu⟩:=hu
  split at hn
  ·rename_i es eG
   cases hn
   obtain⟨loc,hl,R4⟩:=hI.loc eG
   generalize FI:ρ x=xv at ha
   cases ha with
   |map _ loc' b nA hm hb=>
    rw[hl]at nA;cases nA
    obtain⟨h1,h2,b',se,clock,h3,h4,h5,h6,h7⟩:=R4
    rw[hb]at h3;cases h3
    simp[ht,run_underlying hu,FI,goInt,getObj,Sem.run,h4,h6]
  ·cases hn
 ·obtain⟨e,hu⟩:=hu
  split at hn
  ·rename_i rows hr
   cases hn
   obtain⟨p,m,cc,UN,rfl⟩:=Nr hI ha hr
   simp[ht,run_underlying hu,UN,goInt]
  ·cases hn
 ·cases hn
end Ax
namespace Ax
open Go
theorem cZ {α:Type}:∀(cs:List α)(k:Nat)(vs:List α),(af cs k vs).length=cs.length
 |[],0,[]=>rfl
 |[],0,_::_=>rfl
 |[],_+1,_=>rfl
 |_::_,0,[]=>rfl
 |_::cs,0,_::vs=>by simp[af,cZ cs 0 vs]
 |_::cs,k+1,vs=>by simp[af,cZ cs k vs]
theorem iw {α:Type}:∀(cs:List α)(k:Nat)(vs:List α)(i:Nat),k+vs.length<=cs.length->
  (af cs k vs)[i]?=if k<=i/\i<k+vs.length then vs[i-k]? else cs[i]?
 |[],0,[],i,_=>by simp[af]
 |[],0,_::_,i,h=>by simp at h
 |[],k+1,vs,i,h=>by simp at h
 |c::cs,0,[],i,_=>by simp[af]
 |c::cs,0,v::vs,0,_=>by simp[af]
 |c::cs,0,v::vs,i+1,h=>by
  have:=iw cs 0 vs i (by simp at h ⊢;omega)
  simp only[af,List.getElem?_cons_succ,this,List.length_cons,Nat.zero_add,Nat.sub_zero,Nat.zero_le,true_and]
  by_cases hi:i<vs.length
  ·simp[hi]
  ·simp[hi]
 |c::cs,k+1,vs,0,h=>by simp[af]
 |c::cs,k+1,vs,i+1,h=>by
  have:=iw cs k vs i (by simp at h;omega)
  simp only[af,List.getElem?_cons_succ,this]
  by_cases hi:k<=i/\i<k+vs.length
  ·rw[if_pos hi,if_pos (by omega),show i+1-(k+1)=i-k by omega]
  ·rw[if_neg hi,if_neg (by omega)]
theorem iS {α:Type}(cs:List α)(k:Nat)(vs:List α)(h:k+vs.length<=cs.length):af cs k vs=cs.take k++vs++cs.drop (k+vs.length):=by
 apply List.ext_getElem?
 intro i
 rw[iw cs k vs i h]
 by_cases h1:i<k
 ·rw[if_neg (by omega),List.getElem?_append_left (by simp;omega),List.getElem?_append_left (by simp;omega),List.getElem?_take,if_pos h1]
 ·by_cases h2:i<k+vs.length
  ·rw[if_pos (by omega),List.getElem?_append_left (by simp;omega),List.getElem?_append_right (by simp;omega)]
   simp only[List.length_take]
   rw[Nat.min_eq_left (by omega)]
  ·rw[if_neg (by omega),List.getElem?_append_right (by simp;omega)]
   simp only[List.length_append,List.length_take,List.getElem?_drop]
   rw[Nat.min_eq_left (by omega)]
   congr 1
   omega
theorem Au (b:Nat)(xs:List Value):bM b [] xs=0:=by cases xs<;>rfl
theorem eL (b:Nat):∀(as bs:List AV)(xs ys:List Value),as.length=xs.length->bM b (as++bs) (xs++ys)=bM b as xs+bM b bs ys
 |[],bs,[],ys,_=>by simp[bM]
 |[],_,_::_,_,h=>by simp at h
 |_::_,_,[],_,h=>by simp at h
 |a::as,bs,x::xs,ys,h=>by
  simp only[List.cons_append,bM]
  rw[eL b as bs xs ys (by simpa using h)]
  omega
theorem jN (b n:Nat)(as:List AV)(xs:List Value)(h:as.length=xs.length):bM b as xs=bM b (as.take n) (xs.take n)+bM b (as.drop n) (xs.drop n):=by
 rw[<-eL b _ _ _ _ (by simp[h]),List.take_append_drop,List.take_append_drop]
theorem tN (b n:Nat)(as:List AV)(xs:List Value)(h:as.length=xs.length):bM b (as.drop n) (xs.drop n)<=bM b as xs:=by
 have:=jN b n as xs h;omega
theorem Ls (b n:Nat)(as:List AV)(xs:List Value)(h:as.length=xs.length):bM b (as.take n) (xs.take n)<=bM b as xs:=by
 have:=jN b n as xs h;omega
theorem oC (b:Nat)(as vs:List AV)(xs ys:List Value)(k:Nat)(h1:as.length=xs.length)(h2:vs.length=ys.length)(h:k+vs.length<=as.length) :
  bM b (af as k vs) (af xs k ys)<=bM b as xs+bM b vs ys:=by
 rw[iS _ _ _ h,iS _ _ _ (by omega)]
 rw[eL b _ _ _ _ (by simp;omega),eL b _ _ _ _ (by simp;omega)]
 have e1:=jN b k as xs h1
 have e2:=tN b vs.length (as.drop k) (xs.drop k) (by simp;omega)
 rw[List.drop_drop,List.drop_drop]at e2
 rw[h2]at *
 omega
section
variable {w:World}{G:aK}
theorem bV.af {as vs:List AV}{xs ys:List Value}(h:bV w G as xs)(k:bV w G vs ys){n:Nat}(hn:n+vs.length<=as.length):bV w G (Ax.af as n vs) (Ax.af xs n ys):=by
 refine⟨by rw[cZ,cZ];exact h.1,λi c v hc hv=>?_⟩
 have h1:=h.1
 have h2:=k.1
 rw[iw _ _ _ _ hn]at hc
 rw[iw _ _ _ _ (by omega)]at hv
 rw[<-h2]at hv
 split at hc
 ·rename_i hi;rw[if_pos hi]at hv;exact k.2 _ c v hc hv
 ·rename_i hi;rw[if_neg hi]at hv;exact h.2 _ c v hc hv
theorem aL.cells {a:AV}{v:Value}(h:aL w G a v):bV w G a.cells v.cells.toList/\∀b,bM b a.cells v.cells.toList=eH b a v:=by
 have one:∀{a:AV} {v:Value},aL w G a v->(∀cs,a≠.agg cs)->(∀cs,v≠.agg cs)->bV w G a.cells v.cells.toList/\∀b,bM b a.cells v.cells.toList=eH b a v:=by
  intro a v h h1 h2
  have e1:a.cells=[a]:=by cases a<;>first|rfl|exact absurd rfl (h1 _)
  have e2:v.cells = #[v]:=by cases v<;>first|rfl|exact absurd rfl (h2 _)
  rw[e1,e2]
  refine⟨⟨rfl,λi c x hc hx=>?_⟩,λb=>by simp[bM]⟩
  cases i with
  |zero=>simp at hc hx;subst hc;subst hx;exact h
  |succ i=>simp at hc
 cases a with
 |agg cs=>
  cases h with
  |agg _ vs hl hh=>exact⟨⟨by simpa [AV.cells,Value.cells] using hl,λi c x hc hx=>hh i c x hc (by simpa [Value.cells] using hx)⟩,λb=>by simp[AV.cells,Value.cells,eH]⟩
 |gone=>
  refine one h (by simp) λcs e=>?_
  subst e
  cases h with|gone _ h=>simp[Value.oneCell']at h
 |mu id bP=>
  refine one h (by simp) λcs e=>?_
  subst e
  cases h with|mu _ _ _ _ hp=>obtain⟨p,n,c,hp⟩:=hp;cases hp
 |ptr id bP i k=>
  refine one h (by simp) λcs e=>?_
  subst e
  cases h with|ptr _ _ _ _ _ _ hp=>obtain⟨p,hp⟩:=hp;cases hp
 |undef=>refine one h (by simp) λcs e=>?_;subst e;generalize hx:Value.agg cs=x at h;cases h;cases hx
 |bool _|int _ _|str _|dY|U|eX|gD|jj|fm _|cN _ _|own _ _|raw _ _|emp|nJ _ _ _ _|map _|fn _ _ _=>
  refine one h (by simp) λcs e=>?_;subst e;cases h
theorem Ns {a:AV}{v:Value}(h:aL w G a v)(hc:a.cv=true):v.oneCell'=true:=by
 cases h with
 |agg _ _ _ _=>simp[AV.cv]at hc
 |fm _ _ _ _=>simp[AV.cv]at hc
 |undef=>simp[AV.cv]at hc
 |gone _ h=>exact h
 |mu _ _ _ _ hp=>obtain⟨p,n,c,rfl⟩:=hp;rfl
 |ptr _ _ _ _ _ _ hp=>obtain⟨p,rfl⟩:=hp;rfl
 |_=>rfl
theorem bV.R5 {as:List AV}{xs:List Value}(h:bV w G as xs)(hc:AV.aH as=true):∀v∈xs,v.oneCell'=true:=by
 intro v hv
 obtain⟨i,hi,rfl⟩:=List.mem_iff_getElem.1 hv
 have n8:i<as.length:=by have:=h.1;omega
 refine Ns (h.2 i as[i] xs[i] (List.getElem?_eq_getElem n8) (List.getElem?_eq_getElem hi)) ?_
 simp only[AV.aH,List.all_eq_true]at hc
 exact hc _ (List.getElem_mem n8)
theorem bV.mono {as:List AV}{xs:List Value}{w':World}{G':aK}(h:bV w G as xs)(hs:pF w G w' G')(ho:∀b,0<bM b as xs->G'.kg b=G.kg b/\w'.heap[b]?=w.heap[b]?):bV w' G' as xs:=
 ⟨h.1,λi c v hc hv=>(h.2 i c v hc hv).iu hs λb hb=>ho b (by have:=sw b as xs i c v hc hv;omega)⟩
end
theorem Iy (off:Nat)(l:List Value)(cs:Array Value)(h:off+l.length<=cs.size) :
  (l.toArray.zipIdx.foldl (λcs (c,j)=>cs.setIfInBounds (off+j) c) cs).toList=af cs.toList off l:=by
 have key:∀(l:List Value) (s:Nat) (cs:Array Value),off+s+l.length<=cs.size->
   ((l.zipIdx s).foldl (λ(cs:Array Value) (x:Value×Nat)=>cs.setIfInBounds (off+x.2) x.1) cs).toList=af cs.toList (off+s) l:=by
  intro l
  induction l with
  |nil=>intro s cs h;simp;rw[iS _ _ _ (by simpa using h)];simp
  |cons v l ih=>
   intro s cs h
   simp only[List.length_cons]at h
   rw[List.zipIdx_cons,List.foldl_cons,ih (s+1) _ (by simp;omega)]
   simp only[Array.toList_setIfInBounds]
   apply List.ext_getElem?
   intro i
   rw[iw _ _ _ _ (by simp;omega),iw _ _ _ _ (by simp;omega)]
   simp only[List.length_cons]
   by_cases hi:i=off+s
   ·subst hi
    rw[if_neg (by omega),if_pos (by omega),List.getElem?_set_self (by simp;omega)]
    simp
   ·by_cases h2:off+s<=i/\i<off+s+(l.length+1)
    ·rw[if_pos (by omega),if_pos h2]
     have:i-(off+s)=(i-(off+(s+1)))+1:=by omega
     rw[this,List.getElem?_cons_succ]
    ·rw[if_neg (by omega),if_neg h2,List.getElem?_set,if_neg (by omega)]
 have:=key l 0 cs (by simpa using h)
 simp only[Nat.add_zero]at this
 rw[<-this,<-Array.foldl_toList]
 simp
end Ax
