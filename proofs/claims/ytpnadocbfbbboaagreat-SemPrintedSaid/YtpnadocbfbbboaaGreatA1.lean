/- Part of a proof. -/
import Derived.Calls
import Derived.Laws.Sem
import Derived.Laws.Entries
import Derived.ChangeKeysEq
import Derived.Laws.StructEq
import Derived.Laws.Pointers
import Derived.Great.FillDense

namespace Ax
open Go
inductive AV where
 |undef|gone
 |bool (b:Bool)|int (k:IntKind) (n:Int)|str (s:List UInt8)
 |cY|U|fU|jb|kC
 |agg (cs:List AV)|fF (vs:List AV)
 |dc (sz:Nat) (rows:List (List AV))
 |lA (sz:Nat) (rows:List (List AV))
 |raw (sz:Nat) (rows:List (List AV))
 |lU
 |mu (id b6:Nat)
 |ptr (id b6 i k:Nat)
 |qm (sz:Nat) (rows:List (List AV)) (i k:Nat)
 |map (id:Nat)
 |fn (f:Nat) (first lC:List AV)
 deriving Inhabited
mutual
def AV.au:AV->Bool
 |.mu _ _|.ptr _ _ _ _|.map _=>false|.agg cs|.fF cs=>AV.af cs|.fn _ a b=>AV.af a&&AV.af b|_=>true
def AV.af:List AV->Bool
 |[]=>true|v::r=>v.au&&AV.af r
end
mutual
def AV.aa:AV->AV
 |.lA sz rows=>.dc sz rows|.raw _ _=>.gone|.agg cs=>.agg (AV.cJ cs)|.fF cs=>.fF (AV.cJ cs)|v=>v
def AV.cJ:List AV->List AV
 |[]=>[]
 |v::r=>v.aa::AV.cJ r
end
mutual
def AV.jF:AV->AV->Bool
 |.undef,.undef|.gone,.gone|.cY,.cY|.U,.U|.fU,.fU|.jb,.jb|.kC,.kC|.lU,.lU=>true|.bool a,.bool b=>a==b|.int k a,.int l b=>k==l&&a==b|.str a,.str b=>a==b|.agg a,.agg b|.fF a,.fF b=>AV.vY a b|.dc s a,.dc t b|.lA s a,.lA t b|.raw s a,.raw t b=>s==t&&AV.uF a b|.mu i v,.mu j w=>i==j&&v==w|.ptr a b c d,.ptr a' b' c' d'=>a==a'&&b==b'&&c==c'&&d==d'|.qm s a i k,.qm t b j l=>s==t&&AV.uF a b&&i==j&&k==l|.map i,.map j=>i==j|.fn f a b,.fn g c d=>f==g&&AV.vY a c&&AV.vY b d|_,_=>false
def AV.vY:List AV->List AV->Bool
 |[],[]=>true|a::x,b::y=>a.jF b&&AV.vY x y|_,_=>false
def AV.uF:List (List AV)->List (List AV)->Bool
 |[],[]=>true|a::x,b::y=>AV.vY a b&&AV.uF x y|_,_=>false
end
def AV.cells:AV->List AV
 |.agg cs=>cs|v=>[v]
def AV.cL:AV->Bool
 |.agg _|.fF _|.undef=>false|_=>true
def AV.aO(cs:List AV):Bool:=cs.all AV.cL
def AV.kQ:AV->AV
 |.lA _ _=>.gone|.raw _ _=>.gone|v=>v
inductive eO where
 |none
 |val (v:AV)
 |fp (j k:Nat)
 deriving Inhabited
def eO.aa:eO->eO
 |.val v=>.val v.aa|e=>e
def eO.jF:eO->eO->Bool
 |.none,.none=>true|.val a,.val b=>a.jF b|.fp j k,.fp l m=>j==l&&k==m|_,_=>false
def eO.pB(j:Nat):eO->Bool
 |.fp j' _=>j' != j|_=>true
inductive fq where
 |rows (b6 sz:Nat) (rows:List (List AV))
 |map (es:List (AV×AV))
 deriving Inhabited
abbrev ai:=List fq
abbrev aX:=List (List AV)
inductive Src where
 |tmp (t:Nat) (mv:Bool)
 |const (a:AV)
 deriving Inhabited
abbrev pU:=List (Nat×eO)
def cK:pU->Nat->eO
 |[],_=>.none|(k,e)::r,t=>if k=t then e else cK r t
def vN:pU->Nat->eO->pU
 |[],t,e=>[(t,e)]
 |(k,x)::r,t,e=>if t<k then (t,e)::(k,x)::r else if t=k then (t,e)::r else (k,x)::vN r t e
def Co:pU->Nat->pU
 |[],_=>[]
 |(k,x)::r,t=>if k=t then Co r t else (k,x)::Co r t
def JN(env:pU):Src->eO
 |.tmp t true=>cK env t|.tmp t false=>(cK env t).aa|.const a=>.val a
def mE:pU->Src->pU
 |env,.tmp t true=>Co env t|env,_=>env
structure St where
 env:pU
 bx:aX
 st:ai
 deriving Inhabited
inductive Mode where
 |pure|mR|CN
 deriving DecidableEq,Inhabited
inductive SK where
 |bool|int|str
 deriving DecidableEq,Inhabited
inductive LK where
 |str|sl|mp
 deriving DecidableEq,Inhabited
inductive EqK where
 |sc (k:SK)
 |ptr|sl|fn
 |flat (ks:List SK)
 deriving DecidableEq,Inhabited
inductive ir where
 |move
 |pick
 |aJ (op:BinOp)
 |BH (k:EqK) (neg:Bool)
 |NX (neg:Bool)
 |un (op:UnOp)
 |conv (k:IntKind)
 |NY
 |len (k:LK)
 |yF (mx:Bool)
 |nilCheck
 |extract (i:Nat)
 |field (off n:Nat) (agg:Bool)
 |build (zero:List AV) (parts:List (Nat×Nat))
 |lit (sz n:Nat) (zero:List AV) (parts:List Nat)
 |Qc (sz n:Nat) (zero:List AV) (parts:List Nat)
 |fieldAddr (off:Nat)
 |indexAddr (sz:Nat)
 |index
 |slice (vZ lo hi mx:Bool) (sz:Nat)
 |pW (sz:Nat)
 |load (agg:Bool) (n:Nat) (take:Bool)
 |aL (j:Nat) (agg:Bool) (n:Nat) (take:Bool)
 |store (n:Nat)
 |aj (j n:Nat)
 |alloc (zero:List AV)
 |aN (j:Nat) (zero:List AV)
 |box (n:Nat)
 |iA (j n:Nat)
 |append (sz bytes:Nat)
 |kh (sz bytes:Nat)
 |qV (sz bytes:Nat) (zero:List AV) (mt:Bool)
 |zm (sz bytes:Nat) (zero:List AV)
 |sC (sz bytes:Nat) (zero:List AV)
 |Qd
 |makeMap
 |mapUpdate (kk:SK)
 |lookup (kk:SK) (zero:AV) (ok:Bool)
 |makeFunc (f akq:Nat)
 |call (f:Nat)
 |qW
 |copy (sz:Nat)
 deriving Inhabited
structure aY where
 dst:Option Nat
 op:ir
 args:List Src
 guard:Option (Nat×Bool)
 deriving Inhabited
inductive bE where
 |skip
 |region (cN:List aY) (draw:Option (List (Nat×Nat))) (di:List Nat)
 |seq (a b:bE)
 |cond (c:Src) (apK:List Nat) (thn:bE) (apL:List Nat) (Sh:bE)
 |block (id:Nat) (body:bE)
 |loop (body:bE)
 |exit (id:Nat)
 |ret
 |Qe (t:Nat)
 |Dl (j k:Nat)
 |xX (t off:Nat)
 deriving Inhabited
inductive kD where
 |tmp (t:Nat) (mv:Bool)
 |box (t j n:Nat) (agg:Bool)
 |cell (t:Nat) (n:Nat) (agg:Bool)
 deriving Inhabited
structure aD where
 eZ:Nat
 mode:Mode
 aE:Nat
 aM:Nat
 di:List Nat
 results:List kD
 body:bE
 deriving Inhabited
inductive Ex where
 |normal
 |exit (id:Nat)
 |ret (v:AV)
 deriving Inhabited
structure j4 where
 call:Nat->Nat->Nat->List AV->ai->Option (AV×ai)
 loop:Nat->Nat->List kD->bE->St->Option (Ex×St)
def dx:Nat:=140737488355328
def Fp:SK->AV->AV->Option Bool
 |.bool,.bool a,.bool b=>some (a==b)|.int,.int k a,.int l b=>if k=l then some (a==b) else none
 |.str,.str a,.str b=>some (a==b)|_,_,_=>none
def Fq:List SK->List AV->List AV->Option Bool
 |[],[],[]=>some true|k::ks,a::as,b::bs=>match Fp k a b,Fq ks as bs with
  |some p,some q=>some (p&&q)|_,_=>none
 |_,_,_=>none
def Ga:EqK->AV->AV->Option Bool
 |.sc k,a,b=>Fp k a b|.flat ks,.agg a,.agg b=>Fq ks a b|.ptr,.cY,.cY=>some true|.ptr,.cY,.ptr _ _ _ _|.ptr,.cY,.qm _ _ _ _|.ptr,.ptr _ _ _ _,.cY|.ptr,.qm _ _ _ _,.cY=>some false|.fn,.jb,.jb=>some true|.fn,.jb,.fn _ _ _|.fn,.fn _ _ _,.jb=>some false|.sl,.U,.U=>some true|.sl,.U,.dc _ _|.sl,.U,.lA _ _|.sl,.U,.lU|.sl,.dc _ _,.U|.sl,.lA _ _,.U|.sl,.lU,.U=>some false|_,_,_=>none
def lD(op:BinOp)(k:IntKind)(a b:Int):Option AV:=
 match op with
 |.add=>some (.int k (k.wrap (a+b)))|.sub=>some (.int k (k.wrap (a-b)))|.mul=>some (.int k (k.wrap (a*b)))|.quo=>if b=0 then none else some (.int k (k.wrap (a.tdiv b)))
 |.rem=>if b=0 then none else some (.int k (a.tmod b))
 |.and=>some (.int k (k.wrap ((BitVec.ofInt k.bits a &&& BitVec.ofInt k.bits b).toNat)))|.eql=>some (.bool (a==b))|.neq=>some (.bool (a != b))|.lss=>some (.bool (decide (a<b)))|.leq=>some (.bool (decide (a<=b)))|.gtr=>some (.bool (decide (a > b)))|.geq=>some (.bool (decide (a ≥ b)))|_=>none
def iT(op:BinOp):AV->AV->Option AV
 |.int k a,.int l b=>if k=l then lD op k a b else none
 |.str a,.str b=>
  match op with
  |.add=>if a.length+b.length<=4611686018427387904 then some (.str (a++b)) else none
  |.eql=>some (.bool (a==b))|.neq=>some (.bool (!(a==b)))|_=>none
 |_,_=>none
def unV(op:UnOp):AV->Option AV
 |.int k a=>match op with|.neg=>some (.int k (k.wrap (0-a)))|_=>none
 |.bool b=>match op with|.not=>some (.bool (!b))|_=>none
 |_=>none
def dD(st:ai):AV->Option (List (List AV))
 |.U|.lU=>some []|.dc _ rows|.lA _ rows=>some rows|.mu id b6=>match st[id]? with
  |some (.rows v _ rows)=>if v=b6 then some rows else none
  |_=>none
 |_=>none
def eR(s:List UInt8):List (List AV):=s.map λb=>[.int .u8 b.toNat]
def cV(st:ai):AV->Option (List (List AV))
 |.str s=>some (eR s)|.mu id b6=>match dD st (.mu id b6) with|some rows=>some (rows.map AV.cJ)|none=>none
 |v=>dD st v
def bV(sz:Nat)(rows:List (List AV)):Bool:=rows.all λr=>r.length==sz
def oD(st:ai):LK->AV->Option Nat
 |.str,.str s=>some s.length|.mp,.fU=>some 0|.mp,.map id=>match st[id]? with|some (.map es)=>some es.length|_=>none
 |.sl,v=>match dD st v with|some rows=>some rows.length|none=>none
 |_,_=>none
def cut(cs:List AV)(k n:Nat):Option (List AV):=if k+n<=cs.length then some ((cs.drop k).take n) else none
def jD(st:ai):AV->Nat->Option (List AV)
 |.ptr id b6 i k,n=>match st[id]? with
  |some (.rows v _ rows)=>if v=b6 then match rows[i]? with|some r=>cut r k n|none=>none else none
  |_=>none
 |.qm _ rows i k,n=>match rows[i]? with|some r=>cut r k n|none=>none
 |_,_=>none
def ah{α:Type}:List α->Nat->List α->List α
 |cs,0,[]=>cs|_::cs,0,v::vs=>v::ah cs 0 vs|c::cs,k+1,vs=>c::ah cs k vs|[],_,_=>[]
def bq(wl J id:Nat)(cells:List AV):Bool:=decide (wl<=id)&&(decide (J<=id)||AV.af cells)
def fV(wl J:Nat)(st:ai):AV->List AV->Option ai
 |.ptr id b6 i k,cells=>match st[id]? with
  |some (.rows v sz rows)=>
   if v=b6&&bq wl J id cells then
    match rows[i]? with
    |some r=>if k+cells.length<=r.length then some (st.set id (.rows v sz (rows.set i (ah r k cells)))) else none
    |none=>none
   else none
  |_=>none
 |_,_=>none
def ck(agg:Bool)(cells:List AV):Option AV:=
 if agg then some (.agg cells) else match cells with | [v]=>some v|_=>none
def iO:List AV->List (Nat×Nat)->List AV->Option (List AV)
 |cs,[],[]=>some cs|cs,(off,n)::ps,v::vs=>
  if v.cells.length=n&&off+n<=cs.length then iO (ah cs off v.cells) ps vs else none
 |_,_,_=>none
def fW(sz:Nat):List (List AV)->List Nat->List AV->Option (List (List AV))
 |rows,[],[]=>some rows|rows,i::ps,v::vs=>if v.cells.length=sz&&i<rows.length then fW sz (rows.set i v.cells) ps vs else none
 |_,_,_=>none
def sE(kk:SK)(k:AV):List (AV×AV)->Option (Option AV)
 |[]=>some none|(a,v)::r=>match Fp kk k a with|some true=>some (some v)|some false=>sE kk k r|none=>none
def Fx(kk:SK)(k v:AV):List (AV×AV)->Option (List (AV×AV))
 |[]=>some [(k,v)]|(a,u)::r=>match Fp kk k a with
  |some true=>some ((k,v)::r)|some false=>match Fx kk k v r with|some r'=>some ((a,u)::r')|none=>none
  |none=>none
def Gb:SK->AV->Bool
 |.int,.int _ _|.str,.str _|.bool,.bool _=>true|_,_=>false
def je:List eO->Option (List AV)
 |[]=>some []|.val v::r=>match je r with|some vs=>some (v::vs)|none=>none
 |_::_=>none
def oZ:List (List AV)->Option (List UInt8)
 |[]=>some []|[.int .u8 n]::r=>if 0<=n/\n<256 then match oZ r with|some l=>some (UInt8.ofNat n.toNat::l)|none=>none else none
 |_=>none
def sF(ct:Bool)(abp:Int)(l:List eO):Option (Int×List eO):=
 if ct then match l with|.val (.int .i64 n)::r=>some (n,r)|_=>none else some (abp,l)
def jJ(vZ:Bool)(sz:Nat)(x:AV)(lo hi:Int)(mx:Option Int):Option AV:=
 match vZ,x with
 |true,.str s=>if mx.isNone&&decide (0<=lo)&&decide (lo<=hi)&&decide (hi<=s.length) then some (.str ((s.take hi.toNat).drop lo.toNat)) else none
 |false,.U=>if lo=0&&hi=0&&(match mx with|some m=>m==0|none=>true) then some .U else none
 |false,.lU=>if lo=0&&hi=0&&(match mx with|some m=>m==0|none=>true) then some .lU else none
 |false,.dc s rows|false,.lA s rows=>
  match mx with
  |none=>if s=sz&&decide (0<=lo)&&decide (lo<=hi)&&decide (hi<=rows.length) then some (.dc sz ((rows.take hi.toNat).drop lo.toNat)) else none
  |some m=>if lo=0&&hi=0&&m=0 then some .lU else none
 |_,_=>none
def xY(wl J sz bytes:Nat)(s:AV)(new:List (List AV))(st:ai)(bx:aX):Option (eO×ai×aX):=
 if bV sz new then match s with
  |.U=>if new.isEmpty then some (.val .U,st,bx) else if new.length*bytes<=dx then some (.val (.mu st.length 0),st++[.rows 0 sz new],bx) else none
  |.lU=>if new.length*bytes<=dx then some (.val (.mu st.length 0),st++[.rows 0 sz new],bx) else none
  |.mu id b6=>match st[id]? with
   |some (.rows v jw old)=>
    if v=b6&&jw=sz&&decide ((old.length+new.length)*bytes<=dx)&&decide (wl<=id)&&(decide (J<=id)||new.all AV.af) then
     some (.val (.mu id (v+1)),st.set id (.rows (v+1) sz (old++new)),bx) else none
   |_=>none
  |_=>none else none
def aP(wl J:Nat)(op:ir)(vals:List eO)(st:ai)(bx:aX):Option (eO×ai×aX):=
 match op with
 |.move=>match vals with
  |[e]=>some (e,st,bx)|_=>none
 |.pick=>match vals with
  |[.val (.bool b),x,y]=>some (if b then x else y,st,bx)|_=>none
 |.aJ op=>match vals with
  |[.val x,.val y]=>match iT op x y with|some v=>some (.val v,st,bx)|none=>none
  |_=>none
 |.BH k neg=>match vals with
  |[.val x,.val y]=>match Ga k x y with|some b=>some (.val (.bool (if neg then !b else b)),st,bx)|none=>none
  |_=>none
 |.NX neg=>match vals with
  |[.val (.mu id b6),.val .U]=>match st[id]? with
   |some (.rows v _ _)=>if v=b6 then some (.val (.bool neg),st,bx) else none
   |_=>none
  |_=>none
 |.un op=>match vals with
  |[.val x]=>match unV op x with|some v=>some (.val v,st,bx)|none=>none
  |_=>none
 |.conv k=>match vals with
  |[.val (.int _ n)]=>some (.val (.int k (k.wrap n)),st,bx)|_=>none
 |.NY=>match vals with
  |[.val x]=>match dD st x with
   |some rows=>match oZ rows with|some s=>some (.val (.str s),st,bx)|none=>none
   |none=>none
  |_=>none
 |.len k=>match vals with
  |[.val x]=>match oD st k x with|some n=>some (.val (.int .i64 n),st,bx)|none=>none
  |_=>none
 |.yF mx=>match vals with
  |[.val (.int k a),.val (.int l b)]=>
   if k=l then some (.val (.int k (if mx then (if b > a then b else a) else (if b<a then b else a))),st,bx) else none
  |_=>none
 |.nilCheck=>match vals with
  |[.fp j k]=>some (.fp j k,st,bx)|[.val x]=>match x with
   |.ptr .. | .qm ..=>some (.val x,st,bx)|_=>none
  |_=>none
 |.extract i=>match vals with
  |[.val (.fF vs)]=>match vs[i]? with|some v=>some (.val v,st,bx)|none=>none
  |_=>none
 |.field off n agg=>match vals with
  |[.val (.agg cs)]=>match cut cs off n with
   |some r=>match ck agg r with|some v=>some (.val v,st,bx)|none=>none
   |none=>none
  |_=>none
 |.build zero parts=>match vals with
  |l=>match je l with
   |some vs=>match iO zero parts vs with|some cs=>some (.val (.agg cs),st,bx)|none=>none
   |none=>none
 |.lit sz n zero parts=>match vals with
  |l=>match je l with
   |some vs=>match fW sz (List.replicate n zero) parts (AV.cJ vs) with
    |some rows=>if rows.all AV.af&&rows.all AV.aO then some (.val (if n=0 then .lU else .dc sz rows),st,bx) else none
    |none=>none
   |none=>none
 |.Qc sz n zero parts=>match vals with
  |l=>match je l with
   |some vs=>match fW sz (List.replicate n zero) parts vs with
    |some rows=>if rows.all AV.aO&&decide (0<n) then some (.val (.mu st.length 0),st++[.rows 0 sz rows],bx) else none
    |none=>none
   |none=>none
 |.fieldAddr off=>match vals with
  |[.fp j k]=>some (.fp j (k+off),st,bx)|[.val (.ptr id b6 i k)]=>some (.val (.ptr id b6 i (k+off)),st,bx)|[.val (.qm sz rows i k)]=>some (.val (.qm sz rows i (k+off)),st,bx)|_=>none
 |.indexAddr sz=>match vals with
  |[.val x,.val (.int .i64 i)]=>match x with
   |.dc s rows|.lA s rows=>if s=sz&&decide (0<=i)&&decide (i<rows.length) then some (.val (.qm sz rows i.toNat 0),st,bx) else none
   |.mu id b6=>match st[id]? with
    |some (.rows v s rows)=>if v=b6&&s=sz&&decide (0<=i)&&decide (i<rows.length) then some (.val (.ptr id b6 i.toNat 0),st,bx) else none
    |_=>none
   |_=>none
  |_=>none
 |.index=>match vals with
  |[.val (.str s),.val (.int .i64 i)]=>
   if 0<=i then match s[i.toNat]? with|some b=>some (.val (.int .u8 b.toNat),st,bx)|none=>none else none
  |_=>none
 |.slice vZ lo hi mx sz=>match vals with
  |.val x::l=>match oD st (if vZ then .str else .sl) x with
   |none=>none|some n=>match sF lo 0 l with
    |none=>none|some (a,l)=>match sF hi n l with
     |none=>none|some (b,l)=>match mx,l with
      |false,[]=>match jJ vZ sz x a b none with|some v=>some (.val v,st,bx)|none=>none
      |true,[.val (.int .i64 m)]=>match jJ vZ sz x a b (some m) with|some v=>some (.val v,st,bx)|none=>none
      |_,_=>none
  |_=>none
 |.pW sz=>match vals with
  |[.val (.mu id b6),.val (.int .i64 hi)]=>match st[id]? with
   |some (.rows v s rows)=>if v=b6&&s=sz&&decide (0<=hi)&&decide (hi<=rows.length)&&decide (wl<=id) then
     some (.val (.mu id (v+1)),st.set id (.rows (v+1) s (rows.take hi.toNat)),bx) else none
   |_=>none
  |_=>none
 |.load agg n take=>match vals with
  |[.val p]=>match jD st p n with
   |some cs=>
    if take then
     match fV wl J st p (cs.map AV.kQ),ck agg cs with
     |some st',some v=>some (.val v,st',bx)|_,_=>none
    else match ck agg (AV.cJ cs) with|some v=>some (.val v,st,bx)|none=>none
   |none=>none
  |_=>none
 |.aL j agg n take=>match vals with
  |[.fp j' k]=>if j=j' then match bx[j]? with
    |some aG=>match cut aG k n with
     |some cs=>
      if take then match ck agg cs with|some v=>some (.val v,st,bx.set j (ah aG k (cs.map AV.kQ)))|none=>none
      else match ck agg (AV.cJ cs) with|some v=>some (.val v,st,bx)|none=>none
     |none=>none
    |none=>none
   else none
  |_=>none
 |.store n=>match vals with
  |[.val p,.val v]=>if v.cells.length=n&&AV.aO v.cells then
    match fV wl J st p v.cells with|some st'=>some (.none,st',bx)|none=>none else none
  |_=>none
 |.aj j n=>match vals with
  |[.fp j' k,.val v]=>if j=j'&&v.cells.length=n&&AV.aO v.cells then match bx[j]? with
    |some aG=>if k+n<=aG.length then some (.none,st,bx.set j (ah aG k v.cells)) else none
    |none=>none
   else none
  |_=>none
 |.alloc zero=>match vals with
  |[]=>some (.val (.ptr st.length 0 0 0),st++[.rows 0 zero.length [zero]],bx)|_=>none
 |.aN j zero=>match vals with
  |[]=>if j<bx.length then some (.fp j 0,st,bx.set j zero) else none
  |_=>none
 |.box n=>match vals with
  |[.val v]=>if v.cells.length=n&&AV.aO v.cells then some (.val (.ptr st.length 0 0 0),st++[.rows 0 n [v.cells]],bx) else none
  |_=>none
 |.iA j n=>match vals with
  |[.val v]=>if j<bx.length&&v.cells.length=n&&AV.aO v.cells then some (.fp j 0,st,bx.set j v.cells) else none
  |_=>none
 |.append sz bytes=>match vals with
  |[.val s,.val x]=>match cV [] x with
   |none=>none|some new=>if bV sz new then match s with
    |.U|.lU=>if new.isEmpty then some (.val s,st,bx) else if new.length*bytes<=dx then some (.val (.lA sz new),st,bx) else none
    |.lA jw old=>if jw=sz&&decide ((old.length+new.length)*bytes<=dx) then some (.val (.lA sz (old++new)),st,bx) else none
    |_=>none else none
  |_=>none
 |.kh sz bytes=>match vals with
  |[.val s,.val x]=>match cV st x with
   |none=>none|some new=>xY wl J sz bytes s new st bx
  |_=>none
 |.qV sz bytes zero mt=>match vals with
  |[.val (.int .i64 n),.val (.int .i64 c)]=>
   if 0<=n/\n<=c/\c*bytes<=dx/\zero.length=sz then
    if mt then some (.val (.mu st.length 0),st++[.rows 0 sz (List.replicate n.toNat zero)],bx)
    else if AV.af zero then some (.val (.lA sz (List.replicate n.toNat zero)),st,bx) else none
   else none
  |_=>none
 |.zm sz bytes zero=>match vals with
  |[.val (.int .i64 n),.val (.int .i64 c)]=>
   if 0<=n/\n<=c/\c*bytes<=dx/\zero.length=sz/\AV.af zero=true then some (.val (.raw sz (List.replicate n.toNat zero)),st,bx) else none
  |_=>none
 |.sC sz bytes zero=>match vals with
  |[.val s,.val (.int .i64 n)]=>
   if 0<=n/\n*bytes<=dx/\zero.length=sz/\AV.af zero=true then xY wl J sz bytes s (List.replicate n.toNat zero) st bx else none
  |_=>none
 |.Qd=>match vals with
  |[.val .U]=>some (.val (.int .i64 0),st,bx)|_=>none
 |.makeMap=>match vals with
  |[]=>some (.val (.map st.length),st++[.map []],bx)|_=>none
 |.mapUpdate kk=>match vals with
  |[.val (.map id),.val k,.val v]=>match st[id]? with
   |some (.map es)=>if Gb kk k&&bq wl J id [v] then match Fx kk k v.aa es with|some r7=>some (.none,st.set id (.map r7),bx)|none=>none else none
   |_=>none
  |_=>none
 |.lookup kk zero ok=>match vals with
  |[.val m,.val k]=>
   match (match m with|.fU=>some []|.map id=>(match st[id]? with|some (.map es)=>some es|_=>none)|_=>none) with
   |none=>none|some es=>if Gb kk k then match sE kk k es with
    |none=>none|some r=>let v:=r.getD zero
     some (.val (if ok then .fF [v,.bool r.isSome] else v),st,bx)
    else none
  |_=>none
 |.makeFunc f n=>match vals with
  |l=>match je l with
   |some vs=>some (.val (.fn f (AV.cJ (vs.take n)) (AV.cJ (vs.drop n))),st,bx)|none=>none
 |.copy sz=>match vals with
  |[.val (.mu id b6),.val x]=>match st[id]?,cV st x with
   |some (.rows v jw old),some new=>
    if v=b6&&jw=sz&&bV sz new&&decide (new.length<=old.length)&&decide (wl<=id)&&(decide (J<=id)||new.all AV.af) then
     some (.val (.int .i64 new.length),st.set id (.rows v sz (new++old.drop new.length)),bx) else none
   |_,_=>none
  |_=>none
 |.call _|.qW=>none
def mF:ir->List eO->Option (Nat×List AV)
 |.call f,l=>match je l with
  |some vs=>some (f,vs)|none=>none
 |.qW,.val (.fn f first lC)::l=>match je l with
  |some vs=>some (f,first++vs++lC)|none=>none
 |_,_=>none
def fN(O:j4)(wl J:Nat)(x:Option (Nat×List AV))(st:ai)(bx:aX):Option (eO×ai×aX):=
 match x with
 |some (f,vs)=>match O.call wl J f vs st with|some (v,st')=>some (.val v,st',bx)|none=>none
 |none=>none
def tC(O:j4)(wl J:Nat)(op:ir)(vals:List eO)(st:ai)(bx:aX):Option (eO×ai×aX):=
 match op with
 |.call f=>fN O wl J (mF (.call f) vals) st bx|.qW=>fN O wl J (mF .qW vals) st bx|op=>aP wl J op vals st bx
def ir.b8:ir->Option Nat
 |.aN j _|.iA j _=>some j|_=>none
def xZ(env:pU)(dst:Option Nat)(e:eO):pU:=
 match dst with
 |some d=>vN env d e|none=>env
def mL(env:pU):Option (Nat×Bool)->Option Bool
 |none=>some true|some (t,b)=>match cK env t with
  |.val (.bool c)=>some (c==b)|.val .undef=>some false|_=>none
def pX(j:Nat)(env:pU):Bool:=env.all λx=>x.2.pB j
def gO(O:j4)(wl J:Nat)(o:aY)(s:St):Option St:=
 match mL s.env o.guard with
 |none=>none|some false=>some { s with env:=xZ s.env o.dst (.val .undef) }|some true=>
  match tC O wl J o.op (o.args.map (JN s.env)) s.st s.bx with
  |none=>none|some (e,st',fH)=>
   match o.op.b8 with
   |none=>some ⟨xZ (o.args.foldl mE s.env) o.dst e,fH,st'⟩|some j=>if pX j (xZ (o.args.foldl mE s.env) o.dst .none) then some ⟨xZ (o.args.foldl mE s.env) o.dst e,fH,st'⟩ else none
def fB(O:j4)(wl J:Nat):List aY->St->Option St
 |[],s=>some s|o::l,s=>match gO O wl J o s with|some s'=>fB O wl J l s'|none=>none
def eH(O:j4)(wl J:Nat):List aY->St->Option (St×List St)
 |[],s=>some (s,[s])|o::l,s=>match gO O wl J o s with
  |some s'=>match eH O wl J l s' with|some (e,l')=>some (e,s::l')|none=>none
  |none=>none
def dV(O:j4)(wl J:Nat)(o:aY)(s t:St)(st:ai):Bool:=
 match mL s.env o.guard with
 |none=>false|some false=>true|some true=>
  match tC O wl J o.op (o.args.map (JN s.env)) st s.bx with
  |some (e,_,_)=>(match o.dst with|some d=>(cK t.env d).jF e|none=>false)
  |none=>false
def xSt(wl J:Nat)(cN:List aY)(iB:List St)(p q:Nat):Option ai:=
 match cN[p]?,iB[p]?,cN[q]?,iB[q]? with
 |some a,some s,some b,some t=>
  match a.op,a.args.map (JN s.env),b.op,b.args.map (JN t.env) with
  |.store _,[.val (.ptr i _ _ _),.val _],.store m,[.val (.ptr j v x y),.val u]=>
   if i=j then none else match aP wl J (.store m) [.val (.ptr j v x y),.val u] s.st [] with
   |some (_,X,_)=>some X|none=>none
  |_,_,_,_=>none
 |_,_,_,_=>none
def jx(O:j4)(wl J:Nat)(cN:List aY)(iB:List St):Nat×Nat->Bool
 |(q,w)=>if q<100000 then match cN[q]?,iB[q]?,iB[q+1]?,iB[w]?,iB[w+1]? with
   |some o,some s,some t,some a,some b=>dV O wl J o s t a.st&&dV O wl J o s t b.st|_,_,_,_,_=>false
  else match xSt wl J cN iB (q % 100000) w with
   |none=>false|some X=>if q<200000 then true else match cN[q / 100000-2]?,iB[q / 100000-2]?,iB[q / 100000-2+1]? with
    |some o,some s,some t=>dV O wl J o s t X|_,_,_=>false
def bD(env:pU)(o:aY):Bool:=match o.op.b8 with|some j=>pX j env|none=>true
def fY(O:j4)(wl J:Nat)(cN:List aY)(bG:List (Nat×Nat))(s:St):Option St:=
 match eH O wl J cN s with
 |none=>none|some (e,iB)=>
  if bG.all (jx O wl J cN iB)&&cN.all (bD s.env) then some e else none
def iU:List Nat->pU->pU
 |[],env=>env|t::l,env=>iU l (Co env t)
def qX(env:pU)(c:Src):Option Bool:=
 match JN env c with
 |.val (.bool b)=>some b|_=>none
def qo(wl:Nat)(v:AV)(st:ai):Option (AV×ai):=
 match v with
 |.mu id b6=>match st[id]? with
  |some (.rows v sz rows)=>if v=b6&&rows.all AV.af && !rows.isEmpty&&decide (wl<=id) then some (.dc sz (rows.map AV.cJ),st.set id (.rows (v+1) sz [])) else none
  |_=>none
 |v=>if v.au&&v.cL then some (v.aa,st) else none
def ki(wl:Nat):List AV->ai->Option (List AV×ai)
 |[],st=>some ([],st)|v::l,st=>match qo wl v st with
  |some (v',st')=>match ki wl l st' with
   |some (l',JW)=>some (v'::l',JW)|none=>none
  |none=>none
def kE(wl:Nat):List (List AV)->ai->Option (List (List AV)×ai)
 |[],st=>some ([],st)|r::l,st=>match ki wl r st with
  |some (r',st')=>match kE wl l st' with
   |some (l',JW)=>some (r'::l',JW)|none=>none
  |none=>none
def iI(wl:Nat)(v:AV)(st:ai):Option (AV×ai):=
 match v with
 |.mu id b6=>match st[id]? with
  |some (.rows v sz rows)=>if v=b6 && !rows.isEmpty&&decide (wl<=id) then
    match kE wl rows (st.set id (.rows (v+1) sz [])) with
    |some (ee,st')=>some (.dc sz ee,st')|none=>none
   else none
  |_=>none
 |.U=>some (.U,st)|_=>none
def qp(wl:Nat)(v:AV)(st:ai):Option (AV×ai):=
 match v with
 |.raw sz rows=>some (.mu st.length 0,st++[.rows 0 sz rows])|v=>iI wl v st
def Dn(s:St):kD->Option AV
 |.tmp t mv=>match JN s.env (.tmp t mv) with|.val v=>some v|_=>none
 |.box t j n agg=>match cK s.env t,s.bx[j]? with|.fp i 0,some aG=>if i=j&&aG.length=n then ck agg aG else none|_,_=>none
 |.cell t n agg=>match cK s.env t with
  |.val p=>match jD s.st p n with|some cs=>ck agg (AV.cJ cs)|none=>none
  |_=>none
def yG(s:St):List kD->Option (List AV)
 |[]=>some []|r::l=>match Dn s r,yG s l with
  |some v,some vs=>some (v::vs)|_,_=>none
def x3(s:St)(l:List kD):Option AV:=
 match yG s l with
 |some [v]=>some v|some vs=>some (.fF vs)|none=>none
def iu(O:j4)(wl J:Nat)(rs:List kD):bE->St->Option (Ex×St)
 |.skip,s=>some (.normal,s)|.region cN draw di,s=>
  match (match draw with|none=>fB O wl J cN s|some bG=>fY O wl J cN bG s) with
  |some s'=>some (.normal,{ s' with env:=iU di s'.env })|none=>none
 |.seq a b,s=>match iu O wl J rs a s with
  |some (.normal,s')=>iu O wl J rs b s'|r=>r
 |.cond c ca a cb b,s=>match qX s.env c with
  |some true=>iu O wl J rs a { s with env:=iU ca (mE s.env c) }|some false=>iu O wl J rs b { s with env:=iU cb (mE s.env c) }|none=>none
 |.block id c,s=>match iu O wl J rs c s with
  |some (.exit id',s')=>if id'=id then some (.normal,s') else some (.exit id',s')
  |r=>r
 |.loop c,s=>O.loop wl J rs c s|.exit id,s=>some (.exit id,s)|.ret,s=>match x3 s rs with|some v=>some (.ret v,⟨[],[],s.st⟩)|none=>none
 |.Qe t,s=>match cK s.env t with
  |.val v=>match iI wl v s.st with
   |some (v',st')=>some (.normal,⟨vN s.env t (.val v'),s.bx,st'⟩)|none=>none
  |_=>none
 |.Dl j k,s=>match s.bx[j]? with
  |some aG=>match aG[k]? with
   |some v=>match iI wl v s.st with
    |some (v',st')=>some (.normal,⟨s.env,s.bx.set j (ah aG k [v']),st'⟩)|none=>none
   |none=>none
  |none=>none
 |.xX t off,s=>match cK s.env t with
  |.val (.ptr id b6 i k)=>match jD s.st (.ptr id b6 i (k+off)) 1 with
   |some [v]=>match qp wl v s.st with
    |some (v',st')=>match fV wl J st' (.ptr id b6 i (k+off)) [v'] with
     |some qg=>some (.normal,⟨s.env,s.bx,qg⟩)|none=>none
    |none=>none
   |_=>none
  |_=>none
def Gc:Nat->List AV->pU
 |_,[]=>[]
 |k,v::r=>(k,.val v)::Gc (k+1) r
def Mode.yH:Mode->Nat->Nat->Nat
 |.pure,n,_=>n|_,_,wl=>wl
def Mode.qY:Mode->Nat->Nat->Nat
 |.CN,_,J=>J|_,n,_=>n
def Mode.mM(m:Mode)(st:ai)(v:AV)(st':ai):Option (AV×ai):=
 match m with
 |.pure=>if v.au then some (v,st) else none
 |.mR=>if v.au then some (v,st'.take st.length) else none
 |.CN=>some (v,st')
def Fy(rs:List kD):Ex->St->Option AV
 |.exit _,_=>none|.ret v,_=>some v|.normal,s=>x3 s rs
def qZ(sf:aD)(args:List AV)(st:ai):St:=⟨iU sf.di (Gc 0 args),List.replicate sf.aM [],st⟩
def dh(O:j4)(wl J:Nat)(sf:aD)(args:List AV)(st:ai):Option (AV×ai):=
 if args.length=sf.aE then
  match iu O (sf.mode.yH st.length wl) (sf.mode.qY st.length J) sf.results sf.body (qZ sf args st) with
  |some (x,s)=>match Fy sf.results x s with
   |some v=>sf.mode.mM st v s.st|none=>none
  |none=>none
 else none
def sG(sf:aD)(args:List AV):Bool:=decide (sf.mode=.pure)&&AV.af args
def eA(O:j4)(wl J:Nat)(sf:aD)(args:List AV)(st:ai):Option (AV×ai):=
 if sG sf args then (dh O 0 0 sf args []).map λr=>(r.1,st) else dh O wl J sf args st
def pY(S:Nat->Option aD):Nat->j4
 |0=>⟨λ_ _ _ _ _=>none,λ_ _ _ _ _=>none⟩
 |n+1=>
  ⟨λwl J f args st=>match S f with
   |some sf=>eA (pY S n) wl J sf args st|none=>none,
   λwl J rs c s=>match iu (pY S n) wl J rs c s with
   |some (.normal,s')=>(pY S n).loop wl J rs c s'|r=>r⟩
def Si(W0 HO:List (Option aD))(n:Nat):Option aD:=if n<100000 then (W0[n]?).getD none else (HO[n-100000]?).getD none
end Ax
namespace Ax
open Go
structure j4.le (A B:j4):Prop where
 call:∀wl J f args st r,A.call wl J f args st=some r->B.call wl J f args st=some r
 loop:∀wl J rs c s r,A.loop wl J rs c s=some r->B.loop wl J rs c s=some r
theorem j4.le_refl(A:j4):A.le A:=⟨λ_ _ _ _ _ _ h=>h,λ_ _ _ _ _ _ h=>h⟩
theorem j4.le_trans{A B C:j4}(h:A.le B)(k:B.le C):A.le C:=
 ⟨λ_ _ _ _ _ _ x=>k.call _ _ _ _ _ _ (h.call _ _ _ _ _ _ x),λ_ _ _ _ _ _ x=>k.loop _ _ _ _ _ _ (h.loop _ _ _ _ _ _ x)⟩
structure Sup (o:Nat->j4)(L:j4):Prop where
 mono:∀n,(o n).le (o (n+1))
 call:∀wl J f args st r,L.call wl J f args st=some r->∃n,(o n).call wl J f args st=some r
 loop:∀wl J rs c s r,L.loop wl J rs c s=some r->∃n,(o n).loop wl J rs c s=some r
theorem Sup.le{o:Nat->j4}{L:j4}(h:Sup o L)(n k:Nat):(o n).le (o (n+k)):=by
 induction k with
 |zero=>exact j4.le_refl _|succ k ih=>exact j4.le_trans ih (h.mono (n+k))
theorem JX(A B:j4)(wl J:Nat)(op:ir)(vals:List eO)(st:ai)(bx:aX)(h1:∀f,op≠.call f)(h2:op≠.qW) :
  tC A wl J op vals st bx=tC B wl J op vals st bx:=by
 cases op<;>first|rfl|exact absurd rfl (h1 _)|exact absurd rfl h2
theorem zn{A B:j4}(sH:A.le B){wl J:Nat}{x:Option (Nat×List AV)}{st:ai}{bx:aX}{r:eO×ai×aX}
  (h:fN A wl J x st bx=some r):fN B wl J x st bx=some r:=by
 unfold fN at h ⊢;split at h;rename_i f vs;cases hc:A.call wl J f vs st with
 |none=>simp[hc]at h|some x=>rw[hc]at h;rw[sH.call _ _ _ _ _ _ hc];exact h
 cases h
theorem JY{A B:j4}(sH:A.le B){wl J:Nat}{op:ir}{vals:List eO}{st:ai}{bx:aX}{r:eO×ai×aX}
  (h:tC A wl J op vals st bx=some r):tC B wl J op vals st bx=some r:=by
 by_cases h1:∃f,op=.call f;obtain⟨f,rfl⟩:=h1;exact zn sH h;by_cases h2:op=.qW;subst h2;exact zn sH h;rw[<-JX A B wl J op vals st bx (λf e=>h1 ⟨f,e⟩) h2];exact h
theorem sI{A B:j4}(sH:A.le B){wl J:Nat}{o:aY}{s r:St}(h:gO A wl J o s=some r):gO B wl J o s=some r:=by
 unfold gO at h ⊢;split at h;cases h;exact h;split at h;cases h;rename_i e st' fH ha;rw[JY sH ha];exact h
theorem uG{A B:j4}(sH:A.le B){wl J:Nat}:∀{l:List aY}{s r:St},fB A wl J l s=some r->fB B wl J l s=some r
 |[],_,_,h=>h|o::l,s,r,h=>by
  unfold fB at h ⊢;split at h;rename_i s' hs;rw[sI sH hs];exact uG sH h;cases h
theorem qq{A B:j4}(sH:A.le B){wl J:Nat}:∀{l:List aY}{s:St} {r},eH A wl J l s=some r->eH B wl J l s=some r
 |[],_,_,h=>h|o::l,s,r,h=>by
  unfold eH at h ⊢;split at h;rename_i s' hs;rw[sI sH hs];split at h;rename_i e l' hr;simp only[qq sH hr];exact h;cases h;cases h
theorem lE{A B:j4}(sH:A.le B){wl J:Nat}{o:aY}{s t:St}{st:ai}(h:dV A wl J o s t st=true):dV B wl J o s t st=true:=by
 unfold dV at h ⊢;split at h;cases h
 rfl
 split at h;rename_i e _ _ ha;rw[JY sH ha];exact h;cases h
theorem sJ{A B:j4}(sH:A.le B){wl J:Nat}{cN:List aY}{iB:List St}{x:Nat×Nat}(h:jx A wl J cN iB x=true):jx B wl J cN iB x=true:=by
 obtain⟨q,w⟩:=x;unfold jx at h ⊢;by_cases h1:q<100000;simp only[h1,if_true]at h ⊢;split at h;simp only[Bool.and_eq_true]at h ⊢;exact⟨lE sH h.1,lE sH h.2⟩;cases h;simp only[h1,if_false]at h ⊢;split at h;cases h;by_cases h2:q<200000;simp only[h2,if_true];simp only[h2,if_false]at h ⊢;split at h;exact lE sH h;cases h
theorem Fz{A B:j4}(sH:A.le B){wl J:Nat}{cN:List aY}{bG:List (Nat×Nat)}{s r:St}(h:fY A wl J cN bG s=some r):fY B wl J cN bG s=some r:=by
 unfold fY at h ⊢;split at h;cases h;rename_i e iB hr;split at h;rename_i hc;cases h;rw[qq sH hr];simp only[Bool.and_eq_true,List.all_eq_true]at hc;have h1:bG.all (jx B wl J cN iB)=true:=by
  rw[List.all_eq_true];exact λx hx=>sJ sH (hc.1 x hx)
 have h2:cN.all (bD s.env)=true:=by
  rw[List.all_eq_true];exact hc.2
 simp only[h1,h2,Bool.and_self,if_true];cases h
theorem lF{A B:j4}(sH:A.le B){wl J:Nat}{rs:List kD}:∀{c:bE}{s:St} {r},iu A wl J rs c s=some r->iu B wl J rs c s=some r
 |.skip,_,_,h=>h|.region cN draw di,s,r,h=>by
  unfold iu at h ⊢;cases draw with
  |none=>
   simp only at h ⊢;split at h;rename_i s' hs;rw[uG sH hs];exact h;cases h
  |some bG=>
   simp only at h ⊢;split at h;rename_i s' hs;rw[Fz sH hs];exact h;cases h
 |.seq a b,s,r,h=>by
  unfold iu at h ⊢;cases ha:iu A wl J rs a s with
  |none=>rw[ha]at h;cases h|some x=>
   rw[ha]at h;rw[lF sH ha];obtain⟨e,s'⟩:=x;cases e with
   |normal=>exact lF sH h|exit id=>exact h|ret v=>exact h
 |.cond c ca a cb b,s,r,h=>by
  unfold iu at h ⊢;split at h;exact lF sH h;exact lF sH h;cases h
 |.block id c,s,r,h=>by
  unfold iu at h ⊢;cases ha:iu A wl J rs c s with
  |none=>rw[ha]at h;cases h|some x=>rw[ha]at h;rw[lF sH ha];exact h
 |.loop c,s,r,h=>sH.loop _ _ _ _ _ _ h|.exit id,s,r,h=>h|.ret,s,r,h=>h|.Qe t,s,r,h=>h|.Dl j k,s,r,h=>h|.xX t off,s,r,h=>h
theorem v7{A B:j4}(sH:A.le B){wl J:Nat}{sf:aD}{args:List AV}{st:ai} {r}(h:dh A wl J sf args st=some r):dh B wl J sf args st=some r:=by
 unfold dh at h ⊢;split at h;rename_i hl;rw[if_pos hl];cases hs:iu A (sf.mode.yH st.length wl) (sf.mode.qY st.length J) sf.results sf.body (qZ sf args st) with
 |none=>rw[hs]at h;cases h|some x=>rw[hs]at h;rw[lF sH hs];exact h
 cases h
theorem yd{A B:j4}(sH:A.le B){wl J:Nat}{sf:aD}{args:List AV}{st:ai} {r}(h:eA A wl J sf args st=some r):eA B wl J sf args st=some r:=by
 unfold eA at h ⊢;split at h;rename_i Mg;rw[if_pos Mg];cases hc:dh A 0 0 sf args [] with
 |none=>rw[hc]at h;cases h|some x=>rw[hc]at h;rw[v7 sH hc];exact h
 rename_i Mg;rw[if_neg Mg];exact v7 sH h
theorem Dp(S:Nat->Option aD):∀n,(pY S n).le (pY S (n+1))
 |0=>⟨λ_ _ _ _ _ _ h=>(nomatch h),λ_ _ _ _ _ _ h=>(nomatch h)⟩
 |n+1=>by
  have ih:=Dp S n;constructor;intro wl J f args st r h;show (match S f with|some sf=>eA (pY S (n+1)) wl J sf args st|none=>none)=some r;change (match S f with|some sf=>eA (pY S n) wl J sf args st|none=>none)=some r at h;cases hf:S f with
  |none=>rw[hf]at h;cases h|some sf=>rw[hf]at h;exact yd ih h
  intro wl J rs c s r h;show (match iu (pY S (n+1)) wl J rs c s with|some (.normal,s')=>(pY S (n+1)).loop wl J rs c s'|r=>r)=some r;change (match iu (pY S n) wl J rs c s with|some (.normal,s')=>(pY S n).loop wl J rs c s'|r=>r)=some r at h;cases hs:iu (pY S n) wl J rs c s with
  |none=>rw[hs]at h;cases h|some x=>
   rw[hs]at h;rw[lF ih hs];obtain⟨e,s'⟩:=x;cases e with
   |normal=>exact ih.loop _ _ _ _ _ _ h|exit id=>exact h|ret v=>exact h
open Classical in
noncomputable def aT (S:Nat->Option aD):j4:=
 ⟨λwl J f args st=>if h:∃n r,(pY S n).call wl J f args st=some r then some h.choose_spec.choose else none,
  λwl J rs c s=>if h:∃n r,(pY S n).loop wl J rs c s=some r then some h.choose_spec.choose else none⟩
theorem AQ(S:Nat->Option aD)(n k:Nat):(pY S n).le (pY S (n+k)):=by
 induction k with
 |zero=>exact j4.le_refl _|succ k ih=>exact j4.le_trans ih (Dp S (n+k))
theorem tU(S:Nat->Option aD):Sup (pY S) (aT S) where
 mono:=Dp S
 call:=λwl J f args st r h=>by
  unfold aT at h;simp only at h;split at h;rename_i hx;cases h;exact⟨_,hx.choose_spec.choose_spec⟩;cases h
 loop:=λwl J rs c s r h=>by
  unfold aT at h;simp only at h;split at h;rename_i hx;cases h;exact⟨_,hx.choose_spec.choose_spec⟩;cases h
theorem qt(S:Nat->Option aD)(n:Nat):(pY S n).le (aT S) where
 call:=λwl J f args st r h=>by
  have hx:∃n r,(pY S n).call wl J f args st=some r:=⟨n,r,h⟩;have:(aT S).call wl J f args st=some hx.choose_spec.choose:=by unfold aT;simp only;rw[dif_pos hx]
  have h2:=hx.choose_spec.choose_spec;have a:=(AQ S n hx.choose).call _ _ _ _ _ _ h;have b:=(AQ S hx.choose n).call _ _ _ _ _ _ h2;rw[Nat.add_comm]at b;exact this.trans (b.symm.trans a)
 loop:=λwl J rs c s r h=>by
  have hx:∃n r,(pY S n).loop wl J rs c s=some r:=⟨n,r,h⟩;have:(aT S).loop wl J rs c s=some hx.choose_spec.choose:=by unfold aT;simp only;rw[dif_pos hx]
  have h2:=hx.choose_spec.choose_spec;have a:=(AQ S n hx.choose).loop _ _ _ _ _ _ h;have b:=(AQ S hx.choose n).loop _ _ _ _ _ _ h2;rw[Nat.add_comm]at b;exact this.trans (b.symm.trans a)
section
variable {o:Nat->j4}{L:j4}(hs:Sup o L){wl J:Nat}
include hs
theorem BI{x:Option (Nat×List AV)}{st:ai}{bx:aX}{r:eO×ai×aX}
  (h:fN L wl J x st bx=some r):∃n,fN (o n) wl J x st bx=some r:=by
 unfold fN at h;split at h;rename_i f vs;cases hc:L.call wl J f vs st with
 |none=>simp[hc]at h|some x=>
  obtain⟨n,hn⟩:=hs.call _ _ _ _ _ _ hc;refine⟨n,?_⟩;rw[hc]at h;unfold fN;simp only;rw[hn];exact h
 cases h
theorem NZ{op:ir}{vals:List eO}{st:ai}{bx:aX}{r:eO×ai×aX}
  (h:tC L wl J op vals st bx=some r):∃n,tC (o n) wl J op vals st bx=some r:=by
 by_cases h1:∃f,op=.call f;obtain⟨f,rfl⟩:=h1;exact BI hs h;by_cases h2:op=.qW;subst h2;exact BI hs h;exact⟨0,by rw[<-JX L (o 0) wl J op vals st bx (λf e=>h1 ⟨f,e⟩) h2];exact h⟩
theorem Dq{p:aY}{s r:St}(h:gO L wl J p s=some r):∃n,gO (o n) wl J p s=some r:=by
 unfold gO at h;split at h;cases h;rename_i hw;exact⟨0,by unfold gO;rw[hw];exact h⟩;rename_i hw;split at h;cases h;rename_i e st' fH ha;obtain⟨n,hn⟩:=NZ hs ha;exact⟨n,by unfold gO;rw[hw];simp only;rw[hn];exact h⟩
theorem BJ:∀{l:List aY}{s r:St},fB L wl J l s=some r->∃n,fB (o n) wl J l s=some r
 |[],_,_,h=>⟨0,h⟩
 |p::l,s,r,h=>by
  unfold fB at h;split at h;rename_i s' hp;obtain⟨n,hn⟩:=Dq hs hp;obtain⟨m,hm⟩:=BJ h;refine⟨n+m,?_⟩;unfold fB;rw[sI (hs.le n m) hn];simp only;exact uG (by rw[Nat.add_comm];exact hs.le m n) hm;cases h
theorem BK:∀{l:List aY}{s:St} {r},eH L wl J l s=some r->∃n,eH (o n) wl J l s=some r
 |[],_,_,h=>⟨0,h⟩
 |p::l,s,r,h=>by
  unfold eH at h;split at h;rename_i s' hp;split at h;rename_i e l' hr;obtain⟨n,hn⟩:=Dq hs hp;obtain⟨m,hm⟩:=BK hr;refine⟨n+m,?_⟩;unfold eH;rw[sI (hs.le n m) hn];simp only;rw[qq (by rw[Nat.add_comm];exact hs.le m n) hm];exact h;cases h;cases h
theorem tD{p:aY}{s t:St}{st:ai}(h:dV L wl J p s t st=true):∃n,dV (o n) wl J p s t st=true:=by
 unfold dV at h;split at h;cases h;rename_i hw;exact⟨0,by unfold dV;rw[hw]⟩;rename_i hw;split at h;rename_i e a b ha;obtain⟨n,hn⟩:=NZ hs ha;exact⟨n,by unfold dV;rw[hw];simp only;rw[hn];exact h⟩;cases h
theorem Mq{cN:List aY}{iB:List St}{x:Nat×Nat}(h:jx L wl J cN iB x=true):∃n,jx (o n) wl J cN iB x=true:=by
 obtain⟨q,w⟩:=x;unfold jx at h ⊢;by_cases h1:q<100000;simp only[h1,if_true]at h ⊢;split at h;simp only[Bool.and_eq_true]at h ⊢;obtain⟨n,hn⟩:=tD hs h.1;obtain⟨m,hm⟩:=tD hs h.2;exact⟨n+m,lE (hs.le n m) hn,lE (by rw[Nat.add_comm];exact hs.le m n) hm⟩;cases h;simp only[h1,if_false]at h ⊢;split at h;cases h;by_cases h2:q<200000;simp only[h2,if_true,exists_const];simp only[h2,if_false]at h ⊢;split at h;exact tD hs h;cases h
theorem Ge{cN:List aY}{iB:List St}:∀{l:List (Nat×Nat)},l.all (jx L wl J cN iB)=true->∃n,l.all (jx (o n) wl J cN iB)=true
 |[],_=>⟨0,rfl⟩
 |x::l,h=>by
  simp only[List.all_cons,Bool.and_eq_true]at h;obtain⟨n,hn⟩:=Mq hs h.1;obtain⟨m,hm⟩:=Ge h.2;refine⟨n+m,?_⟩;simp only[List.all_cons,Bool.and_eq_true];refine⟨sJ (hs.le n m) hn,?_⟩;rw[List.all_eq_true]at hm ⊢;exact λx hx=>sJ (by rw[Nat.add_comm];exact hs.le m n) (hm x hx)
theorem HP{cN:List aY}{bG:List (Nat×Nat)}{s r:St}(h:fY L wl J cN bG s=some r):∃n,fY (o n) wl J cN bG s=some r:=by
 unfold fY at h;split at h;cases h;rename_i e iB hr;split at h;rename_i hc;cases h;simp only[Bool.and_eq_true]at hc;obtain⟨n,hn⟩:=BK hs hr;obtain⟨m,hm⟩:=Ge hs hc.1;refine⟨n+m,?_⟩;unfold fY;rw[qq (hs.le n m) hn];have:bG.all (jx (o (n+m)) wl J cN iB)=true:=by
  rw[List.all_eq_true]at hm ⊢;exact λx hx=>sJ (by rw[Nat.add_comm];exact hs.le m n) (hm x hx)
 simp only[this,hc.2,Bool.and_self,if_true];cases h
theorem uH{rs:List kD}:∀{c:bE}{s:St} {r},iu L wl J rs c s=some r->∃n,iu (o n) wl J rs c s=some r
 |.skip,_,_,h=>⟨0,h⟩
 |.region cN draw di,s,r,h=>by
  unfold iu at h;cases draw with
  |none=>
   simp only at h;split at h;rename_i s' hp;obtain⟨n,hn⟩:=BJ hs hp;exact⟨n,by unfold iu;simp only;rw[hn];exact h⟩;cases h
  |some bG=>
   simp only at h;split at h;rename_i s' hp;obtain⟨n,hn⟩:=HP hs hp;exact⟨n,by unfold iu;simp only;rw[hn];exact h⟩;cases h
 |.seq a b,s,r,h=>by
  unfold iu at h;cases ha:iu L wl J rs a s with
  |none=>rw[ha]at h;cases h|some x=>
   rw[ha]at h;obtain⟨n,hn⟩:=uH ha;obtain⟨e,s'⟩:=x;cases e with
   |normal=>
    obtain⟨m,hm⟩:=uH h;refine⟨n+m,?_⟩;unfold iu;rw[lF (hs.le n m) hn];exact lF (by rw[Nat.add_comm];exact hs.le m n) hm
   |exit id=>exact⟨n,by unfold iu;rw[hn];exact h⟩|ret v=>exact⟨n,by unfold iu;rw[hn];exact h⟩
 |.cond c ca a cb b,s,r,h=>by
  unfold iu at h;split at h;rename_i hb;obtain⟨n,hn⟩:=uH h;exact⟨n,by unfold iu;rw[hb];exact hn⟩;rename_i hb;obtain⟨n,hn⟩:=uH h;exact⟨n,by unfold iu;rw[hb];exact hn⟩;cases h
 |.block id c,s,r,h=>by
  unfold iu at h;cases ha:iu L wl J rs c s with
  |none=>rw[ha]at h;cases h|some x=>
   rw[ha]at h;obtain⟨n,hn⟩:=uH ha;exact⟨n,by unfold iu;rw[hn];exact h⟩
 |.loop c,s,r,h=>hs.loop _ _ _ _ _ _ h|.exit id,s,r,h=>⟨0,h⟩
 |.ret,s,r,h=>⟨0,h⟩
 |.Qe t,s,r,h=>⟨0,h⟩
 |.Dl j k,s,r,h=>⟨0,h⟩
 |.xX t off,s,r,h=>⟨0,h⟩
theorem ye{sf:aD}{args:List AV}{st:ai} {r}(h:dh L wl J sf args st=some r):∃n,dh (o n) wl J sf args st=some r:=by
 unfold dh at h;split at h;rename_i hl;cases hx:iu L (sf.mode.yH st.length wl) (sf.mode.qY st.length J) sf.results sf.body (qZ sf args st) with
 |none=>rw[hx]at h;cases h|some x=>
  rw[hx]at h;obtain⟨n,hn⟩:=uH hs hx;exact⟨n,by unfold dh;rw[if_pos hl,hn];exact h⟩
 cases h
theorem HQ{sf:aD}{args:List AV}{st:ai} {r}(h:eA L wl J sf args st=some r):∃n,eA (o n) wl J sf args st=some r:=by
 unfold eA at h;split at h;rename_i Mg;cases hc:dh L 0 0 sf args [] with
 |none=>rw[hc]at h;cases h|some x=>
  rw[hc]at h;obtain⟨n,hn⟩:=ye hs hc;exact⟨n,by unfold eA;rw[if_pos Mg,hn];exact h⟩
 rename_i Mg;obtain⟨n,hn⟩:=ye hs h;exact⟨n,by unfold eA;rw[if_neg Mg];exact hn⟩
end
theorem N0{α:Type}{a b:Option α}(h:∀r,a=some r↔b=some r):a=b:=by
 cases a with
 |none=>cases b with
  |none=>rfl|some y=>exact absurd ((h y).2 rfl) (by simp)
 |some x=>exact((h x).1 rfl).symm
theorem AS(S:Nat->Option aD)(wl J f:Nat)(args:List AV)(st:ai) :
  (aT S).call wl J f args st=match S f with
   |some sf=>eA (aT S) wl J sf args st|none=>none:=by
 refine N0 λr=>⟨λh=>?_,λh=>?_⟩;obtain⟨n,hn⟩:=(tU S).call _ _ _ _ _ _ h;cases n with
 |zero=>cases hn|succ n=>
  change (match S f with|some sf=>eA (pY S n) wl J sf args st|none=>none)=some r at hn;cases hf:S f with
  |none=>rw[hf]at hn;cases hn|some sf=>rw[hf]at hn;exact yd (qt S n) hn
 cases hf:S f with
 |none=>rw[hf]at h;cases h|some sf=>
  rw[hf]at h;obtain⟨n,hn⟩:=HQ (tU S) h;refine(qt S (n+1)).call _ _ _ _ _ _ ?_;show (match S f with|some sf=>eA (pY S n) wl J sf args st|none=>none)=some r;rw[hf];exact hn
theorem Qf(S:Nat->Option aD)(wl J:Nat)(rs:List kD)(c:bE)(s:St) :
  (aT S).loop wl J rs c s=match iu (aT S) wl J rs c s with
   |some (.normal,s')=>(aT S).loop wl J rs c s'|r=>r:=by
 refine N0 λr=>⟨λh=>?_,λh=>?_⟩;obtain⟨n,hn⟩:=(tU S).loop _ _ _ _ _ _ h;cases n with
 |zero=>cases hn|succ n=>
  change (match iu (pY S n) wl J rs c s with|some (.normal,s')=>(pY S n).loop wl J rs c s'|r=>r)=some r at hn;cases hx:iu (pY S n) wl J rs c s with
  |none=>rw[hx]at hn;cases hn|some x=>
   rw[hx]at hn;rw[lF (qt S n) hx];obtain⟨e,s'⟩:=x;cases e with
   |normal=>exact(qt S n).loop _ _ _ _ _ _ hn|exit id=>exact hn|ret v=>exact hn
 cases hx:iu (aT S) wl J rs c s with
 |none=>rw[hx]at h;cases h|some x=>
  rw[hx]at h;obtain⟨n,hn⟩:=uH (tU S) hx;obtain⟨e,s'⟩:=x;have key:∀m,(pY S m).le (aT S):=qt S;cases e with
  |normal=>
   obtain⟨m,hm⟩:=(tU S).loop _ _ _ _ _ _ h;refine(qt S (n+m+1)).loop _ _ _ _ _ _ ?_;show (match iu (pY S (n+m)) wl J rs c s with|some (.normal,s')=>(pY S (n+m)).loop wl J rs c s'|r=>r)=some r;rw[lF (AQ S n m) hn];exact(by rw[Nat.add_comm];exact AQ S m n:(pY S m).le (pY S (n+m))).loop _ _ _ _ _ _ hm
  |exit id=>
   refine(qt S (n+1)).loop _ _ _ _ _ _ ?_;show (match iu (pY S n) wl J rs c s with|some (.normal,s')=>(pY S n).loop wl J rs c s'|r=>r)=some r;rw[hn];exact h
  |ret v=>
   refine(qt S (n+1)).loop _ _ _ _ _ _ ?_;show (match iu (pY S n) wl J rs c s with|some (.normal,s')=>(pY S n).loop wl J rs c s'|r=>r)=some r;rw[hn];exact h
end Ax
namespace Ax
theorem Dr{O:j4}{wl J:Nat}{rs:List kD}{t off:Nat}{s s':St}{x:Ex}(h:iu O wl J rs (.xX t off) s=some (x,s')) :
  x=.normal/\∃id b6 i k v v' rf qg,cK s.env t=.val (.ptr id b6 i k)/\jD s.st (.ptr id b6 i (k+off)) 1=some [v]/\qp wl v s.st=some (v',rf)/\fV wl J rf (.ptr id b6 i (k+off)) [v']=some qg/\s'=⟨s.env,s.bx,qg⟩:=by
 unfold iu at h;split at h;rename_i id b6 i k h1;split at h;rename_i v h2;split at h;rename_i v' rf h3;split at h;rename_i qg h4;cases h;exact⟨rfl,id,b6,i,k,v,v',rf,qg,h1,h2,h3,h4,rfl⟩;cases h;cases h;cases h;cases h
end Ax
namespace Ax
open Go
mutual
def AV.b9:AV->Bool
 |.lA _ _|.raw _ _=>false|.agg cs|.fF cs=>AV.dN cs|_=>true
def AV.dN:List AV->Bool
 |[]=>true|v::r=>v.b9&&AV.dN r
end
structure lB where
 a:Option Addr
 cap:Nat
 len:Nat
 sz:Nat
 b6:Nat
 mp:Bool
 vals:List (List Value)
def lB.hd(l:lB):Option Addr×Nat×Nat×Nat×Bool:=(l.a,l.cap,l.len,l.sz,l.mp)
structure aQ where
 ls:List lB
 mj:Nat->Option Nat
def Imm(w:World)(G:aQ)(b o:Nat):Prop:=b<w.heap.size/\∀p,G.mj b=some p->o<p
inductive aS (w:World) (G:aQ):AV->Value->Prop
 |undef:aS w G .undef Go.undef
 |gone (v:Value) (h:v.oneCell'=true):aS w G .gone v
 |bool (b:Bool):aS w G (.bool b) (.bool b)
 |int (k:IntKind) (n:Int):aS w G (.int k n) (.int k n)
 |str (l:List UInt8) (s:ByteArray) (h:s.data.toList=l):aS w G (.str l) (.string s)
 |cY:aS w G .cY (.pointer none)
 |U:aS w G .U (.slice none 0 0)
 |fU:aS w G .fU (.map none)
 |jb:aS w G .jb .nilFunc
 |kC:aS w G .kC .nilIface
 |agg (cs:List AV) (vs:Array Value) (hl:cs.length=vs.size) (h:∀(i:Nat) c v,cs[i]?=some c->vs[i]?=some v->aS w G c v):aS w G (.agg cs) (.agg vs)
 |fF (cs:List AV) (vs:Array Value) (hl:cs.length=vs.size) (h:∀(i:Nat) c v,cs[i]?=some c->vs[i]?=some v->aS w G c v):aS w G (.fF cs) (.tuple vs)
 |dc (sz:Nat) (rows:List (List AV)) (a:Addr) (cap:Nat) (oF:a.spot=none) (fI:rows.length<=cap) (cI:bV sz rows=true)
   (iz:∀r∈rows,AV.dN r=true) (pC:∀r∈rows,AV.af r=true) (w9:∀r∈rows,AV.aO r=true)
   (hc:∀(i:Nat) r (j:Nat) c,rows[i]?=some r->r[j]?=some c->Imm w G a.block (a.off+(i*sz+j))/\∃v,w.cell? ⟨a.block,a.off+(i*sz+j),none⟩=some v)
   (hr:∀(i:Nat) r (j:Nat) c v,rows[i]?=some r->r[j]?=some c->w.cell? ⟨a.block,a.off+(i*sz+j),none⟩=some v->aS w G c v) :
   aS w G (.dc sz rows) (.slice (some a) rows.length cap)
 |lA (sz:Nat) (rows:List (List AV)) (a:Addr) (cap:Nat) (oF:a.spot=none) (fI:rows.length<=cap) (cI:bV sz rows=true)
   (iz:∀r∈rows,AV.dN r=true) (pC:∀r∈rows,AV.af r=true) (w9:∀r∈rows,AV.aO r=true)
   (hc:∀(i:Nat) r (j:Nat) c,rows[i]?=some r->r[j]?=some c->∃v,w.cell? ⟨a.block,a.off+(i*sz+j),none⟩=some v)
   (hr:∀(i:Nat) r (j:Nat) c v,rows[i]?=some r->r[j]?=some c->w.cell? ⟨a.block,a.off+(i*sz+j),none⟩=some v->aS w G c v)
   (iC:G.mj a.block=some (a.off+rows.length*sz))
   (fD:∃c e,w.heap[a.block]?=some (.cells c e (0,0))/\a.off+cap*sz<=c.size) :
   aS w G (.lA sz rows) (.slice (some a) rows.length cap)
 |raw (sz:Nat) (rows:List (List AV)) (a:Addr) (cap:Nat) (oF:a.spot=none) (fI:rows.length<=cap) (cI:bV sz rows=true)
   (iz:∀r∈rows,AV.dN r=true) (pC:∀r∈rows,AV.af r=true) (w9:∀r∈rows,AV.aO r=true)
   (hc:∀(i:Nat) r (j:Nat) c,rows[i]?=some r->r[j]?=some c->∃v,w.cell? ⟨a.block,a.off+(i*sz+j),none⟩=some v)
   (hr:∀(i:Nat) r (j:Nat) c v,rows[i]?=some r->r[j]?=some c->w.cell? ⟨a.block,a.off+(i*sz+j),none⟩=some v->aS w G c v)
   (iC:G.mj a.block=some 0)
   (fD:∃c e,w.heap[a.block]?=some (.cells c e (0,0))/\a.off+cap*sz<=c.size) :
   aS w G (.raw sz rows) (.slice (some a) rows.length cap)
 |lU (a:Addr):aS w G .lU (.slice (some a) 0 0)
 |mu (id b6:Nat) (v:Value) (loc:lB) (hp:∃p n c,v=.slice p n c) (hl:G.ls[id]?=some loc) (hv:b6<=loc.b6) (he:b6=loc.b6->v=.slice loc.a loc.len loc.cap):aS w G (.mu id b6) v
 |ptr (id b6 i k:Nat) (v:Value) (loc:lB) (hp:∃a,v=.pointer (some a)) (hl:G.ls[id]?=some loc) (hv:b6<=loc.b6)
   (he:b6=loc.b6->∃a,loc.a=some a/\v=.pointer (some ⟨a.block,a.off+(i*loc.sz+k),none⟩)):aS w G (.ptr id b6 i k) v
 |qm (sz:Nat) (rows:List (List AV)) (i k:Nat) (a:Addr) (cap:Nat) (hs:aS w G (.dc sz rows) (.slice (some a) rows.length cap)) :
   aS w G (.qm sz rows i k) (.pointer (some ⟨a.block,a.off+(i*sz+k),none⟩))
 |map (id:Nat) (loc:lB) (b:Nat) (hl:G.ls[id]?=some loc) (hm:loc.mp=true) (hb:loc.a=some ⟨b,0,none⟩):aS w G (.map id) (.map (some b))
 |fn (f:Nat) (first lC:List AV) (vf vc:Array Value) (hl:first.length=vf.size) (hm:lC.length=vc.size)
   (hn:AV.dN first=true/\AV.dN lC=true/\f<100000)
   (h:∀(i:Nat) c v,first[i]?=some c->vf[i]?=some v->aS w G c v) (k:∀(i:Nat) c v,lC[i]?=some c->vc[i]?=some v->aS w G c v) :
   aS w G (.fn f first lC) (.func (.func f) vf vc)
mutual
def fG(b:Nat):AV->Value->Nat
 |.lA _ _,.slice (some a) _ _=>if a.block=b then 1 else 0
 |.raw _ _,.slice (some a) _ _=>if a.block=b then 1 else 0
 |.agg cs,.agg vs=>bU b cs vs.toList|.fF cs,.tuple vs=>bU b cs vs.toList|_,_=>0
def bU(b:Nat):List AV->List Value->Nat
 |c::cs,v::vs=>fG b c v+bU b cs vs|_,_=>0
end
theorem v8(b:Nat):∀(cs:List AV)(vs:List Value)(i:Nat)(c:AV)(v:Value),cs[i]?=some c->vs[i]?=some v->fG b c v<=bU b cs vs
 |[],_,_,_,_,h,_=>by simp at h|_::_,[],_,_,_,_,h=>by simp at h|c::cs,v::vs,0,c',v',h,k=>by
  simp at h k;subst h;subst k;simp only[bU];omega
 |c::cs,v::vs,i+1,c',v',h,k=>by
  simp at h k;have:=v8 b cs vs i c' v' h k;simp only[bU];omega
mutual
theorem eS(b:Nat):∀(a:AV)(v:Value),a.b9=true->fG b a v=0
 |.lA _ _,_,h=>by simp[AV.b9]at h|.raw _ _,_,h=>by simp[AV.b9]at h|.agg cs,.agg vs,h=>by simp only[fG];exact dy b cs vs.toList (by simpa [AV.b9] using h)|.fF cs,.tuple vs,h=>by simp only[fG];exact dy b cs vs.toList (by simpa [AV.b9] using h)
 |.undef,_,_|.gone,_,_|.bool _,_,_|.int _ _,_,_|.str _,_,_|.cY,_,_|.U,_,_|.fU,_,_|.jb,_,_|.kC,_,_
 |.dc _ _,_,_|.lU,_,_|.mu _ _,_,_|.ptr _ _ _ _,_,_|.qm _ _ _ _,_,_|.map _,_,_|.fn _ _ _,_,_=>by simp[fG]
 |.agg cs,.bool _,_|.agg cs,.int _ _,_|.agg cs,.float _ _,_|.agg cs,.complex _ _ _,_|.agg cs,.string _,_|.agg cs,.pointer _,_|.agg cs,.slice _ _ _,_
 |.agg cs,.map _,_|.agg cs,.chan _,_|.agg cs,.func _ _ _,_|.agg cs,.nilFunc,_|.agg cs,.iface _ _,_|.agg cs,.nilIface,_|.agg cs,.tuple _,_=>by simp[fG]
 |.fF cs,.bool _,_|.fF cs,.int _ _,_|.fF cs,.float _ _,_|.fF cs,.complex _ _ _,_|.fF cs,.string _,_|.fF cs,.pointer _,_|.fF cs,.slice _ _ _,_
 |.fF cs,.map _,_|.fF cs,.chan _,_|.fF cs,.func _ _ _,_|.fF cs,.nilFunc,_|.fF cs,.iface _ _,_|.fF cs,.nilIface,_|.fF cs,.agg _,_=>by simp[fG]
theorem dy(b:Nat):∀(cs:List AV)(vs:List Value),AV.dN cs=true->bU b cs vs=0
 |[],_,_=>by simp[bU]|_::_,[],_=>by simp[bU]|c::cs,v::vs,h=>by
  simp[AV.dN]at h;simp only[bU,eS b c v h.1,dy b cs vs h.2]
end
mutual
theorem uI:∀a:AV,a.aa.b9=true
 |.lA _ _=>by simp[AV.aa,AV.b9]|.raw _ _=>by simp[AV.aa,AV.b9]|.agg cs=>by simp only[AV.aa,AV.b9];exact gf cs|.fF cs=>by simp only[AV.aa,AV.b9];exact gf cs|.undef|.gone|.bool _|.int _ _|.str _|.cY|.U|.fU|.jb|.kC|.dc _ _|.lU|.mu _ _|.ptr _ _ _ _|.qm _ _ _ _|.map _|.fn _ _ _=>by simp[AV.aa,AV.b9]
theorem gf:∀cs:List AV,AV.dN (AV.cJ cs)=true
 |[]=>rfl|c::cs=>by simp only[AV.cJ,AV.dN,uI c,gf cs,Bool.and_self]
end
theorem xd:∀(cs:List AV)(i:Nat),(AV.cJ cs)[i]?=(cs[i]?).map AV.aa
 |[],i=>by simp[AV.cJ]|c::cs,0=>by simp[AV.cJ]|c::cs,i+1=>by simp[AV.cJ,xd cs i]
theorem nF:∀(cs:List AV),(AV.cJ cs).length=cs.length
 |[]=>rfl|c::cs=>by simp[AV.cJ,nF cs]
theorem cA:∀(cs:List AV),AV.dN cs=true↔∀c∈cs,c.b9=true
 |[]=>by simp[AV.dN]|c::cs=>by simp[AV.dN,cA cs]
theorem gh:∀(cs:List AV),AV.af cs=true↔∀c∈cs,c.au=true
 |[]=>by simp[AV.af]|c::cs=>by simp[AV.af,gh cs]
theorem cQ{α:Type}{l:List α}{i:Nat}{x:α}(h:l[i]?=some x):x∈l:=List.mem_of_getElem? h
structure sK (w:World)(G:aQ)(w':World)(G':aQ):Prop where
 Sj:∀b o,Imm w G b o->w'.cell? ⟨b,o,none⟩=w.cell? ⟨b,o,none⟩/\Imm w' G' b o
 gX:∀(id:Nat) loc,G.ls[id]?=some loc->∃loc',G'.ls[id]?=some loc'/\loc.b6<=loc'.b6/\(loc.b6=loc'.b6\/loc.mp=true->loc'.hd=loc.hd)
theorem sK.refl(w:World)(G:aQ):sK w G w G:=⟨λ_ _ h=>⟨rfl,h⟩,λ_ loc h=>⟨loc,h,Nat.le_refl _,λ_=>rfl⟩⟩
theorem sK.trans{w G w' G' w'' G''}(h:sK w G w' G')(k:sK w' G' w'' G''):sK w G w'' G'' where
 Sj:=λb o hi=>by
  obtain⟨a1,a2⟩:=h.Sj b o hi;obtain⟨b1,b2⟩:=k.Sj b o a2;exact⟨b1.trans a1,b2⟩
 gX:=λid loc hl=>by
  obtain⟨l1,a1,a2,a3⟩:=h.gX id loc hl;obtain⟨l2,b1,b2,b3⟩:=k.gX id l1 a1;refine⟨l2,b1,by omega,λe=>?_⟩;rcases e with e|e;have e1:loc.b6=l1.b6:=by omega
  have e2:l1.b6=l2.b6:=by omega
  rw[b3 (.inl e2),a3 (.inl e1)];have h1:=a3 (.inr e);have h2:l1.mp=loc.mp:=congrArg (·.2.2.2.2) h1;exact(b3 (.inr (h2.trans e))).trans h1
theorem aS.jj{w:World}{G:aQ}{w':World}{G':aQ}{a:AV}{v:Value}(h:aS w G a v)(hs:sK w G w' G') :
  (∀b,0<fG b a v->G'.mj b=G.mj b/\w'.heap[b]?=w.heap[b]?)->aS w' G' a v:=by
 induction h with
 |undef=>exact λ_=>.undef|gone v h=>exact λ_=>.gone v h|bool b=>exact λ_=>.bool b|int k n=>exact λ_=>.int k n|str l s h=>exact λ_=>.str l s h|cY=>exact λ_=>.cY|U=>exact λ_=>.U|fU=>exact λ_=>.fU|jb=>exact λ_=>.jb|kC=>exact λ_=>.kC|agg cs vs hl h ih=>
  intro ho;refine .agg cs vs hl λi c v hc hv=>ih i c v hc hv λb hb=>ho b ?_;have:=v8 b cs vs.toList i c v hc (by simpa using hv);simp only[fG];omega
 |fF cs vs hl h ih=>
  intro ho;refine .fF cs vs hl λi c v hc hv=>ih i c v hc hv λb hb=>ho b ?_;have:=v8 b cs vs.toList i c v hc (by simpa using hv);simp only[fG];omega
 |dc sz rows a cap oF fI cI iz pC w9 hc hr ih=>
  intro _;refine .dc sz rows a cap oF fI cI iz pC w9 (λi r j c h1 h2=>?_) (λi r j c v h1 h2 h3=>?_);obtain⟨hi,v,hv⟩:=hc i r j c h1 h2;obtain⟨e,qK⟩:=hs.Sj _ _ hi;exact⟨qK,v,e.trans hv⟩;obtain⟨hi,v',Cp⟩:=hc i r j c h1 h2;obtain⟨e,qK⟩:=hs.Sj _ _ hi;rw[e]at h3;refine ih i r j c v h1 h2 h3 λb hb=>?_;rw[eS b c v ((cA r).1 (iz r (cQ h1)) c (cQ h2))]at hb;omega
 |lA sz rows a cap oF fI cI iz pC w9 hc hr iC fD ih=>
  intro ho;obtain⟨ht,hh⟩:=ho a.block (by simp[fG]);have oA:∀o,w'.cell? ⟨a.block,o,none⟩=w.cell? ⟨a.block,o,none⟩:=λo=>by simp[World.cell?,hh]
  refine .lA sz rows a cap oF fI cI iz pC w9 (λi r j c h1 h2=>?_) (λi r j c v h1 h2 h3=>?_) (ht.trans iC) ?_;obtain⟨v,hv⟩:=hc i r j c h1 h2;exact⟨v,(oA _).trans hv⟩;rw[oA]at h3;refine ih i r j c v h1 h2 h3 λb hb=>?_;rw[eS b c v ((cA r).1 (iz r (cQ h1)) c (cQ h2))]at hb;omega;obtain⟨c,e,h1,h2⟩:=fD;exact⟨c,e,hh.trans h1,h2⟩
 |raw sz rows a cap oF fI cI iz pC w9 hc hr iC fD ih=>
  intro ho;obtain⟨ht,hh⟩:=ho a.block (by simp[fG]);have oA:∀o,w'.cell? ⟨a.block,o,none⟩=w.cell? ⟨a.block,o,none⟩:=λo=>by simp[World.cell?,hh]
  refine .raw sz rows a cap oF fI cI iz pC w9 (λi r j c h1 h2=>?_) (λi r j c v h1 h2 h3=>?_) (ht.trans iC) ?_;obtain⟨v,hv⟩:=hc i r j c h1 h2;exact⟨v,(oA _).trans hv⟩;rw[oA]at h3;refine ih i r j c v h1 h2 h3 λb hb=>?_;rw[eS b c v ((cA r).1 (iz r (cQ h1)) c (cQ h2))]at hb;omega;obtain⟨c,e,h1,h2⟩:=fD;exact⟨c,e,hh.trans h1,h2⟩
 |lU a=>exact λ_=>.lU a|mu id b6 v loc hp hl hv he=>
  intro _;obtain⟨loc',a1,a2,a3⟩:=hs.gX id loc hl;refine .mu id b6 v loc' hp a1 (by omega) λe=>?_;have e1:b6=loc.b6:=by omega
  have e2:=a3 (.inl (by omega));rw[show loc'.a=loc.a from congrArg (·.1) e2,show loc'.len=loc.len from congrArg (·.2.2.1) e2,show loc'.cap=loc.cap from congrArg (·.2.1) e2];exact he e1
 |ptr id b6 i k v loc hp hl hv he=>
  intro _;obtain⟨loc',a1,a2,a3⟩:=hs.gX id loc hl;refine .ptr id b6 i k v loc' hp a1 (by omega) λe=>?_;have e1:b6=loc.b6:=by omega
  have e2:=a3 (.inl (by omega));rw[show loc'.a=loc.a from congrArg (·.1) e2,show loc'.sz=loc.sz from congrArg (·.2.2.2.1) e2];exact he e1
 |qm sz rows i k a cap hl ih=>exact λ_=>.qm sz rows i k a cap (ih λb hb=>by simp[fG]at hb)|map id loc b hl hm hb=>
  intro _;obtain⟨loc',a1,a2,a3⟩:=hs.gX id loc hl;have e2:=a3 (.inr hm);exact .map id loc' b a1 ((congrArg (·.2.2.2.2) e2:loc'.mp=loc.mp).trans hm) ((congrArg (·.1) e2:loc'.a=loc.a).trans hb)
 |fn f first lC vf vc hl hm hn h k ih ik=>
  intro _;refine .fn f first lC vf vc hl hm hn (λi c v h1 h2=>ih i c v h1 h2 λb hb=>?_) (λi c v h1 h2=>ik i c v h1 h2 λb hb=>?_)
  rw[eS b c v ((cA first).1 hn.1 c (cQ h1))]at hb;omega;rw[eS b c v ((cA lC).1 hn.2.1 c (cQ h1))]at hb;omega
end Ax
namespace Ax
open Go
def xg:Nat->Value->Option AV
 |0,_=>none|d+1,v=>match v with
  |.bool b=>some (.bool b)|.int k n=>some (.int k n)|.string s=>some (.str s.data.toList)|.pointer none=>some .cY|.slice none 0 0=>some .U|.map none=>some .fU|.nilFunc=>some .jb|.nilIface=>some .kC|.agg cs=>match cs.toList.mapM (xg d) with|some l=>some (.agg l)|none=>none
  |_=>none
def xh(v:Value)(a:AV):Bool:=match xg 3 v with|some b=>b.jF a|none=>false
def qL:List Value->List AV->Bool
 |[],[]=>true|v::vs,a::as=>xh v a&&qL vs as|_,_=>false
def Mr:Operand->Src->Bool
 |.tmp t,.tmp u _=>t==u|.const v,.const a=>xh v a|.func f,.const (.fn g [] [])=>f==g&&decide (f<100000)|_,_=>false
def fJ:List Operand->List Src->Bool
 |[],[]=>true|x::xs,s::ss=>Mr x s&&fJ xs ss|_,_=>false
def nG(P:Program)(t:TypeId):Option Bool:=match P.underlying t with
 |some (.struct _)|some (.array _ _)=>some true|some _=>some false|none=>none
def cy(P:Program)(t:TypeId)(n:Nat):Bool:=match P.info? t with|some i=>i.size==n|none=>false
def o4(P:Program)(t:TypeId)(n:Nat):Bool:=match P.info? t with|some i=>i.bytes==n|none=>false
def Ds(P:Program)(rec:TypeId->Option (List SK)):Nat->List Field->Option (List SK)
 |_,[]=>some []|off,f::fs=>
  if f.offset = off && f.name != "_" then
   match rec f.type with
   |some ks=>if cy P f.type ks.length then (match Ds P rec (off+ks.length) fs with|some r=>some (ks++r)|none=>none) else none
   |none=>none
  else none
def Dt(P:Program):Nat->TypeId->Option (List SK)
 |0,_=>none|d+1,t=>match P.underlying t with
  |some .bool=>some [.bool]|some (.int _)=>some [.int]|some .string=>some [.str]|some (.struct fs)=>if P.stoodInHeld t then none else Ds P (Dt P d) 0 fs.toList
  |_=>none
def x4(P:Program)(t:TypeId):EqK->Bool
 |.sc .bool=>match P.underlying t with|some .bool=>true|_=>false
 |.sc _=>false|.ptr=>match P.underlying t with|some (.pointer _)=>true|_=>false
 |.sl=>match P.underlying t with|some (.slice _)=>true|_=>false
 |.fn=>match P.underlying t with|some (.func _ _ _)=>true|_=>false
 |.flat ks=>(match P.underlying t with|some (.struct _)=>true|_=>false)&&Dt P 20 t==some ks && !P.eqGuardType P.depth t
def pD(P:Program)(t:TypeId):SK->Bool
 |.bool=>match P.underlying t with|some .bool=>true|_=>false
 |.int=>match P.underlying t with|some (.int _)=>true|_=>false
 |.str=>match P.underlying t with|some .string=>true|_=>false
def oG(P:Program)(t:TypeId)(zero:List AV):Bool:=match P.info? t with
 |some i=>(match i.zero with|some z=>qL z.cells.toList zero&&AV.aO zero|none=>false)
 |none=>false
def ri(P:Program)(fs:Array Field):List (Nat×Operand)->List (Nat×Nat)->Bool
 |[],[]=>true|(i,_)::ps,(off,n)::qs=>(match fs[i]? with|some f=>f.offset==off&&cy P f.type n|none=>false)&&ri P fs ps qs|_,_=>false
def xk(x:Operand)(lo hi mx:Option Operand):List Operand:=x::(lo.toList++hi.toList++mx.toList)
def mOp(S:Nat->Option aD)(P:Program)(o:Oper)(so:aY):Bool:=
 (match o.dst,so.dst with|some a,some b=>a==b|none,none=>true|_,_=>false) &&
 match o.op,so.op with
 |.move x,.move|.assign x,.move=>fJ [x] so.args|.pick c a b,.pick=>fJ [c,a,b] so.args|.binOp op _ x y _,.aJ op'=>op==op'&&fJ [x,y] so.args|.binOp op t x y _,.BH k neg=>op==(if neg then .neq else .eql)&&fJ [x,y] so.args&&x4 P t k|.binOp op t x y _,.NX neg=>op==(if neg then .neq else .eql)&&fJ [x,y] so.args&&x4 P t .sl|.unOp op _ x,.un op'=>op==op'&&fJ [x] so.args|.convert s d x,.conv k=>fJ [x] so.args&&(match P.underlying s,P.underlying d with|some (.int _),some (.int k')=>k==k'|_,_=>false)|.nilCheck x,.nilCheck=>fJ [x] so.args|.extract x i,.extract j=>i==j&&fJ [x] so.args|.field t x f,.field off n agg=>fJ [x] so.args&&(match P.underlying t with
  |some (.struct fs)=>(match fs[f]? with|some fd=>fd.offset==off&&cy P fd.type n&&nG P fd.type==some agg|none=>false)
  |_=>false)
 |.build t parts,.build zero qs=>fJ (parts.toList.map (·.2)) so.args&&oG P t zero&&(match P.underlying t with
  |some (.struct fs)=>(match fs.toList.mapM (λf=>P.info? f.type) with|some _=>ri P fs parts.toList qs|none=>false)
  |_=>false)
 |.buildSlice t n parts,.lit sz n' zero qs|.buildSlice t n parts,.Qc sz n' zero qs=>n==n'&&fJ (parts.toList.map (·.2)) so.args&&(match P.underlying t with
  |some (.slice e)=>cy P e sz&&decide (n*sz<=16777216)&&oG P e zero&&decide (0<sz)&&(zero.length==sz)&&parts.toList.map (·.1)==qs|_=>false)
 |.fieldAddr t x f,.fieldAddr off=>fJ [x] so.args&&(match P.underlying t with
  |some (.struct fs)=>(match fs[f]? with
   |some fd=>fd.offset==off&&(match P.info? fd.type with|some i=>i.size != 0|none=>false)|none=>false)
  |_=>false)
 |.indexAddr t x i,.indexAddr sz=>fJ [x,i] so.args&&(match P.underlying t with|some (.slice e)=>cy P e sz|_=>false)|.index t x i,.index=>fJ [x,i] so.args&&(match P.underlying t with|some .string=>true|_=>false)|.slice t x lo hi mx,.slice vZ l h m sz=>fJ (xk x lo hi mx) so.args&&lo.isSome==l&&hi.isSome==h&&mx.isSome==m&&(!m||h)&&(match P.underlying t with
  |some (.slice e)=>!vZ&&cy P e sz|some .string=>vZ && !m|_=>false)
 |.slice t x none (some hi) none,.pW sz=>fJ [x,hi] so.args&&(match P.underlying t with|some (.slice e)=>cy P e sz|_=>false)|.load t a,.load agg n _|.load t a,.aL _ agg n _=>fJ [a] so.args&&cy P t n&&nG P t==some agg&&(agg||n==1)|.store t a v,.store n|.store t a v,.aj _ n=>fJ [a,v] so.args&&cy P t n|.alloc t,.alloc zero|.alloc t,.aN _ zero=>so.args.isEmpty&&oG P t zero|.box _ v,.box _|.box _ v,.iA _ _=>fJ [v] so.args|.makeSlice t l c,.qV sz bytes zero _=>fJ [l,c] so.args&&(match P.underlying t with
  |some (.slice e)=>cy P e sz&&o4 P e bytes&&oG P e zero&&decide (0<sz)&&decide (0<bytes)|_=>false)
 |.makeMap t none,.makeMap=>so.args.isEmpty&&(match P.underlying t with|some (.map _ _)=>true|_=>false)|.mapUpdate t m k v,.mapUpdate kk|.insert t m k v,.mapUpdate kk=>fJ [m,k,v] so.args&&(match P.underlying t with
  |some (.map kt _)=>pD P kt kk|_=>false)
 |.lookup t m k ok,.lookup kk zero ok'=>ok==ok'&&fJ [m,k] so.args&&(match P.underlying t with
  |some (.map kt et)=>pD P kt kk &&
   (match P.info? et with|some i=>(match i.zero with|some z=>xh z zero|none=>false)|none=>false)
  |_=>false)
 |.makeFunc (.func f) first lC,.makeFunc f' n=>f==f'&&fJ (first.toList++lC.toList) so.args&&first.size==n&&decide (f<100000)
 |.call c,.len k=>fJ c.args.toList so.args&&c.args.size==1&&(match c.callee,c.argTypes[0]? with
  |.builtin .len,some t=>(match P.underlying t,k with|some .string,.str|some (.slice _),.sl|some (.map _ _),.mp=>true|_,_=>false)
  |_,_=>false)
 |.call c,.yF mx=>fJ c.args.toList so.args&&c.args.size==2&&(match c.callee with|.builtin .max=>mx|.builtin .min=>!mx|_=>false)|.call c,.append sz bytes|.call c,.kh sz bytes=>fJ c.args.toList so.args&&c.args.size==2&&c.argTypes.size==2&&(match c.callee,c.argTypes[0]?,c.argTypes[1]? with
  |.builtin .append,some t,some u=>(match P.underlying t with|some (.slice e)=>cy P e sz&&o4 P e bytes&&decide (0<sz)&&decide (0<bytes)&&(match P.info? e with|some i=>(match i.zero with|some z=>z.cells.size==sz|none=>false)|none=>false)|_=>false) &&
   (match P.underlying u with|some (.slice _)|some .string=>true|_=>false)
  |_,_,_=>false)
 |.call c,.copy sz=>fJ c.args.toList so.args&&c.args.size==2&&c.argTypes.size==2&&(match c.callee,c.argTypes[0]?,c.argTypes[1]? with
  |.builtin .copy,some t,some u=>(match P.underlying t with|some (.slice e)=>cy P e sz|_=>false)&&(match P.underlying u with|some (.slice _)|some .string=>true|_=>false)|_,_,_=>false)
 |.convert s d x,.NY=>fJ [x] so.args&&(match P.underlying s,P.underlying d with
  |some (.slice e),some .string=>(match P.underlying e with|some (.int .u8)=>true|_=>false)
  |_,_=>false)
 |.call c,.call i=>(match c.callee with
  |.value (.func f)=>fJ c.args.toList so.args&&(match S i with|some sf=>sf.eZ==f|none=>false)|_=>false)
 |.call c,.qW=>(match c.callee with
  |.value x=>fJ (x::c.args.toList) so.args|_=>false)
 |.makeSlice t l c,.zm sz bytes zero=>fJ [l,c] so.args&&(match P.underlying t with
  |some (.slice e)=>cy P e sz&&o4 P e bytes&&oG P e zero&&decide (0<sz)&&decide (0<bytes)|_=>false)
 |.call c,.sC sz bytes zero=>fJ c.args.toList so.args&&c.args.size==2&&c.argTypes.size==2&&(match c.callee,c.argTypes[0]?,c.argTypes[1]? with
  |.builtin .append,some t,some u=>(match P.underlying t with|some (.slice e)=>cy P e sz&&o4 P e bytes&&oG P e zero&&decide (0<sz)&&decide (0<bytes)|_=>false) &&
   (match P.underlying u with|some (.int _)=>true|_=>false)
  |_,_,_=>false)
 |.call c,.Qd=>fJ c.args.toList so.args&&c.args.size==1&&(match c.callee,c.argTypes[0]? with
  |.builtin .cap,some t=>(match P.underlying t with|some (.slice _)=>true|_=>false)
  |_,_=>false)
 |_,.pW 0=>so.args.isEmpty|_,_=>false
end Ax
namespace Ax
open Go
structure mS where
 jK:Option Nat
 vals:List Value
def kF(w:World)(G:aQ)(β:List mS):eO->Value->Prop
 |.none,_=>True|.val a,v=>aS w G a v|.fp j k,v=>∃g b,β[j]?=some g/\g.jK=some b/\v=.pointer (some ⟨b,k,none⟩)
def cx(b:Nat):eO->Value->Nat
 |.val a,v=>fG b a v|_,_=>0
def kX(w:World)(G:aQ)(β:List mS):List eO->List Value->Prop
 |[],[]=>True|e::es,v::vs=>kF w G β e v/\kX w G β es vs|_,_=>False
def mm(b:Nat):List eO->List Value->Nat
 |e::es,v::vs=>cx b e v+mm b es vs|_,_=>0
variable {w:World}{G:aQ}{β:List mS}
theorem kX.one{e:eO}{xs:List Value}(h:kX w G β [e] xs):∃v,xs=[v]/\kF w G β e v:=by
 match xs,h with
 |[v],h=>exact⟨v,rfl,h.1⟩
theorem kX.two{e f:eO}{xs:List Value}(h:kX w G β [e,f] xs):∃v u,xs=[v,u]/\kF w G β e v/\kF w G β f u:=by
 match xs,h with
 |[v,u],h=>exact⟨v,u,rfl,h.1,h.2.1⟩
theorem kX.cons{e:eO}{es:List eO}{xs:List Value}(h:kX w G β (e::es) xs):∃v vs,xs=v::vs/\kF w G β e v/\kX w G β es vs:=by
 match xs,h with
 |v::vs,h=>exact⟨v,vs,rfl,h.1,h.2⟩
theorem kX.vals:∀{es:List eO}{xs:List Value}{vs:List AV},kX w G β es xs->je es=some vs->
  es=vs.map .val/\vs.length=xs.length/\∀(i:Nat) c v,vs[i]?=some c->xs[i]?=some v->aS w G c v
 |[],[],vs,_,h=>by simp[je]at h;subst h;exact⟨rfl,rfl,λi c v h _=>by simp at h⟩|.val a::es,x::xs,vs,h,hv=>by
  simp only[je]at hv;split at hv;rename_i vs' Fs;cases hv;obtain⟨e1,e2,e3⟩:=kX.vals h.2 Fs;refine⟨by rw[e1];rfl,by simp[e2],λi c v h1 h2=>?_⟩;cases i with
  |zero=>simp at h1 h2;subst h1;subst h2;exact h.1|succ i=>simp at h1 h2;exact e3 i c v h1 h2
  cases hv
 |.none::es,_::_,vs,_,hv=>by simp[je]at hv|.fp _ _::es,_::_,vs,_,hv=>by simp[je]at hv|[],_::_,_,h,_=>h.elim|_::_,[],_,h,_=>h.elim
theorem Du:∀(b:Nat)(vs:List AV)(xs:List Value),mm b (vs.map .val) xs=bU b vs xs
 |_,[],[]=>rfl|_,[],_::_=>rfl|_,_::_,[]=>rfl|b,a::vs,x::xs=>by simp[mm,bU,cx,Du b vs xs]
theorem aS.fO{k:IntKind}{n:Int}{v:Value}(h:aS w G (.int k n) v):v=.int k n:=by cases h;rfl
theorem aS.jL{b:Bool}{v:Value}(h:aS w G (.bool b) v):v=.bool b:=by cases h;rfl
theorem aS.mN{l:List UInt8}{v:Value}(h:aS w G (.str l) v):∃s,v=.string s/\s.data.toList=l:=by
 cases h with|str _ s h=>exact⟨s,rfl,h⟩
theorem aS.aa{a:AV}{v:Value}(h:aS w G a v):aS w G a.aa v:=by
 induction h with
 |undef=>exact .undef|gone v h=>exact .gone v h|bool b=>exact .bool b|int k n=>exact .int k n|str l s h=>exact .str l s h|cY=>exact .cY|U=>exact .U|fU=>exact .fU|jb=>exact .jb|kC=>exact .kC|agg cs vs hl h ih=>
  refine .agg _ vs (by rw[nF];exact hl) λi c v hc hv=>?_;rw[xd]at hc;simp only[Option.map_eq_some_iff]at hc;obtain⟨c',h1,rfl⟩:=hc;exact ih i c' v h1 hv
 |fF cs vs hl h ih=>
  refine .fF _ vs (by rw[nF];exact hl) λi c v hc hv=>?_;rw[xd]at hc;simp only[Option.map_eq_some_iff]at hc;obtain⟨c',h1,rfl⟩:=hc;exact ih i c' v h1 hv
 |dc sz rows a cap oF fI cI iz pC w9 hc hr ih=>exact .dc sz rows a cap oF fI cI iz pC w9 hc hr|lA sz rows a cap oF fI cI iz pC w9 hc hr iC fD ih=>
  refine .dc sz rows a cap oF fI cI iz pC w9 (λi r j c h1 h2=>⟨⟨?_,λp hp=>?_⟩,hc i r j c h1 h2⟩) hr;obtain⟨cc,e,h3,_⟩:=fD;exact(Array.getElem?_eq_some_iff.1 h3).1;rw[iC]at hp;cases hp;have hi:i<rows.length:=(List.getElem?_eq_some_iff.1 h1).1;have hj:j<r.length:=(List.getElem?_eq_some_iff.1 h2).1;have hs:r.length=sz:=by
   simp only[bV,List.all_eq_true,beq_iff_eq]at cI;exact cI r (cQ h1)
  have:i*sz+j<rows.length*sz:=by
   calc i*sz+j<i*sz+sz:=by omega
    _=(i+1)*sz:=by rw[Nat.succ_mul]
    _<=rows.length*sz:=Nat.mul_le_mul_right _ hi
  omega
 |raw sz rows a cap oF fI cI iz pC w9 hc hr iC fD ih=>exact .gone _ rfl|lU a=>exact .lU a|mu id b6 v loc hp hl hv he=>exact .mu id b6 v loc hp hl hv he|ptr id b6 i k v loc hp hl hv he=>exact .ptr id b6 i k v loc hp hl hv he|qm sz rows i k a cap hl ih=>exact .qm sz rows i k a cap hl|map id loc b hl hm hb=>exact .map id loc b hl hm hb|fn f first lC vf vc hl hm hn h k ih ik=>exact .fn f first lC vf vc hl hm hn h k
theorem kF.aa{e:eO}{v:Value}(h:kF w G β e v):kF w G β e.aa v:=by
 cases e with
 |none=>trivial|val a=>exact aS.aa h|fp j k=>exact h
theorem Gf(b:Nat)(e:eO)(v:Value):cx b e.aa v=0:=by
 cases e with
 |none=>rfl|val a=>exact eS b _ _ (uI a)|fp j k=>rfl
mutual
theorem HR:∀(a b:AV),a.jF b=true->a=b
 |.undef,b,h=>by cases b<;>simp[AV.jF]at h<;>rfl|.gone,b,h=>by cases b<;>simp[AV.jF]at h<;>rfl|.cY,b,h=>by cases b<;>simp[AV.jF]at h<;>rfl|.U,b,h=>by cases b<;>simp[AV.jF]at h<;>rfl|.fU,b,h=>by cases b<;>simp[AV.jF]at h<;>rfl|.jb,b,h=>by cases b<;>simp[AV.jF]at h<;>rfl|.kC,b,h=>by cases b<;>simp[AV.jF]at h<;>rfl|.lU,b,h=>by cases b<;>simp[AV.jF]at h<;>rfl|.bool x,b,h=>by cases b<;>simp[AV.jF]at h;rw[h]|.int k x,b,h=>by cases b<;>simp[AV.jF]at h;rw[h.1,h.2]|.str x,b,h=>by cases b<;>simp[AV.jF]at h;rw[h]|.agg x,b,h=>by
  cases b<;>simp[AV.jF]at h;rw[tV _ _ h]
 |.fF x,b,h=>by
  cases b<;>simp[AV.jF]at h;rw[tV _ _ h]
 |.dc s x,b,h=>by
  cases b<;>simp[AV.jF]at h;rw[h.1,tW _ _ h.2]
 |.lA s x,b,h=>by
  cases b<;>simp[AV.jF]at h;rw[h.1,tW _ _ h.2]
 |.raw s x,b,h=>by
  cases b<;>simp[AV.jF]at h;rw[h.1,tW _ _ h.2]
 |.mu i v,b,h=>by cases b<;>simp[AV.jF]at h;rw[h.1,h.2]|.ptr i v k l,b,h=>by cases b<;>simp[AV.jF]at h;rw[h.1.1.1,h.1.1.2,h.1.2,h.2]|.qm s x i k,b,h=>by
  cases b<;>simp[AV.jF]at h;rw[h.1.1.1,tW _ _ h.1.1.2,h.1.2,h.2]
 |.map i,b,h=>by cases b<;>simp[AV.jF]at h;rw[h]|.fn f x y,b,h=>by
  cases b<;>simp[AV.jF]at h;rw[h.1.1,tV _ _ h.1.2,tV _ _ h.2]
theorem tV:∀(a b:List AV),AV.vY a b=true->a=b
 |[],b,h=>by cases b<;>simp[AV.vY]at h;rfl|x::a,b,h=>by
  cases b with
  |nil=>simp[AV.vY]at h|cons y b=>
   simp[AV.vY]at h;rw[HR x y h.1,tV a b h.2]
theorem tW:∀(a b:List (List AV)),AV.uF a b=true->a=b
 |[],b,h=>by cases b<;>simp[AV.uF]at h;rfl|x::a,b,h=>by
  cases b with
  |nil=>simp[AV.uF]at h|cons y b=>
   simp[AV.uF]at h;rw[tV x y h.1,tW a b h.2]
end
theorem Dv(w:World)(G:aQ):∀(d:Nat)(v:Value)(a:AV),xg d v=some a->aS w G a v/\a.b9=true/\a.au=true
 |0,_,_,h=>by simp[xg]at h|d+1,v,a,h=>by
  unfold xg at h;split at h;cases h;exact⟨.bool _,rfl,rfl⟩;cases h;exact⟨.int _ _,rfl,rfl⟩;cases h;exact⟨.str _ _ rfl,rfl,rfl⟩;cases h;exact⟨.cY,rfl,rfl⟩;cases h;exact⟨.U,rfl,rfl⟩;cases h;exact⟨.fU,rfl,rfl⟩;cases h;exact⟨.jb,rfl,rfl⟩;cases h;exact⟨.kC,rfl,rfl⟩;rename_i cs;split at h;rename_i l hl;cases h;have key:∀(vs:List Value) (l:List AV),vs.mapM (xg d)=some l->vs.length=l.length/\(∀(i:Nat) c v,l[i]?=some c->vs[i]?=some v->aS w G c v/\c.b9=true/\c.au=true):=by
   intro vs;induction vs with
   |nil=>intro l h;simp at h;subst h;exact⟨rfl,λi c v h _=>by simp at h⟩|cons x vs ih=>
    intro l h;rw[List.mapM_cons]at h;simp only[bind,Option.bind_eq_some_iff,pure,Option.some.injEq]at h;obtain⟨a1,h1,l1,h2,rfl⟩:=h;obtain⟨e1,e2⟩:=ih l1 h2;refine⟨by simp[e1],λi c v hc hv=>?_⟩;cases i with
    |zero=>simp at hc hv;subst hc;subst hv;exact Dv w G d _ _ h1|succ i=>simp at hc hv;exact e2 i c v hc hv
  obtain⟨e1,e2⟩:=key _ _ hl;have jG:∀c∈l,c.b9=true/\c.au=true:=by
   intro c hc;obtain⟨i,hi,rfl⟩:=List.mem_iff_getElem.1 hc;have hi2:i<cs.toList.length:=(by omega);exact(e2 i l[i] cs.toList[i] (List.getElem?_eq_getElem hi) (List.getElem?_eq_getElem hi2)).2
  refine⟨.agg l cs (by rw[<-e1];simp) λi c v hc hv=>(e2 i c v hc (by simpa using hv)).1,?_,?_⟩;simp only[AV.b9];exact(cA l).2 λc hc=>(jG c hc).1;simp only[AV.au];exact(gh l).2 λc hc=>(jG c hc).2;cases h;cases h
theorem yI{v:Value}{a:AV}(h:xh v a=true)(w:World)(G:aQ):aS w G a v/\a.b9=true/\a.au=true:=by
 unfold xh at h;split at h;rename_i b hb;have:=HR _ _ h;subst this;exact Dv w G 3 v b hb;cases h
theorem zo(w:World)(G:aQ):∀{vs:List Value}{as:List AV},qL vs as=true->as.length=vs.length/\(∀(i:Nat) c v,as[i]?=some c->vs[i]?=some v->aS w G c v)/\(∀c∈as,c.b9=true/\c.au=true)
 |[],[],_=>⟨rfl,λi c v h _=>by simp at h,λc h=>by simp at h⟩
 |v::vs,a::as,h=>by
  simp only[qL,Bool.and_eq_true]at h;obtain⟨e1,e2,e3⟩:=zo w G h.2;obtain⟨f1,f2,f3⟩:=yI h.1 w G;refine⟨by simp[e1],λi c u hc hu=>?_,λc hc=>?_⟩;cases i with
  |zero=>simp at hc hu;subst hc;subst hu;exact f1|succ i=>simp at hc hu;exact e2 i c u hc hu
  rcases List.mem_cons.1 hc with rfl|hc;exact⟨f2,f3⟩;exact e3 c hc
 |[],_::_,h=>by simp[qL]at h|_::_,[],h=>by simp[qL]at h
end Ax
namespace Ax
open Go
variable {P:Program}{w:World}{G:aQ}
theorem lG{t:TypeId}{n:Nat}(h:cy P t n=true):∃i,P.info? t=some i/\i.size=n/\P.cellsOf t=n:=by
 unfold cy at h;split at h;rename_i i hi;exact⟨i,hi,by simpa using h,by simp[Program.cellsOf,hi];simpa using h⟩;cases h
theorem dY{t:TypeId}{n:Nat}(h:cy P t n=true)(w:World):(Go.sizeOf t).run P w=.ok n w:=by
 obtain⟨i,hi,hs,hc⟩:=lG h;rw[run_sizeOf w hi,hc]
def cn(w:World)(G:aQ)(as:List AV)(xs:List Value):Prop:=as.length=xs.length/\∀(i:Nat) c v,as[i]?=some c->xs[i]?=some v->aS w G c v
theorem W3{t:TypeId}{k:SK}{a b:AV}{x y:Value}{r:Bool}(ht:pD P t k=true)(h:Fp k a b=some r)(ha:aS w G a x)(hb:aS w G b y)(D:Nat)(w':World) :
  (Op.equalIn (D+1) t x y).run P w'=.ok r w':=by
 unfold Fp at h;split at h;cases h;rw[ha.jL,hb.jL];have hu:P.underlying t=some .bool:=by
  unfold pD at ht;simp only at ht;split at ht<;>simp_all
 exact run_equalIn_bool w' D t _ _ hu;split at h;rename_i k1 p k2 q hk;cases h;subst hk;rw[ha.fO,hb.fO];have hu:∃q,P.underlying t=some (.int q):=by
  unfold pD at ht;simp only at ht;split at ht;exact⟨_,by assumption⟩;cases ht
 obtain⟨q,hu⟩:=hu;exact run_equalIn_int w' D t _ q _ _ hu;cases h;cases h;obtain⟨s,rfl,rfl⟩:=ha.mN;obtain⟨s',rfl,rfl⟩:=hb.mN;have hu:P.underlying t=some .string:=by
  unfold pD at ht;simp only at ht;split at ht<;>simp_all
 rw[run_equalIn_string w' D t _ _ hu,ByteArray.toList_eq,ByteArray.toList_eq];cases h
theorem Dw:∀(k1 k2:List SK)(a b:List AV)(r:Bool),Fq (k1++k2) a b=some r->
  ∃r1 r2,Fq k1 (a.take k1.length) (b.take k1.length)=some r1/\Fq k2 (a.drop k1.length) (b.drop k1.length)=some r2/\r=(r1&&r2)
 |[],k2,a,b,r,h=>⟨true,r,by simp[Fq],by simpa using h,by simp⟩
 |k::k1,k2,[],b,r,h=>by cases b<;>simp[Fq]at h|k::k1,k2,a::as,[],r,h=>by simp[Fq]at h|k::k1,k2,a::as,b::bs,r,h=>by
  simp only[List.cons_append,Fq]at h;split at h;rename_i p q hp hq;cases h;obtain⟨r1,r2,e1,e2,rfl⟩:=Dw k1 k2 as bs q hq;exact⟨p&&r1,r2,by simp[Fq,hp,e1],by simpa using e2,by simp[Bool.and_assoc]⟩;cases h
theorem Dx:∀(ks:List SK)(a b:List AV)(r:Bool),Fq ks a b=some r->a.length=ks.length/\b.length=ks.length
 |[],[],[],_,_=>⟨rfl,rfl⟩
 |[],[],_::_,_,h=>by simp[Fq]at h|[],_::_,_,_,h=>by simp[Fq]at h|_::_,[],_,_,h=>by simp[Fq]at h|_::_,_::_,[],_,h=>by simp[Fq]at h|k::ks,a::as,b::bs,r,h=>by
  simp only[Fq]at h;split at h;rename_i p q hp hq;obtain⟨e1,e2⟩:=Dx ks as bs q hq;simp[e1,e2];cases h
theorem zp{t:TypeId}{fs:Array Field}{n off:Nat}(hu:P.underlying t=some (.struct fs))(hn:cy P t n=true)(xs:Array Value)(w:World) :
  (part t xs off).run P w=.ok (.agg (xs.extract off (off+n))) w:=by
 simp[part,isAgg,run_underlying hu,dY hn]
theorem BM{t:TypeId}{k:SK}{off:Nat}{v:Value}(hk:pD P t k=true){xs:Array Value}(hx:xs[off]?=some v)(w:World) :
  (part t xs off).run P w=.ok v w:=by
 refine run_part_plain w ?_ hx;unfold pD at hk;unfold Program.plainKey;cases k<;>simp only at hk<;>split at hk<;>simp_all
theorem cn.take{as:List AV}{xs:List Value}(h:cn w G as xs)(n:Nat):cn w G (as.take n) (xs.take n):=by
 refine⟨by simp[h.1],λi c v hc hv=>?_⟩;rw[List.getElem?_take]at hc hv;split at hc;rename_i hi;rw[if_pos hi]at hv;exact h.2 i c v hc hv;cases hc
theorem cn.drop{as:List AV}{xs:List Value}(h:cn w G as xs)(n:Nat):cn w G (as.drop n) (xs.drop n):=by
 refine⟨by simp[h.1],λi c v hc hv=>?_⟩;rw[List.getElem?_drop]at hc hv;exact h.2 _ c v hc hv
def afL(P:Program)(G:aQ)(w:World)(D:Nat)(t:TypeId)(ks:List SK):Prop:=
 (∃k,ks=[k]/\pD P t k=true)\/
 (∃fs,P.underlying t=some (.struct fs))/\∀(xs ys:Array Value) (as bs:List AV) (r:Bool),cn w G as xs.toList->cn w G bs ys.toList->Fq ks as bs=some r->
  (Op.equalIn D t (.agg xs) (.agg ys)).run P w=.ok r w
theorem zq(D:Nat)(xs ys:Array Value)(as bs:List AV)(hx:cn w G as xs.toList)(hy:cn w G bs ys.toList)(rec:TypeId->Option (List SK))
  (W4:∀t ks,rec t=some ks->afL P G w (D+1) t ks):∀(fs:List Field) (off:Nat) (ks:List SK) (r:Bool),Ds P rec off fs=some ks->Fq ks (as.drop off) (bs.drop off)=some r->
  (Op.eqFields (D+1) xs ys fs).run P w=.ok r w
 |[],off,ks,r,h,he=>by
  simp only[Ds,Option.some.injEq]at h;subst h;cases ha:as.drop off<;>cases hb:bs.drop off<;>rw[ha,hb]at he<;>simp[Fq]at he;subst he;simp[Op.eqFields]
 |f::fs,off,ks,r,h,he=>by
  unfold Ds at h;split at h;rename_i hc;simp only[Bool.and_eq_true,decide_eq_true_eq,bne_iff_ne]at hc;split at h;rename_i kf hkf;split at h;rename_i oA;split at h;rename_i kr Ws;cases h;obtain⟨r1,r2,e1,e2,rfl⟩:=Dw kf kr _ _ r he;have ih:=zq D xs ys as bs hx hy rec W4 fs (off+kf.length) kr r2 Ws (by simpa [List.drop_drop] using e2);have hf : f.name ≠ "_" := hc.2
  have step:∃a b,(part f.type xs f.offset).run P w=.ok a w/\(part f.type ys f.offset).run P w=.ok b w/\(Op.equalIn (D+1) f.type a b).run P w=.ok r1 w:=by
   rw[hc.1];obtain⟨l1,l2⟩:=Dx _ _ _ _ e1;rcases W4 _ _ hkf with⟨k,rfl,hk⟩|⟨⟨gs,hu⟩,jG⟩;simp only[List.length_cons,List.length_nil,Nat.zero_add]at e1 l1 l2;have ha:∃a,as[off]?=some a:=by
    cases h:as[off]? with
    |some a=>exact⟨a,rfl⟩|none=>rw[List.getElem?_eq_none_iff]at h;simp at l1;omega
   have hb:∃b,bs[off]?=some b:=by
    cases h:bs[off]? with
    |some a=>exact⟨a,rfl⟩|none=>rw[List.getElem?_eq_none_iff]at h;simp at l2;omega
   obtain⟨a,ha⟩:=ha;obtain⟨b,hb⟩:=hb;have Mg:off<xs.size:=(by have:=(List.getElem?_eq_some_iff.1 ha).1;have:=hx.1;simp at this;omega);have Wt:off<ys.size:=(by have:=(List.getElem?_eq_some_iff.1 hb).1;have:=hy.1;simp at this;omega);have hxa:=hx.2 off a xs[off] ha (by simp[Mg]);have hyb:=hy.2 off b ys[off] hb (by simp[Wt]);refine⟨xs[off],ys[off],BM hk (by simp[Mg]) w,BM hk (by simp[Wt]) w,?_⟩;have:Fp k a b=some r1:=by
    have t1:(as.drop off).take 1=[a]:=by
     rw[List.drop_eq_getElem_cons (List.getElem?_eq_some_iff.1 ha).1,(List.getElem?_eq_some_iff.1 ha).2];simp
    have t2:(bs.drop off).take 1=[b]:=by
     rw[List.drop_eq_getElem_cons (List.getElem?_eq_some_iff.1 hb).1,(List.getElem?_eq_some_iff.1 hb).2];simp
    rw[t1,t2]at e1;simp only[Fq]at e1;split at e1;rename_i p q hp hq;cases hq;simpa [hp] using e1;cases e1
   exact W3 hk this hxa hyb D w;refine⟨_,_,zp hu oA xs w,zp hu oA ys w,jG _ _ _ _ _ ?_ ?_ e1⟩;have:=(hx.drop off).take kf.length;simpa [Array.toList_extract,List.extract] using this;have:=(hy.drop off).take kf.length;simpa [Array.toList_extract,List.extract] using this
  obtain⟨a,b,p1,p2,p3⟩:=step;simp only[Op.eqFields,hf,ne_eq,not_false_eq_true,if_true,Sem.run_bind,p1,p2,p3,Result.andThen_ok];cases r1;simp;simpa using ih;cases h;cases h;cases h;cases h
theorem JZ:∀(d D:Nat)(t:TypeId)(ks:List SK),d<=D->Dt P d t=some ks->afL P G w (D+1) t ks
 |0,_,_,_,_,h=>by simp[Dt]at h|d+1,D,t,ks,hd,h=>by
  unfold Dt at h;split at h;cases h;exact .inl ⟨.bool,rfl,by unfold pD;simp[*]⟩;cases h;exact .inl ⟨.int,rfl,by unfold pD;simp[*]⟩;cases h;exact .inl ⟨.str,rfl,by unfold pD;simp[*]⟩;rename_i fs hu;split at h;cases h;rename_i hs;refine .inr ⟨⟨fs,hu⟩,λxs ys as bs r hx hy he=>?_⟩;have hfs:P.fieldsOf t=fs:=by simp[Program.fieldsOf,hu]
  rw[run_equalIn_struct w D t xs ys (by rw[hfs];exact hu) (by simpa using hs),hfs];obtain⟨D',rfl⟩:∃D',D=D'+1:=⟨D-1,by omega⟩;exact zq D' xs ys as bs hx hy (Dt P d) (λt ks h=>JZ d D' t ks (by omega) h) fs.toList 0 ks r h (by simpa using he);cases h
theorem Qg{t:TypeId}(h:x4 P t (.sc .bool)=true):P.underlying t=some .bool:=by
 simp only[x4]at h;split at h
 assumption
 cases h
theorem Sk{t:TypeId}(h:x4 P t .ptr=true):∃e,P.underlying t=some (.pointer e):=by
 simp only[x4]at h;split at h;exact⟨_,by assumption⟩;cases h
theorem N1{t:TypeId}(h:x4 P t .sl=true):∃e,P.underlying t=some (.slice e):=by
 simp only[x4]at h;split at h;exact⟨_,by assumption⟩;cases h
theorem W5{t:TypeId}(h:x4 P t .fn=true):∃a b c,P.underlying t=some (.func a b c):=by
 simp only[x4]at h;split at h;exact⟨_,_,_,by assumption⟩;cases h
def N2(x:Value):Prop:=(∀k n,x≠.int k n)/\(∀k n,x≠.float k n)/\(∀s,x≠.string s)/\(∀k r i,x≠.complex k r i)
theorem cB(t:TypeId){x y:Value}(h1:x≠.nilIface)(h2:∀cs,x≠.agg cs)(op:BinOp)(xo yo:Operand)(w:World):(eqGuard op t xo yo x y).run P w=.ok () w:=by
 cases op<;>cases x<;>simp_all [eqGuard]
theorem W6{t:TypeId}{k:EqK}{a b:AV}{x y:Value}{r:Bool}(ht:x4 P t k=true)(h:Ga k a b=some r)(ha:aS w G a x)(hb:aS w G b y) :
  (Op.equal t x y).run P w=.ok r w/\(∀op (xo yo:Operand),(eqGuard op t xo yo x y).run P w=.ok () w)/\N2 x:=by
 unfold Op.equal Op.maxDepth;cases k with
 |sc k=>
  cases k with
  |bool=>
   simp only[Ga]at h;have hu:=Qg ht;unfold Fp at h;split at h<;>try cases h
   rw[ha.jL,hb.jL];exact⟨run_equalIn_bool w 9999 t _ _ hu,λop xo yo=>cB t (by simp) (by simp) op xo yo w,by simp,by simp,by simp,by simp⟩;all_goals simp_all
  |int=>simp[x4]at ht|str=>simp[x4]at ht
 |flat ks=>
  unfold Ga at h;split at h<;>try (cases h;done)
  all_goals try (rename_i heq;cases heq;done)
  rename_i ks' as bs heq;cases heq;cases ha with
  |agg _ xs hl hx=>
   cases hb with
   |agg _ ys pZ hy=>
    simp only[x4,Bool.and_eq_true,Bool.not_eq_true']at ht;obtain⟨⟨hu,hf⟩,hg⟩:=ht;have hfk:Dt P 20 t=some ks:=(by simpa using hf);refine⟨?_,λop xo yo=>run_eqGuard_agg w op t xo yo xs ys hg,by simp,by simp,by simp,by simp⟩;rcases JZ (w:=w) (G:=G) 20 9999 t ks (by omega) hfk with⟨k,rfl,hk⟩|⟨_,jG⟩;exfalso;unfold pD at hk;cases k<;>simp only at hk<;>split at hk<;>simp_all;exact jG xs ys as bs r ⟨by simpa using hl,λi c v h1 h2=>hx i c v h1 (by simpa using h2)⟩ ⟨by simpa using pZ,λi c v h1 h2=>hy i c v h1 (by simpa using h2)⟩ h
 |ptr=>
  obtain⟨e,hu⟩:=Sk ht;have key:∀(p q:Option Addr) (r:Bool),(p=none/\r=q.isNone\/q=none/\r=p.isNone)->(Op.equalIn (9999+1) t (.pointer p) (.pointer q)).run P w=.ok r w:=by
   generalize 9999=D;intro p q r h;rcases h with⟨rfl,rfl⟩|⟨rfl,rfl⟩;cases q<;>simp[Op.equalIn,run_underlying hu];cases p<;>simp[Op.equalIn,run_underlying hu]
  have inv:∀{a x},aS w G a x->(a=.cY->x=.pointer none)/\(∀i v k l,a=.ptr i v k l->∃p,x=.pointer (some p))/\(∀i v k l,a=.qm i v k l->∃p,x=.pointer (some p)):=by
   intro a x h;refine⟨λe=>by subst e;cases h;rfl,λi v k l e=>by subst e;cases h with|ptr _ _ _ _ _ loc hp=>exact hp,λi v k l e=>by subst e;cases h;exact⟨_,rfl⟩⟩
  unfold Ga at h;split at h<;>try (cases h;done)
  all_goals try (rename_i heq;cases heq;done)
  cases h;rw[(inv ha).1 rfl,(inv hb).1 rfl];exact⟨key _ _ _ (.inl ⟨rfl,rfl⟩),λop xo yo=>cB t (by simp) (by simp) op xo yo w,by simp,by simp,by simp,by simp⟩;cases h;obtain⟨p,hp⟩:=(inv hb).2.1 _ _ _ _ rfl;rw[(inv ha).1 rfl,hp];exact⟨key _ _ _ (.inl ⟨rfl,rfl⟩),λop xo yo=>cB t (by simp) (by simp) op xo yo w,by simp,by simp,by simp,by simp⟩;cases h;obtain⟨p,hp⟩:=(inv hb).2.2 _ _ _ _ rfl;rw[(inv ha).1 rfl,hp];exact⟨key _ _ _ (.inl ⟨rfl,rfl⟩),λop xo yo=>cB t (by simp) (by simp) op xo yo w,by simp,by simp,by simp,by simp⟩;cases h;obtain⟨p,hp⟩:=(inv ha).2.1 _ _ _ _ rfl;rw[(inv hb).1 rfl,hp];exact⟨key _ _ _ (.inr ⟨rfl,rfl⟩),λop xo yo=>cB t (by simp) (by simp) op xo yo w,by simp,by simp,by simp,by simp⟩;cases h;obtain⟨p,hp⟩:=(inv ha).2.2 _ _ _ _ rfl;rw[(inv hb).1 rfl,hp];exact⟨key _ _ _ (.inr ⟨rfl,rfl⟩),λop xo yo=>cB t (by simp) (by simp) op xo yo w,by simp,by simp,by simp,by simp⟩
 |sl=>
  obtain⟨e,hu⟩:=N1 ht;have W7:∀(q:Option Addr) (n c:Nat),(Op.equalIn (9999+1) t (.slice none 0 0) (.slice q n c)).run P w=.ok q.isNone w:=by
   generalize 9999=D;intro q n c;simp[Op.equalIn,run_underlying hu]
  have Sl:∀(q:Option Addr) (n c:Nat),(Op.equalIn (9999+1) t (.slice q n c) (.slice none 0 0)).run P w=.ok q.isNone w:=by
   generalize 9999=D;intro q n c;cases q<;>simp[Op.equalIn,run_underlying hu]
  have inv:∀{a x},aS w G a x->(a=.U->x=.slice none 0 0)/\(∀s r,a=.dc s r->∃p n c,x=.slice (some p) n c)/\(∀s r,a=.lA s r->∃p n c,x=.slice (some p) n c)/\(a=.lU->∃p n c,x=.slice (some p) n c):=by
   intro a x h;refine⟨λe=>by subst e;cases h;rfl,λs r e=>by subst e;cases h;exact⟨_,_,_,rfl⟩,λs r e=>by subst e;cases h;exact⟨_,_,_,rfl⟩,λe=>by subst e;cases h;exact⟨_,_,_,rfl⟩⟩
  unfold Ga at h;split at h<;>try (cases h;done)
  all_goals try (rename_i heq;cases heq;done)
  cases h;rw[(inv ha).1 rfl,(inv hb).1 rfl];exact⟨W7 _ _ _,λop xo yo=>cB t (by simp) (by simp) op xo yo w,by simp,by simp,by simp,by simp⟩;cases h;obtain⟨p,n,c,hp⟩:=(inv hb).2.1 _ _ rfl;rw[(inv ha).1 rfl,hp];exact⟨W7 _ _ _,λop xo yo=>cB t (by simp) (by simp) op xo yo w,by simp,by simp,by simp,by simp⟩;cases h;obtain⟨p,n,c,hp⟩:=(inv hb).2.2.1 _ _ rfl;rw[(inv ha).1 rfl,hp];exact⟨W7 _ _ _,λop xo yo=>cB t (by simp) (by simp) op xo yo w,by simp,by simp,by simp,by simp⟩;cases h;obtain⟨p,n,c,hp⟩:=(inv hb).2.2.2 rfl;rw[(inv ha).1 rfl,hp];exact⟨W7 _ _ _,λop xo yo=>cB t (by simp) (by simp) op xo yo w,by simp,by simp,by simp,by simp⟩;cases h;obtain⟨p,n,c,hp⟩:=(inv ha).2.1 _ _ rfl;rw[(inv hb).1 rfl,hp];exact⟨Sl _ _ _,λop xo yo=>cB t (by simp) (by simp) op xo yo w,by simp,by simp,by simp,by simp⟩;cases h;obtain⟨p,n,c,hp⟩:=(inv ha).2.2.1 _ _ rfl;rw[(inv hb).1 rfl,hp];exact⟨Sl _ _ _,λop xo yo=>cB t (by simp) (by simp) op xo yo w,by simp,by simp,by simp,by simp⟩;cases h;obtain⟨p,n,c,hp⟩:=(inv ha).2.2.2 rfl;rw[(inv hb).1 rfl,hp];exact⟨Sl _ _ _,λop xo yo=>cB t (by simp) (by simp) op xo yo w,by simp,by simp,by simp,by simp⟩
 |fn=>
  obtain⟨e1,e2,e3,hu⟩:=W5 ht;have k1:∀D,(Op.equalIn (D+1) t .nilFunc .nilFunc).run P w=.ok true w:=λD=>by simp[Op.equalIn,run_underlying hu]
  have k2:∀D f p q,(Op.equalIn (D+1) t .nilFunc (.func f p q)).run P w=.ok false w:=λD f p q=>by simp[Op.equalIn,run_underlying hu]
  have k3:∀D f p q,(Op.equalIn (D+1) t (.func f p q) .nilFunc).run P w=.ok false w:=λD f p q=>by simp[Op.equalIn,run_underlying hu]
  have inv:∀{a x},aS w G a x->(a=.jb->x=.nilFunc)/\(∀f b c,a=.fn f b c->∃p q,x=.func (.func f) p q):=by
   intro a x h;refine⟨λe=>by subst e;cases h;rfl,λs r c e=>by subst e;cases h;exact⟨_,_,rfl⟩⟩
  unfold Ga at h;split at h<;>try (cases h;done)
  all_goals try (rename_i heq;cases heq;done)
  cases h;rw[(inv ha).1 rfl,(inv hb).1 rfl];exact⟨k1 9999,λop xo yo=>cB t (by simp) (by simp) op xo yo w,by simp,by simp,by simp,by simp⟩;cases h;obtain⟨p,q,hp⟩:=(inv hb).2 _ _ _ rfl;rw[(inv ha).1 rfl,hp];exact⟨k2 9999 _ _ _,λop xo yo=>cB t (by simp) (by simp) op xo yo w,by simp,by simp,by simp,by simp⟩;cases h;obtain⟨p,q,hp⟩:=(inv ha).2 _ _ _ rfl;rw[(inv hb).1 rfl,hp];exact⟨k3 9999 _ _ _,λop xo yo=>cB t (by simp) (by simp) op xo yo w,by simp,by simp,by simp,by simp⟩
end Ax
namespace Ax
open Go
variable {P:Program}{w:World}{G:aQ}{β:List mS}{ρ:Operand->Value}{o:Oper}
structure v9 (w:World)(G:aQ)(sz:Nat)(rows:List (List AV))(loc:lB):Prop where
 Gg:bV sz rows=true
 CO:∀r∈rows,AV.aO r=true
 len:loc.len=rows.length
 size:loc.sz=sz
 tE:loc.vals.length=rows.length
 tX:∀(i:Nat) r xs,rows[i]?=some r->loc.vals[i]?=some xs->cn w G r xs
 p0:(loc.cap=0/\rows=[]/\loc.a.isSome=true)\/∃b off c e,loc.a=some ⟨b,off,none⟩/\0<loc.cap/\w.heap[b]?=some (.cells c e (0,0))/\off+loc.cap*sz<=c.size/\rows.length<=loc.cap/\
  G.mj b=some 0/\∀(i:Nat) xs (j:Nat) x,loc.vals[i]?=some xs->xs[j]?=some x->w.cell? ⟨b,off+(i*sz+j),none⟩=some x
theorem v9.cell{sz:Nat}{rows:List (List AV)}{loc:lB}(h:v9 w G sz rows loc){b off:Nat}(hc:∀(i:Nat) xs (j:Nat) x,loc.vals[i]?=some xs->xs[j]?=some x->w.cell? ⟨b,off+(i*sz+j),none⟩=some x) :
  ∀(i:Nat) r (j:Nat) x,rows[i]?=some r->r[j]?=some x->∃v,w.cell? ⟨b,off+(i*sz+j),none⟩=some v/\aS w G x v:=by
 intro i r j x h1 h2;have hi:i<loc.vals.length:=by rw[h.tE];exact(List.getElem?_eq_some_iff.1 h1).1
 have hv:=List.getElem?_eq_getElem hi;obtain⟨e1,e2⟩:=h.tX i r _ h1 hv;have hj:j<loc.vals[i].length:=by rw[<-e1];exact(List.getElem?_eq_some_iff.1 h2).1
 exact⟨_,hc i _ j _ hv (List.getElem?_eq_getElem hj),e2 j x _ h2 (List.getElem?_eq_getElem hj)⟩
def p6(w:World)(G:aQ):fq->lB->Prop
 |.rows b6 sz rows,loc=>loc.mp=false/\loc.b6=b6/\v9 w G sz rows loc|.map es,loc=>loc.mp=true/\loc.cap=1/\∃b r7 clock,loc.a=some ⟨b,0,none⟩/\w.heap[b]?=some (.map r7 clock)/\G.mj b=some 0/\r7.size=es.length/\
   ∀(i:Nat) k v e,es[i]?=some (k,v)->r7[i]?=some e->aS w G k e.key/\aS w G v e.val/\v.b9=true/\k.b9=true
structure jn (w:World)(G:aQ)(st:ai):Prop where
 len:G.ls.length=st.length
 bC:∀(id:Nat) ob loc,st[id]?=some ob->G.ls[id]?=some loc->p6 w G ob loc
 mT:∀b p,G.mj b=some p->b<w.heap.size
theorem jn.loc{st:ai}(h:jn w G st){id:Nat}{ob:fq}(hs:st[id]?=some ob):∃loc,G.ls[id]?=some loc/\p6 w G ob loc:=by
 have hi:id<st.length:=(List.getElem?_eq_some_iff.1 hs).1;have:id<G.ls.length:=by rw[h.len];exact hi
 exact⟨G.ls[id],List.getElem?_eq_getElem this,h.bC id ob _ hs (List.getElem?_eq_getElem this)⟩
theorem Sn{st:ai}(hI:jn w G st){a:AV}{v:Value}{rows:List (List AV)}(h:aS w G a v)(hr:dD st a=some rows) :
  ∃p n c,v=.slice p n c/\n=rows.length:=by
 unfold dD at hr;split at hr;cases hr;cases h;exact⟨_,_,_,rfl,rfl⟩;cases hr;cases h;exact⟨_,_,_,rfl,rfl⟩;cases hr;cases h;exact⟨_,_,_,rfl,rfl⟩;cases hr;cases h;exact⟨_,_,_,rfl,rfl⟩;rename_i id b6;split at hr;rename_i v' sz ee gi;split at hr;rename_i hv;cases hr;obtain⟨loc,hl,ho⟩:=hI.loc gi;cases h with
 |mu _ _ _ loc' hp pZ Cp he=>
  rw[hl]at pZ;cases pZ;obtain⟨h1,h2,h3⟩:=ho;refine⟨_,_,_,he (by omega),h3.len⟩
 cases hr;cases hr;cases hr
theorem afM{op:BinOp}{t yt:TypeId}{x y:Operand}(ho:o.op=.binOp op t x y yt){a b v:AV}(hv:iT op a b=some v)(ha:aS w G a (ρ x))(hb:aS w G b (ρ y)) :
  ∃u,(execOp ρ o).run P w=.ok (.value u) w/\aS w G v u/\v.b9=true:=by
 unfold iT at hv;split at hv
 ·rename_i k p l q;split at hv
  ·rename_i hk;subst hk;have hx:=ha.fO;have hy:=hb.fO;simp only[execOp,ho,hx,hy];have hg:∀op (w:World),(eqGuard op t x y (.int k p) (.int k q)).run P w=.ok () w:=λop w=>cB t (by simp) (by simp) op x y w;cases op<;>simp only[lD]at hv<;>(try (cases hv;done))<;>(try (split at hv;· cases hv))<;>cases hv;all_goals first
    |(refine⟨_,?_,.int _ _,rfl⟩;simp[binOp,Op.intArith,Op.intBits,hg];done)
    |(refine⟨_,?_,.bool _,rfl⟩;simp[binOp,Op.intCmp,hg];done)
    |(rename_i h0;refine⟨_,?_,.int _ _,rfl⟩;simp[binOp,Op.intDiv,hg,if_neg h0];done)
  cases hv
 rename_i p q;obtain⟨s,hx,rfl⟩:=ha.mN;obtain⟨s',hy,rfl⟩:=hb.mN;simp only[execOp,ho,hx,hy];have hg:∀op (w:World),(eqGuard op t x y (.string s) (.string s')).run P w=.ok () w:=λop w=>cB t (by simp) (by simp) op x y w;have h1:s.data.toList.length=s.size:=by simp
 have h2:s'.data.toList.length=s'.size:=by simp
 split at hv;split at hv;rename_i hle;cases hv;refine⟨.string (s++s'),?_,.str _ _ (by simp),rfl⟩;have:¬(((s.size+s'.size:Nat):Int) > IntKind.i64.max):=by
  rw[h1,h2]at hle;have:IntKind.i64.max=9223372036854775807:=rfl;omega
 simp only[binOp,Op.stringOp,Sem.run_bind,hg,Result.andThen_ok,if_neg this,Sem.run_pure];cases hv;cases hv;exact⟨_,by simp[binOp,Op.stringOp,hg,ByteArray.toList_eq],.bool _,rfl⟩;cases hv;exact⟨_,by simp[binOp,Op.stringOp,hg,ByteArray.toList_eq],.bool _,rfl⟩;cases hv;cases hv
theorem binOp_eql{x:Value}(h:N2 x)(t:TypeId)(y:Value):binOp .eql t x y=(do pure (.bool (<-Op.equal t x y))):=by
 obtain⟨h1,h2,h3,h4⟩:=h;cases x<;>first|rfl|(cases y<;>first|rfl|simp_all)
theorem binOp_neq{x:Value}(h:N2 x)(t:TypeId)(y:Value):binOp .neq t x y=(do pure (.bool (!(<-Op.equal t x y)))):=by
 obtain⟨h1,h2,h3,h4⟩:=h;cases x<;>first|rfl|(cases y<;>first|rfl|simp_all)
theorem afN{t yt:TypeId}{x y:Operand}{k:EqK}{neg:Bool}(ho:o.op=.binOp (if neg then .neq else .eql) t x y yt)(ht:x4 P t k=true){a b:AV}{r:Bool}(hr:Ga k a b=some r)
  (ha:aS w G a (ρ x))(hb:aS w G b (ρ y)):∃u,(execOp ρ o).run P w=.ok (.value u) w/\aS w G (.bool (if neg then !r else r)) u:=by
 obtain⟨h1,h2,h3⟩:=W6 ht hr ha hb;refine⟨_,?_,.bool _⟩;simp only[execOp,ho];cases neg;simp[h2,binOp_eql h3,h1];simp[h2,binOp_neq h3,h1]
theorem W8{t yt:TypeId}{x y:Operand}{neg:Bool}(ho:o.op=.binOp (if neg then .neq else .eql) t x y yt)(ht:x4 P t .sl=true){st:ai}(hI:jn w G st){id b6 v sz:Nat}{rows:List (List AV)}(gi:st[id]?=some (.rows v sz rows))(hv:v=b6)
  (ha:aS w G (.mu id b6) (ρ x))(hb:aS w G .U (ρ y)):(execOp ρ o).run P w=.ok (.value (.bool neg)) w:=by
 obtain⟨loc,hl,So⟩:=hI.loc gi;obtain⟨e,hu⟩:=N1 ht;have hy:ρ y=.slice none 0 0:=by
  generalize ρ y=z at hb;cases hb;rfl
 obtain⟨p,n,c,hx⟩:∃p n c,ρ x=.slice (some p) n c:=by
  generalize ρ x=z at ha;cases ha with
  |mu _ _ _ loc' hp pZ Cp he=>
   rw[hl]at pZ;cases pZ;obtain⟨h1,h2,h3⟩:=So;have hz:=he (by omega);rcases h3.p0 with⟨_,_,h4⟩|⟨b,off,c,e,h4,_⟩;obtain⟨a,ha⟩:=Option.isSome_iff_exists.1 h4;rw[ha]at hz;exact⟨_,_,_,hz⟩;rw[h4]at hz;exact⟨_,_,_,hz⟩
 have h1:(Op.equal t (ρ x) (ρ y)).run P w=.ok false w:=by
  have Sl:∀(q:Option Addr) (n c:Nat),(Op.equalIn (9999+1) t (.slice q n c) (.slice none 0 0)).run P w=.ok q.isNone w:=by
   generalize 9999=D;intro q n c;cases q<;>simp[Op.equalIn,run_underlying hu]
  rw[hx,hy];unfold Op.equal Op.maxDepth;exact Sl (some p) n c
 have h2:∀op (xo yo:Operand),(eqGuard op t xo yo (ρ x) (ρ y)).run P w=.ok () w:=by
  rw[hx,hy];exact λop xo yo=>cB t (by simp) (by simp) op xo yo w
 have h3:N2 (ρ x):=by
  rw[hx];exact⟨by simp,by simp,by simp,by simp⟩
 simp only[execOp,ho];cases neg;simp[h2,binOp_eql h3,h1];simp[h2,binOp_neq h3,h1]
theorem aks{op:UnOp}{t:TypeId}{x:Operand}(ho:o.op=.unOp op t x){a v:AV}(hv:unV op a=some v)(ha:aS w G a (ρ x)) :
  ∃u,(execOp ρ o).run P w=.ok (.value u) w/\aS w G v u/\v.b9=true:=by
 unfold unV at hv;split at hv;rename_i k p;split at hv;cases hv;refine⟨_,?_,.int _ _,rfl⟩;simp only[execOp,ho,ha.fO];simp[Op.unary,Op.intArith];cases hv;rename_i b;split at hv;cases hv;refine⟨_,?_,.bool _,rfl⟩;simp only[execOp,ho,ha.jL];simp[Op.unary];cases hv;cases hv
theorem abq{s d:TypeId}{x:Operand}{k k':IntKind}(ho:o.op=.convert s d x)(hs:P.underlying s=some (.int k'))(hd:P.underlying d=some (.int k)){l:IntKind}{n:Int}(ha:aS w G (.int l n) (ρ x)) :
  (execOp ρ o).run P w=.ok (.value (.int k (k.wrap n))) w:=by
 simp only[execOp,ho,ha.fO];simp[convert,run_underlying hs,run_underlying hd,Conv.intToInt]
theorem afO{c:Call}(ho:o.op=.call c)(hc:c.callee=.builtin .len){x:Operand}{t:TypeId}(hx:c.args.toList=[x])(ht:c.argTypes[0]?=some t){k:LK}
  (hu:match k with|.sl=>∃e,P.underlying t=some (.slice e)|.str=>P.underlying t=some .string|.mp=>∃k e,P.underlying t=some (.map k e))
  {st:ai} (hI:jn w G st) {a:AV} {n:Nat} (hn:oD st k a=some n) (ha:aS w G a (ρ x)) :
  (execOp ρ o).run P w=.ok (.value (.int .i64 n)) w:=by
 have yf:c.args = #[x]:=by
  have:=congrArg List.toArray hx;simpa using this
 simp only[execOp,ho,resolve,hc,Sem.run_bind,Sem.run_pure,Result.andThen_ok,invoke,builtin,yf];simp only[Builtin.len_];unfold oD at hn;split at hn;obtain⟨s',hx',rfl⟩:=ha.mN;cases hn;simp[ht,run_underlying hu,hx',goInt];cases hn;obtain⟨km,em,hu⟩:=hu;cases h:ρ x<;>rw[h]at ha<;>cases ha;simp[ht,run_underlying hu,goInt,h];obtain⟨km,em,hu⟩:=hu;split at hn;rename_i es gi;cases hn;obtain⟨loc,hl,So⟩:=hI.loc gi;generalize J0:ρ x=xv at ha;cases ha with
 |map _ loc' b pZ hm hb=>
  rw[hl]at pZ;cases pZ;obtain⟨h1,h2,b',r7,clock,h3,h4,h5,h6,h7⟩:=So;rw[hb]at h3;cases h3;simp[ht,run_underlying hu,J0,goInt,getObj,Sem.run,h4,h6]
 cases hn;obtain⟨e,hu⟩:=hu;split at hn;rename_i rows hr;cases hn;obtain⟨p,m,cc,hx',rfl⟩:=Sn hI ha hr;simp[ht,run_underlying hu,hx',goInt];cases hn;cases hn
end Ax
namespace Ax
open Go
theorem dL{α:Type}:∀(cs:List α)(k:Nat)(vs:List α),(ah cs k vs).length=cs.length
 |[],0,[]=>rfl|[],0,_::_=>rfl|[],_+1,_=>rfl|_::_,0,[]=>rfl|_::cs,0,_::vs=>by simp[ah,dL cs 0 vs]|_::cs,k+1,vs=>by simp[ah,dL cs k vs]
theorem jk{α:Type}:∀(cs:List α)(k:Nat)(vs:List α)(i:Nat),k+vs.length<=cs.length->
  (ah cs k vs)[i]?=if k<=i/\i<k+vs.length then vs[i-k]? else cs[i]?
 |[],0,[],i,_=>by simp[ah]|[],0,_::_,i,h=>by simp at h|[],k+1,vs,i,h=>by simp at h|c::cs,0,[],i,_=>by simp[ah]|c::cs,0,v::vs,0,_=>by simp[ah]|c::cs,0,v::vs,i+1,h=>by
  have:=jk cs 0 vs i (by simp at h ⊢;omega);simp only[ah,List.getElem?_cons_succ,this,List.length_cons,Nat.zero_add,Nat.sub_zero,Nat.zero_le,true_and];by_cases hi:i<vs.length;simp[hi];simp[hi]
 |c::cs,k+1,vs,0,h=>by simp[ah]|c::cs,k+1,vs,i+1,h=>by
  have:=jk cs k vs i (by simp at h;omega);simp only[ah,List.getElem?_cons_succ,this];by_cases hi:k<=i/\i<k+vs.length;rw[if_pos hi,if_pos (by omega),show i+1-(k+1)=i-k by omega];rw[if_neg hi,if_neg (by omega)]
theorem jM{α:Type}(cs:List α)(k:Nat)(vs:List α)(h:k+vs.length<=cs.length):ah cs k vs=cs.take k++vs++cs.drop (k+vs.length):=by
 apply List.ext_getElem?;intro i;rw[jk cs k vs i h];by_cases h1:i<k;rw[if_neg (by omega),List.getElem?_append_left (by simp;omega),List.getElem?_append_left (by simp;omega),List.getElem?_take,if_pos h1];by_cases h2:i<k+vs.length;rw[if_pos (by omega),List.getElem?_append_left (by simp;omega),List.getElem?_append_right (by simp;omega)];simp only[List.length_take];rw[Nat.min_eq_left (by omega)];rw[if_neg (by omega),List.getElem?_append_right (by simp;omega)];simp only[List.length_append,List.length_take,List.getElem?_drop];rw[Nat.min_eq_left (by omega)];congr 1;omega
theorem Dy(b:Nat)(xs:List Value):bU b [] xs=0:=by cases xs<;>rfl
theorem fK(b:Nat):∀(as bs:List AV)(xs ys:List Value),as.length=xs.length->bU b (as++bs) (xs++ys)=bU b as xs+bU b bs ys
 |[],bs,[],ys,_=>by simp[bU]|[],_,_::_,_,h=>by simp at h|_::_,_,[],_,h=>by simp at h|a::as,bs,x::xs,ys,h=>by
  simp only[List.cons_append,bU];rw[fK b as bs xs ys (by simpa using h)];omega
theorem lH(b n:Nat)(as:List AV)(xs:List Value)(h:as.length=xs.length):bU b as xs=bU b (as.take n) (xs.take n)+bU b (as.drop n) (xs.drop n):=by
 rw[<-fK b _ _ _ _ (by simp[h]),List.take_append_drop,List.take_append_drop]
theorem xm(b n:Nat)(as:List AV)(xs:List Value)(h:as.length=xs.length):bU b (as.drop n) (xs.drop n)<=bU b as xs:=by
 have:=lH b n as xs h;omega
theorem Qh(b n:Nat)(as:List AV)(xs:List Value)(h:as.length=xs.length):bU b (as.take n) (xs.take n)<=bU b as xs:=by
 have:=lH b n as xs h;omega
theorem rj(b:Nat)(as vs:List AV)(xs ys:List Value)(k:Nat)(h1:as.length=xs.length)(h2:vs.length=ys.length)(h:k+vs.length<=as.length) :
  bU b (ah as k vs) (ah xs k ys)<=bU b as xs+bU b vs ys:=by
 rw[jM _ _ _ h,jM _ _ _ (by omega)];rw[fK b _ _ _ _ (by simp;omega),fK b _ _ _ _ (by simp;omega)];have e1:=lH b k as xs h1;have e2:=xm b vs.length (as.drop k) (xs.drop k) (by simp;omega);rw[List.drop_drop,List.drop_drop]at e2;rw[h2]at *;omega
section
variable {w:World}{G:aQ}
theorem cn.ah{as vs:List AV}{xs ys:List Value}(h:cn w G as xs)(k:cn w G vs ys){n:Nat}(hn:n+vs.length<=as.length):cn w G (Ax.ah as n vs) (Ax.ah xs n ys):=by
 refine⟨by rw[dL,dL];exact h.1,λi c v hc hv=>?_⟩;have h1:=h.1;have h2:=k.1;rw[jk _ _ _ _ hn]at hc;rw[jk _ _ _ _ (by omega)]at hv;rw[<-h2]at hv;split at hc;rename_i hi;rw[if_pos hi]at hv;exact k.2 _ c v hc hv;rename_i hi;rw[if_neg hi]at hv;exact h.2 _ c v hc hv
theorem aS.cells{a:AV}{v:Value}(h:aS w G a v):cn w G a.cells v.cells.toList/\∀b,bU b a.cells v.cells.toList=fG b a v:=by
 have one:∀{a:AV} {v:Value},aS w G a v->(∀cs,a≠.agg cs)->(∀cs,v≠.agg cs)->cn w G a.cells v.cells.toList/\∀b,bU b a.cells v.cells.toList=fG b a v:=by
  intro a v h h1 h2;have e1:a.cells=[a]:=by cases a<;>first|rfl|exact absurd rfl (h1 _)
  have e2:v.cells = #[v]:=by cases v<;>first|rfl|exact absurd rfl (h2 _)
  rw[e1,e2];refine⟨⟨rfl,λi c x hc hx=>?_⟩,λb=>by simp[bU]⟩;cases i with
  |zero=>simp at hc hx;subst hc;subst hx;exact h|succ i=>simp at hc
 cases a with
 |agg cs=>
  cases h with
  |agg _ vs hl hh=>exact⟨⟨by simpa [AV.cells,Value.cells] using hl,λi c x hc hx=>hh i c x hc (by simpa [Value.cells] using hx)⟩,λb=>by simp[AV.cells,Value.cells,fG]⟩
 |gone=>
  refine one h (by simp) λcs e=>?_;subst e;cases h with|gone _ h=>simp[Value.oneCell']at h
 |mu id b6=>
  refine one h (by simp) λcs e=>?_;subst e;cases h with|mu _ _ _ _ hp=>obtain⟨p,n,c,hp⟩:=hp;cases hp
 |ptr id b6 i k=>
  refine one h (by simp) λcs e=>?_;subst e;cases h with|ptr _ _ _ _ _ _ hp=>obtain⟨p,hp⟩:=hp;cases hp
 |undef=>refine one h (by simp) λcs e=>?_;subst e;generalize hx:Value.agg cs=x at h;cases h;cases hx|bool _|int _ _|str _|cY|U|fU|jb|kC|fF _|dc _ _|lA _ _|raw _ _|lU|qm _ _ _ _|map _|fn _ _ _=>
  refine one h (by simp) λcs e=>?_;subst e;cases h
theorem Sp{a:AV}{v:Value}(h:aS w G a v)(hc:a.cL=true):v.oneCell'=true:=by
 cases h with
 |agg _ _ _ _=>simp[AV.cL]at hc|fF _ _ _ _=>simp[AV.cL]at hc|undef=>simp[AV.cL]at hc|gone _ h=>exact h|mu _ _ _ _ hp=>obtain⟨p,n,c,rfl⟩:=hp;rfl|ptr _ _ _ _ _ _ hp=>obtain⟨p,rfl⟩:=hp;rfl|_=>rfl
theorem cn.W9{as:List AV}{xs:List Value}(h:cn w G as xs)(hc:AV.aO as=true):∀v∈xs,v.oneCell'=true:=by
 intro v hv;obtain⟨i,hi,rfl⟩:=List.mem_iff_getElem.1 hv;have qK:i<as.length:=by have:=h.1;omega
 refine Sp (h.2 i as[i] xs[i] (List.getElem?_eq_getElem qK) (List.getElem?_eq_getElem hi)) ?_;simp only[AV.aO,List.all_eq_true]at hc;exact hc _ (List.getElem_mem qK)
theorem cn.mono{as:List AV}{xs:List Value}{w':World}{G':aQ}(h:cn w G as xs)(hs:sK w G w' G')(ho:∀b,0<bU b as xs->G'.mj b=G.mj b/\w'.heap[b]?=w.heap[b]?):cn w' G' as xs:=
 ⟨h.1,λi c v hc hv=>(h.2 i c v hc hv).jj hs λb hb=>ho b (by have:=v8 b as xs i c v hc hv;omega)⟩
end
theorem Ms(off:Nat)(l:List Value)(cs:Array Value)(h:off+l.length<=cs.size) :
  (l.toArray.zipIdx.foldl (λcs (c,j)=>cs.setIfInBounds (off+j) c) cs).toList=ah cs.toList off l:=by
 have key:∀(l:List Value) (s:Nat) (cs:Array Value),off+s+l.length<=cs.size->
   ((l.zipIdx s).foldl (λ(cs:Array Value) (x:Value×Nat)=>cs.setIfInBounds (off+x.2) x.1) cs).toList=ah cs.toList (off+s) l:=by
  intro l;induction l with
  |nil=>intro s cs h;simp;rw[jM _ _ _ (by simpa using h)];simp|cons v l ih=>
   intro s cs h;simp only[List.length_cons]at h;rw[List.zipIdx_cons,List.foldl_cons,ih (s+1) _ (by simp;omega)];simp only[Array.toList_setIfInBounds];apply List.ext_getElem?;intro i;rw[jk _ _ _ _ (by simp;omega),jk _ _ _ _ (by simp;omega)];simp only[List.length_cons];by_cases hi:i=off+s;subst hi;rw[if_neg (by omega),if_pos (by omega),List.getElem?_set_self (by simp;omega)];simp;by_cases h2:off+s<=i/\i<off+s+(l.length+1);rw[if_pos (by omega),if_pos h2];have:i-(off+s)=(i-(off+(s+1)))+1:=by omega
   rw[this,List.getElem?_cons_succ];rw[if_neg (by omega),if_neg h2,List.getElem?_set,if_neg (by omega)]
 have:=key l 0 cs (by simpa using h);simp only[Nat.add_zero]at this;rw[<-this,<-Array.foldl_toList];simp
end Ax
