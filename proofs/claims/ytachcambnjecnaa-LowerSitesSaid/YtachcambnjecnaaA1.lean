/- The library of this proof, part 1: an abstract interpreter of the loaded code, and its soundness. -/
import Derived.Calls
import Derived.Laws.Sem
import Derived.Laws.Entries
import Derived.ChangeKeysEq
import Derived.Laws.StructEq
import Derived.Laws.Pointers
import Derived.Great.FillDense

namespace Ax
open Go
inductive AV where
 |undef|gone
 |bool (b:Bool)|int (k:IntKind) (n:Int)|str (s:List UInt8)
 |eO|U|fG|iw|jF
 |agg (cs:List AV)|fK (vs:List AV)
 |dj (sz:Nat) (rows:List (List AV))
 |je (sz:Nat) (rows:List (List AV))
 |raw (sz:Nat) (rows:List (List AV))
 |kV
 |mu (id bX:Nat)
 |ptr (id bX i k:Nat)
 |ox (sz:Nat) (rows:List (List AV)) (i k:Nat)
 |map (id:Nat)
 |fn (f:Nat) (first ke:List AV)
 deriving Inhabited
mutual
def AV.an:AV->Bool
 |.mu _ _|.ptr _ _ _ _|.map _=>false
 |.agg cs|.fK cs=>AV.ah cs
 |.fn _ a b=>AV.ah a&&AV.ah b
 |_=>true
def AV.ah:List AV->Bool
 |[]=>true
 |v::r=>v.an&&AV.ah r
end
mutual
def AV.view:AV->AV
 |.je sz rows=>.dj sz rows
 |.raw _ _=>.gone
 |.agg cs=>.agg (AV.cL cs)
 |.fK cs=>.fK (AV.cL cs)
 |v=>v
def AV.cL:List AV->List AV
 |[]=>[]
 |v::r=>v.view::AV.cL r
end
mutual
def AV.fU:AV->AV->Bool
 |.undef,.undef|.gone,.gone|.eO,.eO|.U,.U|.fG,.fG|.iw,.iw|.jF,.jF|.kV,.kV=>true
 |.bool a,.bool b=>a==b
 |.int k a,.int l b=>k==l&&a==b
 |.str a,.str b=>a==b
 |.agg a,.agg b|.fK a,.fK b=>AV.qh a b
 |.dj s a,.dj t b|.je s a,.je t b|.raw s a,.raw t b=>s==t&&AV.qL a b
 |.mu i v,.mu j w=>i==j&&v==w
 |.ptr a b c d,.ptr a' b' c' d'=>a==a'&&b==b'&&c==c'&&d==d'
 |.ox s a i k,.ox t b j l=>s==t&&AV.qL a b&&i==j&&k==l
 |.map i,.map j=>i==j
 |.fn f a b,.fn g c d=>f==g&&AV.qh a c&&AV.qh b d
 |_,_=>false
def AV.qh:List AV->List AV->Bool
 |[],[]=>true
 |a::x,b::y=>a.fU b&&AV.qh x y
 |_,_=>false
def AV.qL:List (List AV)->List (List AV)->Bool
 |[],[]=>true
 |a::x,b::y=>AV.qh a b&&AV.qL x y
 |_,_=>false
end
def AV.cells:AV->List AV
 |.agg cs=>cs
 |v=>[v]
def AV.cH:AV->Bool
 |.agg _|.fK _|.undef=>false
 |_=>true
def AV.aK(cs:List AV):Bool:=cs.all AV.cH
def AV.iM:AV->AV
 |.je _ _=>.gone
 |.raw _ _=>.gone
 |v=>v
inductive eG where
 |none
 |val (v:AV)
 |fp (j k:Nat)
 deriving Inhabited
def eG.view:eG->eG
 |.val v=>.val v.view
 |e=>e
def eG.fU:eG->eG->Bool
 |.none,.none=>true
 |.val a,.val b=>a.fU b
 |.fp j k,.fp l m=>j==l&&k==m
 |_,_=>false
def eG.nL(j:Nat):eG->Bool
 |.fp j' _=>j' != j
 |_=>true
inductive fL where
 |rows (bX sz:Nat) (rows:List (List AV))
 |map (es:List (AV×AV))
 deriving Inhabited
abbrev aj:=List fL
abbrev aU:=List (List AV)
inductive Src where
 |tmp (t:Nat) (mv:Bool)
 |const (a:AV)
 deriving Inhabited
abbrev nZ:=List (Nat×eG)
def cQ:nZ->Nat->eG
 |[],_=>.none
 |(k,e)::r,t=>if k=t then e else cQ r t
def tH:nZ->Nat->eG->nZ
 |[],t,e=>[(t,e)]
 |(k,x)::r,t,e=>if t<k then (t,e)::(k,x)::r else if t=k then (t,e)::r else (k,x)::tH r t e
def Ah:nZ->Nat->nZ
 |[],_=>[]
 |(k,x)::r,t=>if k=t then Ah r t else (k,x)::Ah r t
def GC(env:nZ):Src->eG
 |.tmp t true=>cQ env t
 |.tmp t false=>(cQ env t).view
 |.const a=>.val a
def k8:nZ->Src->nZ
 |env,.tmp t true=>Ah env t
 |env,_=>env
structure St where
 env:nZ
 bx:aU
 st:aj
 deriving Inhabited
inductive Mode where
 |pure|l9|Ds
 deriving DecidableEq,Inhabited
inductive SK where
 |bool|int|str
 deriving DecidableEq,Inhabited
inductive LK where
 |str|sl|mp
 deriving DecidableEq,Inhabited
inductive EqK where
 |sc (k:SK)
 |ptr|sl|fn
 |flat (ks:List SK)
 deriving DecidableEq,Inhabited
inductive fQ where
 |move
 |pick
 |aR (op:BinOp)
 |Ai (k:EqK) (neg:Bool)
 |K7 (neg:Bool)
 |un (op:UnOp)
 |conv (k:IntKind)
 |OJ
 |len (k:LK)
 |EW (mx:Bool)
 |nilCheck
 |extract (i:Nat)
 |field (off n:Nat) (agg:Bool)
 |build (zero:List AV) (parts:List (Nat×Nat))
 |lit (sz n:Nat) (zero:List AV) (parts:List Nat)
 |Tp (sz n:Nat) (zero:List AV) (parts:List Nat)
 |fieldAddr (off:Nat)
 |indexAddr (sz:Nat)
 |index
 |slice (tJ lo hi mx:Bool) (sz:Nat)
 |wz (sz:Nat)
 |load (agg:Bool) (n:Nat) (take:Bool)
 |aE (j:Nat) (agg:Bool) (n:Nat) (take:Bool)
 |store (n:Nat)
 |ai (j n:Nat)
 |alloc (zero:List AV)
 |aH (j:Nat) (zero:List AV)
 |box (n:Nat)
 |gq (j n:Nat)
 |append (sz bytes:Nat)
 |mc (sz bytes:Nat)
 |rO (sz bytes:Nat) (zero:List AV) (mt:Bool)
 |AD (sz bytes:Nat) (zero:List AV)
 |uJ (sz bytes:Nat) (zero:List AV)
 |Tq
 |makeMap
 |mapUpdate (kk:SK)
 |lookup (kk:SK) (zero:AV) (ok:Bool)
 |makeFunc (f agN:Nat)
 |call (f:Nat)
 |pz
 |copy (sz:Nat)
 deriving Inhabited
structure aX where
 dst:Option Nat
 op:fQ
 args:List Src
 guard:Option (Nat×Bool)
 deriving Inhabited
inductive bQ where
 |skip
 |region (cT:List aX) (draw:Option (List (Nat×Nat))) (dM:List Nat)
 |seq (a b:bQ)
 |cond (c:Src) (alH:List Nat) (thn:bQ) (alI:List Nat) (OK:bQ)
 |block (id:Nat) (body:bQ)
 |loop (body:bQ)
 |exit (id:Nat)
 |ret
 |OL (t:Nat)
 |Bb (j k:Nat)
 |vI (t off:Nat)
 deriving Inhabited
inductive jV where
 |tmp (t:Nat) (mv:Bool)
 |box (t j n:Nat) (agg:Bool)
 |cell (t:Nat) (n:Nat) (agg:Bool)
 deriving Inhabited
structure aD where
 fV:Nat
 mode:Mode
 aF:Nat
 aP:Nat
 dM:List Nat
 results:List jV
 body:bQ
 deriving Inhabited
inductive Ex where
 |normal
 |exit (id:Nat)
 |ret (v:AV)
 deriving Inhabited
structure jC where
 call:Nat->Nat->Nat->List AV->aj->Option (AV×aj)
 loop:Nat->Nat->List jV->bQ->St->Option (Ex×St)
def dQ:Nat:=140737488355328
def Dk:SK->AV->AV->Option Bool
 |.bool,.bool a,.bool b=>some (a==b)
 |.int,.int k a,.int l b=>if k=l then some (a==b) else none
 |.str,.str a,.str b=>some (a==b)
 |_,_,_=>none
def Dl:List SK->List AV->List AV->Option Bool
 |[],[],[]=>some true
 |k::ks,a::as,b::bs=>match Dk k a b,Dl ks as bs with
  |some p,some q=>some (p&&q)
  |_,_=>none
 |_,_,_=>none
def GF:EqK->AV->AV->Option Bool
 |.sc k,a,b=>Dk k a b
 |.flat ks,.agg a,.agg b=>Dl ks a b
 |.ptr,.eO,.eO=>some true
 |.ptr,.eO,.ptr _ _ _ _|.ptr,.eO,.ox _ _ _ _|.ptr,.ptr _ _ _ _,.eO|.ptr,.ox _ _ _ _,.eO=>some false
 |.fn,.iw,.iw=>some true
 |.fn,.iw,.fn _ _ _|.fn,.fn _ _ _,.iw=>some false
 |.sl,.U,.U=>some true
 |.sl,.U,.dj _ _|.sl,.U,.je _ _|.sl,.U,.kV|.sl,.dj _ _,.U|.sl,.je _ _,.U|.sl,.kV,.U=>some false
 |_,_,_=>none
def kg(op:BinOp)(k:IntKind)(a b:Int):Option AV:=
 match op with
 |.add=>some (.int k (k.wrap (a+b)))
 |.sub=>some (.int k (k.wrap (a-b)))
 |.mul=>some (.int k (k.wrap (a*b)))
 |.quo=>if b=0 then none else some (.int k (k.wrap (a.tdiv b)))
 |.rem=>if b=0 then none else some (.int k (a.tmod b))
 |.and=>some (.int k (k.wrap ((BitVec.ofInt k.bits a &&& BitVec.ofInt k.bits b).toNat)))
 |.eql=>some (.bool (a==b))
 |.neq=>some (.bool (a != b))
 |.lss=>some (.bool (decide (a<b)))
 |.leq=>some (.bool (decide (a<=b)))
 |.gtr=>some (.bool (decide (a > b)))
 |.geq=>some (.bool (decide (a ≥ b)))
 |_=>none
def Aj(op:BinOp):AV->AV->Option AV
 |.int k a,.int l b=>if k=l then kg op k a b else none
 |.str a,.str b=>
  match op with
  |.add=>if a.length+b.length<=4611686018427387904 then some (.str (a++b)) else none
  |.eql=>some (.bool (a==b))
  |.neq=>some (.bool (!(a==b)))
  |_=>none
 |_,_=>none
def XE(op:UnOp):AV->Option AV
 |.int k a=>match op with|.neg=>some (.int k (k.wrap (0-a)))|_=>none
 |.bool b=>match op with|.not=>some (.bool (!b))|_=>none
 |_=>none
def eC(st:aj):AV->Option (List (List AV))
 |.U|.kV=>some []
 |.dj _ rows|.je _ rows=>some rows
 |.mu id bX=>match st[id]? with
  |some (.rows v _ rows)=>if v=bX then some rows else none
  |_=>none
 |_=>none
def eI(s:List UInt8):List (List AV):=s.map λb=>[.int .u8 b.toNat]
def dG(st:aj):AV->Option (List (List AV))
 |.str s=>some (eI s)
 |.mu id bX=>match eC st (.mu id bX) with|some rows=>some (rows.map AV.cL)|none=>none
 |v=>eC st v
def bU(sz:Nat)(rows:List (List AV)):Bool:=rows.all λr=>r.length==sz
def mV(st:aj):LK->AV->Option Nat
 |.str,.str s=>some s.length
 |.mp,.fG=>some 0
 |.mp,.map id=>match st[id]? with|some (.map es)=>some es.length|_=>none
 |.sl,v=>match eC st v with|some rows=>some rows.length|none=>none
 |_,_=>none
def cut(cs:List AV)(k n:Nat):Option (List AV):=if k+n<=cs.length then some ((cs.drop k).take n) else none
def fY(st:aj):AV->Nat->Option (List AV)
 |.ptr id bX i k,n=>match st[id]? with
  |some (.rows v _ rows)=>if v=bX then match rows[i]? with|some r=>cut r k n|none=>none else none
  |_=>none
 |.ox _ rows i k,n=>match rows[i]? with|some r=>cut r k n|none=>none
 |_,_=>none
def af{α:Type}:List α->Nat->List α->List α
 |cs,0,[]=>cs
 |_::cs,0,v::vs=>v::af cs 0 vs
 |c::cs,k+1,vs=>c::af cs k vs
 |[],_,_=>[]
def bh(wl aa id:Nat)(cells:List AV):Bool:=decide (wl<=id)&&(decide (aa<=id)||AV.ah cells)
def dR(wl aa:Nat)(st:aj):AV->List AV->Option aj
 |.ptr id bX i k,cells=>match st[id]? with
  |some (.rows v sz rows)=>
   if v=bX&&bh wl aa id cells then
    match rows[i]? with
    |some r=>if k+cells.length<=r.length then some (st.set id (.rows v sz (rows.set i (af r k cells)))) else none
    |none=>none
   else none
  |_=>none
 |_,_=>none
def b9(agg:Bool)(cells:List AV):Option AV:=
 if agg then some (.agg cells) else match cells with | [v]=>some v|_=>none
def ir:List AV->List (Nat×Nat)->List AV->Option (List AV)
 |cs,[],[]=>some cs
 |cs,(off,n)::ps,v::vs=>
  if v.cells.length=n&&off+n<=cs.length then ir (af cs off v.cells) ps vs else none
 |_,_,_=>none
def fN(sz:Nat):List (List AV)->List Nat->List AV->Option (List (List AV))
 |rows,[],[]=>some rows
 |rows,i::ps,v::vs=>if v.cells.length=sz&&i<rows.length then fN sz (rows.set i v.cells) ps vs else none
 |_,_,_=>none
def qi(kk:SK)(k:AV):List (AV×AV)->Option (Option AV)
 |[]=>some none
 |(a,v)::r=>match Dk kk k a with|some true=>some (some v)|some false=>qi kk k r|none=>none
def Dt(kk:SK)(k v:AV):List (AV×AV)->Option (List (AV×AV))
 |[]=>some [(k,v)]
 |(a,u)::r=>match Dk kk k a with
  |some true=>some ((k,v)::r)
  |some false=>match Dt kk k v r with|some r'=>some ((a,u)::r')|none=>none
  |none=>none
def DP:SK->AV->Bool
 |.int,.int _ _|.str,.str _|.bool,.bool _=>true
 |_,_=>false
def iO:List eG->Option (List AV)
 |[]=>some []
 |.val v::r=>match iO r with|some vs=>some (v::vs)|none=>none
 |_::_=>none
def qj:List (List AV)->Option (List UInt8)
 |[]=>some []
 |[.int .u8 n]::r=>if 0<=n/\n<256 then match qj r with|some l=>some (UInt8.ofNat n.toNat::l)|none=>none else none
 |_=>none
def qk(bO:Bool)(XF:Int)(l:List eG):Option (Int×List eG):=
 if bO then match l with|.val (.int .i64 n)::r=>some (n,r)|_=>none else some (XF,l)
def jK(tJ:Bool)(sz:Nat)(x:AV)(lo hi:Int)(mx:Option Int):Option AV:=
 match tJ,x with
 |true,.str s=>if mx.isNone&&decide (0<=lo)&&decide (lo<=hi)&&decide (hi<=s.length) then some (.str ((s.take hi.toNat).drop lo.toNat)) else none
 |false,.U=>if lo=0&&hi=0&&(match mx with|some m=>m==0|none=>true) then some .U else none
 |false,.kV=>if lo=0&&hi=0&&(match mx with|some m=>m==0|none=>true) then some .kV else none
 |false,.dj s rows|false,.je s rows=>
  match mx with
  |none=>if s=sz&&decide (0<=lo)&&decide (lo<=hi)&&decide (hi<=rows.length) then some (.dj sz ((rows.take hi.toNat).drop lo.toNat)) else none
  |some m=>if lo=0&&hi=0&&m=0 then some .kV else none
 |_,_=>none
def yC(wl aa sz bytes:Nat)(s:AV)(new:List (List AV))(st:aj)(bx:aU):Option (eG×aj×aU):=
 if bU sz new then match s with
  |.U=>if new.isEmpty then some (.val .U,st,bx) else if new.length*bytes<=dQ then some (.val (.mu st.length 0),st++[.rows 0 sz new],bx) else none
  |.kV=>if new.length*bytes<=dQ then some (.val (.mu st.length 0),st++[.rows 0 sz new],bx) else none
  |.mu id bX=>match st[id]? with
   |some (.rows v jf old)=>
    if v=bX&&jf=sz&&decide ((old.length+new.length)*bytes<=dQ)&&decide (wl<=id)&&(decide (aa<=id)||new.all AV.ah) then
     some (.val (.mu id (v+1)),st.set id (.rows (v+1) sz (old++new)),bx) else none
   |_=>none
  |_=>none else none
def aL(wl aa:Nat)(op:fQ)(vals:List eG)(st:aj)(bx:aU):Option (eG×aj×aU):=
 match op with
 |.move=>match vals with
  |[e]=>some (e,st,bx)
  |_=>none
 |.pick=>match vals with
  |[.val (.bool b),x,y]=>some (if b then x else y,st,bx)
  |_=>none
 |.aR op=>match vals with
  |[.val x,.val y]=>match Aj op x y with|some v=>some (.val v,st,bx)|none=>none
  |_=>none
 |.Ai k neg=>match vals with
  |[.val x,.val y]=>match GF k x y with|some b=>some (.val (.bool (if neg then !b else b)),st,bx)|none=>none
  |_=>none
 |.K7 neg=>match vals with
  |[.val (.mu id bX),.val .U]=>match st[id]? with
   |some (.rows v _ _)=>if v=bX then some (.val (.bool neg),st,bx) else none
   |_=>none
  |_=>none
 |.un op=>match vals with
  |[.val x]=>match XE op x with|some v=>some (.val v,st,bx)|none=>none
  |_=>none
 |.conv k=>match vals with
  |[.val (.int _ n)]=>some (.val (.int k (k.wrap n)),st,bx)
  |_=>none
 |.OJ=>match vals with
  |[.val x]=>match eC st x with
   |some rows=>match qj rows with|some s=>some (.val (.str s),st,bx)|none=>none
   |none=>none
  |_=>none
 |.len k=>match vals with
  |[.val x]=>match mV st k x with|some n=>some (.val (.int .i64 n),st,bx)|none=>none
  |_=>none
 |.EW mx=>match vals with
  |[.val (.int k a),.val (.int l b)]=>
   if k=l then some (.val (.int k (if mx then (if b > a then b else a) else (if b<a then b else a))),st,bx) else none
  |_=>none
 |.nilCheck=>match vals with
  |[.fp j k]=>some (.fp j k,st,bx)
  |[.val x]=>match x with
   |.ptr .. | .ox ..=>some (.val x,st,bx)
   |_=>none
  |_=>none
 |.extract i=>match vals with
  |[.val (.fK vs)]=>match vs[i]? with|some v=>some (.val v,st,bx)|none=>none
  |_=>none
 |.field off n agg=>match vals with
  |[.val (.agg cs)]=>match cut cs off n with
   |some r=>match b9 agg r with|some v=>some (.val v,st,bx)|none=>none
   |none=>none
  |_=>none
 |.build zero parts=>match vals with
  |l=>match iO l with
   |some vs=>match ir zero parts vs with|some cs=>some (.val (.agg cs),st,bx)|none=>none
   |none=>none
 |.lit sz n zero parts=>match vals with
  |l=>match iO l with
   |some vs=>match fN sz (List.replicate n zero) parts (AV.cL vs) with
    |some rows=>if rows.all AV.ah&&rows.all AV.aK then some (.val (if n=0 then .kV else .dj sz rows),st,bx) else none
    |none=>none
   |none=>none
 |.Tp sz n zero parts=>match vals with
  |l=>match iO l with
   |some vs=>match fN sz (List.replicate n zero) parts vs with
    |some rows=>if rows.all AV.aK&&decide (0<n) then some (.val (.mu st.length 0),st++[.rows 0 sz rows],bx) else none
    |none=>none
   |none=>none
 |.fieldAddr off=>match vals with
  |[.fp j k]=>some (.fp j (k+off),st,bx)
  |[.val (.ptr id bX i k)]=>some (.val (.ptr id bX i (k+off)),st,bx)
  |[.val (.ox sz rows i k)]=>some (.val (.ox sz rows i (k+off)),st,bx)
  |_=>none
 |.indexAddr sz=>match vals with
  |[.val x,.val (.int .i64 i)]=>match x with
   |.dj s rows|.je s rows=>if s=sz&&decide (0<=i)&&decide (i<rows.length) then some (.val (.ox sz rows i.toNat 0),st,bx) else none
   |.mu id bX=>match st[id]? with
    |some (.rows v s rows)=>if v=bX&&s=sz&&decide (0<=i)&&decide (i<rows.length) then some (.val (.ptr id bX i.toNat 0),st,bx) else none
    |_=>none
   |_=>none
  |_=>none
 |.index=>match vals with
  |[.val (.str s),.val (.int .i64 i)]=>
   if 0<=i then match s[i.toNat]? with|some b=>some (.val (.int .u8 b.toNat),st,bx)|none=>none else none
  |_=>none
 |.slice tJ lo hi mx sz=>match vals with
  |.val x::l=>match mV st (if tJ then .str else .sl) x with
   |none=>none
   |some n=>match qk lo 0 l with
    |none=>none
    |some (a,l)=>match qk hi n l with
     |none=>none
     |some (b,l)=>match mx,l with
      |false,[]=>match jK tJ sz x a b none with|some v=>some (.val v,st,bx)|none=>none
      |true,[.val (.int .i64 m)]=>match jK tJ sz x a b (some m) with|some v=>some (.val v,st,bx)|none=>none
      |_,_=>none
  |_=>none
 |.wz sz=>match vals with
  |[.val (.mu id bX),.val (.int .i64 hi)]=>match st[id]? with
   |some (.rows v s rows)=>if v=bX&&s=sz&&decide (0<=hi)&&decide (hi<=rows.length)&&decide (wl<=id) then
     some (.val (.mu id (v+1)),st.set id (.rows (v+1) s (rows.take hi.toNat)),bx) else none
   |_=>none
  |_=>none
 |.load agg n take=>match vals with
  |[.val p]=>match fY st p n with
   |some cs=>
    if take then
     match dR wl aa st p (cs.map AV.iM),b9 agg cs with
     |some bS,some v=>some (.val v,bS,bx)
     |_,_=>none
    else match b9 agg (AV.cL cs) with|some v=>some (.val v,st,bx)|none=>none
   |none=>none
  |_=>none
 |.aE j agg n take=>match vals with
  |[.fp j' k]=>if j=j' then match bx[j]? with
    |some row=>match cut row k n with
     |some cs=>
      if take then match b9 agg cs with|some v=>some (.val v,st,bx.set j (af row k (cs.map AV.iM)))|none=>none
      else match b9 agg (AV.cL cs) with|some v=>some (.val v,st,bx)|none=>none
     |none=>none
    |none=>none
   else none
  |_=>none
 |.store n=>match vals with
  |[.val p,.val v]=>if v.cells.length=n&&AV.aK v.cells then
    match dR wl aa st p v.cells with|some bS=>some (.none,bS,bx)|none=>none else none
  |_=>none
 |.ai j n=>match vals with
  |[.fp j' k,.val v]=>if j=j'&&v.cells.length=n&&AV.aK v.cells then match bx[j]? with
    |some row=>if k+n<=row.length then some (.none,st,bx.set j (af row k v.cells)) else none
    |none=>none
   else none
  |_=>none
 |.alloc zero=>match vals with
  |[]=>some (.val (.ptr st.length 0 0 0),st++[.rows 0 zero.length [zero]],bx)
  |_=>none
 |.aH j zero=>match vals with
  |[]=>if j<bx.length then some (.fp j 0,st,bx.set j zero) else none
  |_=>none
 |.box n=>match vals with
  |[.val v]=>if v.cells.length=n&&AV.aK v.cells then some (.val (.ptr st.length 0 0 0),st++[.rows 0 n [v.cells]],bx) else none
  |_=>none
 |.gq j n=>match vals with
  |[.val v]=>if j<bx.length&&v.cells.length=n&&AV.aK v.cells then some (.fp j 0,st,bx.set j v.cells) else none
  |_=>none
 |.append sz bytes=>match vals with
  |[.val s,.val x]=>match dG [] x with
   |none=>none
   |some new=>if bU sz new then match s with
    |.U|.kV=>if new.isEmpty then some (.val s,st,bx) else if new.length*bytes<=dQ then some (.val (.je sz new),st,bx) else none
    |.je jf old=>if jf=sz&&decide ((old.length+new.length)*bytes<=dQ) then some (.val (.je sz (old++new)),st,bx) else none
    |_=>none else none
  |_=>none
 |.mc sz bytes=>match vals with
  |[.val s,.val x]=>match dG st x with
   |none=>none
   |some new=>yC wl aa sz bytes s new st bx
  |_=>none
 |.rO sz bytes zero mt=>match vals with
  |[.val (.int .i64 n),.val (.int .i64 c)]=>
   if 0<=n/\n<=c/\c*bytes<=dQ/\zero.length=sz then
    if mt then some (.val (.mu st.length 0),st++[.rows 0 sz (List.replicate n.toNat zero)],bx)
    else if AV.ah zero then some (.val (.je sz (List.replicate n.toNat zero)),st,bx) else none
   else none
  |_=>none
 |.AD sz bytes zero=>match vals with
  |[.val (.int .i64 n),.val (.int .i64 c)]=>
   if 0<=n/\n<=c/\c*bytes<=dQ/\zero.length=sz/\AV.ah zero=true then some (.val (.raw sz (List.replicate n.toNat zero)),st,bx) else none
  |_=>none
 |.uJ sz bytes zero=>match vals with
  |[.val s,.val (.int .i64 n)]=>
   if 0<=n/\n*bytes<=dQ/\zero.length=sz/\AV.ah zero=true then yC wl aa sz bytes s (List.replicate n.toNat zero) st bx else none
  |_=>none
 |.Tq=>match vals with
  |[.val .U]=>some (.val (.int .i64 0),st,bx)
  |_=>none
 |.makeMap=>match vals with
  |[]=>some (.val (.map st.length),st++[.map []],bx)
  |_=>none
 |.mapUpdate kk=>match vals with
  |[.val (.map id),.val k,.val v]=>match st[id]? with
   |some (.map es)=>if DP kk k&&bh wl aa id [v] then match Dt kk k v.view es with|some tK=>some (.none,st.set id (.map tK),bx)|none=>none else none
   |_=>none
  |_=>none
 |.lookup kk zero ok=>match vals with
  |[.val m,.val k]=>
   match (match m with|.fG=>some []|.map id=>(match st[id]? with|some (.map es)=>some es|_=>none)|_=>none) with
   |none=>none
   |some es=>if DP kk k then match qi kk k es with
    |none=>none
    |some r=>let v:=r.getD zero
     some (.val (if ok then .fK [v,.bool r.isSome] else v),st,bx)
    else none
  |_=>none
 |.makeFunc f n=>match vals with
  |l=>match iO l with
   |some vs=>some (.val (.fn f (AV.cL (vs.take n)) (AV.cL (vs.drop n))),st,bx)
   |none=>none
 |.copy sz=>match vals with
  |[.val (.mu id bX),.val x]=>match st[id]?,dG st x with
   |some (.rows v jf old),some new=>
    if v=bX&&jf=sz&&bU sz new&&decide (new.length<=old.length)&&decide (wl<=id)&&(decide (aa<=id)||new.all AV.ah) then
     some (.val (.int .i64 new.length),st.set id (.rows v sz (new++old.drop new.length)),bx) else none
   |_,_=>none
  |_=>none
 |.call _|.pz=>none
def ld:fQ->List eG->Option (Nat×List AV)
 |.call f,l=>match iO l with
  |some vs=>some (f,vs)
  |none=>none
 |.pz,.val (.fn f first ke)::l=>match iO l with
  |some vs=>some (f,first++vs++ke)
  |none=>none
 |_,_=>none
def fC(O:jC)(wl aa:Nat)(x:Option (Nat×List AV))(st:aj)(bx:aU):Option (eG×aj×aU):=
 match x with
 |some (f,vs)=>match O.call wl aa f vs st with|some (v,bS)=>some (.val v,bS,bx)|none=>none
 |none=>none
def qM(O:jC)(wl aa:Nat)(op:fQ)(vals:List eG)(st:aj)(bx:aU):Option (eG×aj×aU):=
 match op with
 |.call f=>fC O wl aa (ld (.call f) vals) st bx
 |.pz=>fC O wl aa (ld .pz vals) st bx
 |op=>aL wl aa op vals st bx
def fQ.bz:fQ->Option Nat
 |.aH j _|.gq j _=>some j
 |_=>none
def vJ(env:nZ)(dst:Option Nat)(e:eG):nZ:=
 match dst with
 |some d=>tH env d e
 |none=>env
def lA(env:nZ):Option (Nat×Bool)->Option Bool
 |none=>some true
 |some (t,b)=>match cQ env t with
  |.val (.bool c)=>some (c==b)
  |.val .undef=>some false
  |_=>none
def n7(j:Nat)(env:nZ):Bool:=env.all λx=>x.2.nL j
def gr(O:jC)(wl aa:Nat)(o:aX)(s:St):Option St:=
 match lA s.env o.guard with
 |none=>none
 |some false=>some { s with env:=vJ s.env o.dst (.val .undef) }
 |some true=>
  match qM O wl aa o.op (o.args.map (GC s.env)) s.st s.bx with
  |none=>none
  |some (e,bS,fm)=>
   match o.op.bz with
   |none=>some ⟨vJ (o.args.foldl k8 s.env) o.dst e,fm,bS⟩
   |some j=>if n7 j (vJ (o.args.foldl k8 s.env) o.dst .none) then some ⟨vJ (o.args.foldl k8 s.env) o.dst e,fm,bS⟩ else none
def eY(O:jC)(wl aa:Nat):List aX->St->Option St
 |[],s=>some s
 |o::l,s=>match gr O wl aa o s with|some s'=>eY O wl aa l s'|none=>none
def dJ(O:jC)(wl aa:Nat):List aX->St->Option (St×List St)
 |[],s=>some (s,[s])
 |o::l,s=>match gr O wl aa o s with
  |some s'=>match dJ O wl aa l s' with|some (e,l')=>some (e,s::l')|none=>none
  |none=>none
def dm(O:jC)(wl aa:Nat)(o:aX)(s t:St)(st:aj):Bool:=
 match lA s.env o.guard with
 |none=>false
 |some false=>true
 |some true=>
  match qM O wl aa o.op (o.args.map (GC s.env)) st s.bx with
  |some (e,_,_)=>(match o.dst with|some d=>(cQ t.env d).fU e|none=>false)
  |none=>false
def xSt(wl aa:Nat)(cT:List aX)(gT:List St)(p q:Nat):Option aj:=
 match cT[p]?,gT[p]?,cT[q]?,gT[q]? with
 |some a,some s,some b,some t=>
  match a.op,a.args.map (GC s.env),b.op,b.args.map (GC t.env) with
  |.store _,[.val (.ptr i _ _ _),.val _],.store m,[.val (.ptr j v x y),.val u]=>
   if i=j then none else match aL wl aa (.store m) [.val (.ptr j v x y),.val u] s.st [] with
   |some (_,X,_)=>some X
   |none=>none
  |_,_,_,_=>none
 |_,_,_,_=>none
def iy(O:jC)(wl aa:Nat)(cT:List aX)(gT:List St):Nat×Nat->Bool
 |(q,w)=>if q<100000 then match cT[q]?,gT[q]?,gT[q+1]?,gT[w]?,gT[w+1]? with
   |some o,some s,some t,some a,some b=>dm O wl aa o s t a.st&&dm O wl aa o s t b.st
   |_,_,_,_,_=>false
  else match xSt wl aa cT gT (q % 100000) w with
   |none=>false
   |some X=>if q<200000 then true else match cT[q / 100000-2]?,gT[q / 100000-2]?,gT[q / 100000-2+1]? with
    |some o,some s,some t=>dm O wl aa o s t X
    |_,_,_=>false
def bw(env:nZ)(o:aX):Bool:=match o.op.bz with|some j=>n7 j env|none=>true
def fO(O:jC)(wl aa:Nat)(cT:List aX)(bK:List (Nat×Nat))(s:St):Option St:=
 match dJ O wl aa cT s with
 |none=>none
 |some (e,gT)=>
  if bK.all (iy O wl aa cT gT)&&cT.all (bw s.env) then some e else none
def iz:List Nat->nZ->nZ
 |[],env=>env
 |t::l,env=>iz l (Ah env t)
def pA(env:nZ)(c:Src):Option Bool:=
 match GC env c with
 |.val (.bool b)=>some b
 |_=>none
def qm(wl:Nat)(v:AV)(st:aj):Option (AV×aj):=
 match v with
 |.mu id bX=>match st[id]? with
  |some (.rows v sz rows)=>if v=bX&&rows.all AV.ah && !rows.isEmpty&&decide (wl<=id) then some (.dj sz (rows.map AV.cL),st.set id (.rows (v+1) sz [])) else none
  |_=>none
 |v=>if v.an&&v.cH then some (v.view,st) else none
def kI(wl:Nat):List AV->aj->Option (List AV×aj)
 |[],st=>some ([],st)
 |v::l,st=>match qm wl v st with
  |some (v',bS)=>match kI wl l bS with
   |some (l',MG)=>some (v'::l',MG)
   |none=>none
  |none=>none
def lf(wl:Nat):List (List AV)->aj->Option (List (List AV)×aj)
 |[],st=>some ([],st)
 |r::l,st=>match kI wl r st with
  |some (r',bS)=>match lf wl l bS with
   |some (l',MG)=>some (r'::l',MG)
   |none=>none
  |none=>none
def jL(wl:Nat)(v:AV)(st:aj):Option (AV×aj):=
 match v with
 |.mu id bX=>match st[id]? with
  |some (.rows v sz rows)=>if v=bX && !rows.isEmpty&&decide (wl<=id) then
    match lf wl rows (st.set id (.rows (v+1) sz [])) with
    |some (dN,bS)=>some (.dj sz dN,bS)
    |none=>none
   else none
  |_=>none
 |.U=>some (.U,st)
 |_=>none
def oD(wl:Nat)(v:AV)(st:aj):Option (AV×aj):=
 match v with
 |.raw sz rows=>some (.mu st.length 0,st++[.rows 0 sz rows])
 |v=>jL wl v st
def Bc(s:St):jV->Option AV
 |.tmp t mv=>match GC s.env (.tmp t mv) with|.val v=>some v|_=>none
 |.box t j n agg=>match cQ s.env t,s.bx[j]? with|.fp i 0,some row=>if i=j&&row.length=n then b9 agg row else none|_,_=>none
 |.cell t n agg=>match cQ s.env t with
  |.val p=>match fY s.st p n with|some cs=>b9 agg (AV.cL cs)|none=>none
  |_=>none
def wA(s:St):List jV->Option (List AV)
 |[]=>some []
 |r::l=>match Bc s r,wA s l with
  |some v,some vs=>some (v::vs)
  |_,_=>none
def wB(s:St)(l:List jV):Option AV:=
 match wA s l with
 |some [v]=>some v
 |some vs=>some (.fK vs)
 |none=>none
def gO(O:jC)(wl aa:Nat)(rs:List jV):bQ->St->Option (Ex×St)
 |.skip,s=>some (.normal,s)
 |.region cT draw dM,s=>
  match (match draw with|none=>eY O wl aa cT s|some bK=>fO O wl aa cT bK s) with
  |some s'=>some (.normal,{ s' with env:=iz dM s'.env })
  |none=>none
 |.seq a b,s=>match gO O wl aa rs a s with
  |some (.normal,s')=>gO O wl aa rs b s'
  |r=>r
 |.cond c ca a cb b,s=>match pA s.env c with
  |some true=>gO O wl aa rs a { s with env:=iz ca (k8 s.env c) }
  |some false=>gO O wl aa rs b { s with env:=iz cb (k8 s.env c) }
  |none=>none
 |.block id c,s=>match gO O wl aa rs c s with
  |some (.exit Wd,s')=>if Wd=id then some (.normal,s') else some (.exit Wd,s')
  |r=>r
 |.loop c,s=>O.loop wl aa rs c s
 |.exit id,s=>some (.exit id,s)
 |.ret,s=>match wB s rs with|some v=>some (.ret v,⟨[],[],s.st⟩)|none=>none
 |.OL t,s=>match cQ s.env t with
  |.val v=>match jL wl v s.st with
   |some (v',bS)=>some (.normal,⟨tH s.env t (.val v'),s.bx,bS⟩)
   |none=>none
  |_=>none
 |.Bb j k,s=>match s.bx[j]? with
  |some row=>match row[k]? with
   |some v=>match jL wl v s.st with
    |some (v',bS)=>some (.normal,⟨s.env,s.bx.set j (af row k [v']),bS⟩)
    |none=>none
   |none=>none
  |none=>none
 |.vI t off,s=>match cQ s.env t with
  |.val (.ptr id bX i k)=>match fY s.st (.ptr id bX i (k+off)) 1 with
   |some [v]=>match oD wl v s.st with
    |some (v',bS)=>match dR wl aa bS (.ptr id bX i (k+off)) [v'] with
     |some lZ=>some (.normal,⟨s.env,s.bx,lZ⟩)
     |none=>none
    |none=>none
   |_=>none
  |_=>none
def DQ:Nat->List AV->nZ
 |_,[]=>[]
 |k,v::r=>(k,.val v)::DQ (k+1) r
def Mode.wC:Mode->Nat->Nat->Nat
 |.pure,n,_=>n
 |_,_,wl=>wl
def Mode.pC:Mode->Nat->Nat->Nat
 |.Ds,_,aa=>aa
 |_,n,_=>n
def Mode.kJ(m:Mode)(st:aj)(v:AV)(bS:aj):Option (AV×aj):=
 match m with
 |.pure=>if v.an then some (v,st) else none
 |.l9=>if v.an then some (v,bS.take st.length) else none
 |.Ds=>some (v,bS)
def Du(rs:List jV):Ex->St->Option AV
 |.exit _,_=>none
 |.ret v,_=>some v
 |.normal,s=>wB s rs
def pD(sf:aD)(args:List AV)(st:aj):St:=⟨iz sf.dM (DQ 0 args),List.replicate sf.aP [],st⟩
def de(O:jC)(wl aa:Nat)(sf:aD)(args:List AV)(st:aj):Option (AV×aj):=
 if args.length=sf.aF then
  match gO O (sf.mode.wC st.length wl) (sf.mode.pC st.length aa) sf.results sf.body (pD sf args st) with
  |some (x,s)=>match Du sf.results x s with
   |some v=>sf.mode.kJ st v s.st
   |none=>none
  |none=>none
 else none
def qn(sf:aD)(args:List AV):Bool:=decide (sf.mode=.pure)&&AV.ah args
def dZ(O:jC)(wl aa:Nat)(sf:aD)(args:List AV)(st:aj):Option (AV×aj):=
 if qn sf args then (de O 0 0 sf args []).map λr=>(r.1,st) else de O wl aa sf args st
def n8(S:Nat->Option aD):Nat->jC
 |0=>⟨λ_ _ _ _ _=>none,λ_ _ _ _ _=>none⟩
 |n+1=>
  ⟨λwl aa f args st=>match S f with
   |some sf=>dZ (n8 S n) wl aa sf args st
   |none=>none,
   λwl aa rs c s=>match gO (n8 S n) wl aa rs c s with
   |some (.normal,s')=>(n8 S n).loop wl aa rs c s'
   |r=>r⟩
def OM(Tr EY:List (Option aD))(n:Nat):Option aD:=if n<100000 then (Tr[n]?).getD none else (EY[n-100000]?).getD none
end Ax
namespace Ax
open Go
structure jC.le (A B:jC):Prop where
 call:∀wl aa f args st r,A.call wl aa f args st=some r->B.call wl aa f args st=some r
 loop:∀wl aa rs c s r,A.loop wl aa rs c s=some r->B.loop wl aa rs c s=some r
theorem jC.le_refl(A:jC):A.le A:=⟨λ_ _ _ _ _ _ h=>h,λ_ _ _ _ _ _ h=>h⟩
theorem jC.le_trans{A B C:jC}(h:A.le B)(k:B.le C):A.le C:=
 ⟨λ_ _ _ _ _ _ x=>k.call _ _ _ _ _ _ (h.call _ _ _ _ _ _ x),λ_ _ _ _ _ _ x=>k.loop _ _ _ _ _ _ (h.loop _ _ _ _ _ _ x)⟩
structure Sup (o:Nat->jC)(L:jC):Prop where
 mono:∀n,(o n).le (o (n+1))
 call:∀wl aa f args st r,L.call wl aa f args st=some r->∃n,(o n).call wl aa f args st=some r
 loop:∀wl aa rs c s r,L.loop wl aa rs c s=some r->∃n,(o n).loop wl aa rs c s=some r
theorem Sup.le{o:Nat->jC}{L:jC}(h:Sup o L)(n k:Nat):(o n).le (o (n+k)):=by
 induction k with
 |zero=>exact jC.le_refl _
 |succ k ih=>exact jC.le_trans ih (h.mono (n+k))
theorem GO(A B:jC)(wl aa:Nat)(op:fQ)(vals:List eG)(st:aj)(bx:aU)(h1:∀f,op≠.call f)(h2:op≠.pz) :
  qM A wl aa op vals st bx=qM B wl aa op vals st bx:=by
 cases op<;>first|rfl|exact absurd rfl (h1 _)|exact absurd rfl h2
theorem w6{A B:jC}(tC:A.le B){wl aa:Nat}{x:Option (Nat×List AV)}{st:aj}{bx:aU}{r:eG×aj×aU}
  (h:fC A wl aa x st bx=some r):fC B wl aa x st bx=some r:=by
 unfold fC at h ⊢
 split at h
 ·rename_i f vs
  cases hc:A.call wl aa f vs st with
  |none=>simp[hc]at h
  |some x=>rw[hc]at h;rw[tC.call _ _ _ _ _ _ hc];exact h
 ·cases h
theorem GQ{A B:jC}(tC:A.le B){wl aa:Nat}{op:fQ}{vals:List eG}{st:aj}{bx:aU}{r:eG×aj×aU}
  (h:qM A wl aa op vals st bx=some r):qM B wl aa op vals st bx=some r:=by
 by_cases h1:∃f,op=.call f
 ·obtain⟨f,rfl⟩:=h1
  exact w6 tC h
 ·by_cases h2:op=.pz
  ·subst h2
   exact w6 tC h
  ·rw[<-GO A B wl aa op vals st bx (λf e=>h1 ⟨f,e⟩) h2];exact h
theorem qo{A B:jC}(tC:A.le B){wl aa:Nat}{o:aX}{s r:St}(h:gr A wl aa o s=some r):gr B wl aa o s=some r:=by
 unfold gr at h ⊢
 split at h
 ·cases h
 ·exact h
 ·split at h
  ·cases h
  ·rename_i e bS fm ha
   rw[GQ tC ha]
   exact h
theorem rP{A B:jC}(tC:A.le B){wl aa:Nat}:∀{l:List aX}{s r:St},eY A wl aa l s=some r->eY B wl aa l s=some r
 |[],_,_,h=>h
 |o::l,s,r,h=>by
  unfold eY at h ⊢
  split at h
  ·rename_i s' hs;rw[qo tC hs];exact rP tC h
  ·cases h
theorem oE{A B:jC}(tC:A.le B){wl aa:Nat}:∀{l:List aX}{s:St} {r},dJ A wl aa l s=some r->dJ B wl aa l s=some r
 |[],_,_,h=>h
 |o::l,s,r,h=>by
  unfold dJ at h ⊢
  split at h
  ·rename_i s' hs
   rw[qo tC hs]
   split at h
   ·rename_i e l' hr
    simp only[oE tC hr];exact h
   ·cases h
  ·cases h
theorem kh{A B:jC}(tC:A.le B){wl aa:Nat}{o:aX}{s t:St}{st:aj}(h:dm A wl aa o s t st=true):dm B wl aa o s t st=true:=by
 unfold dm at h ⊢
 split at h
 ·cases h
 ·rfl
 ·split at h
  ·rename_i e _ _ ha;rw[GQ tC ha];exact h
  ·cases h
theorem qp{A B:jC}(tC:A.le B){wl aa:Nat}{cT:List aX}{gT:List St}{x:Nat×Nat}(h:iy A wl aa cT gT x=true):iy B wl aa cT gT x=true:=by
 obtain⟨q,w⟩:=x
 unfold iy at h ⊢
 by_cases h1:q<100000
 ·simp only[h1,if_true]at h ⊢
  split at h
  ·simp only[Bool.and_eq_true]at h ⊢
   exact⟨kh tC h.1,kh tC h.2⟩
  ·cases h
 ·simp only[h1,if_false]at h ⊢
  split at h
  ·cases h
  ·by_cases h2:q<200000
   ·simp only[h2,if_true]
   ·simp only[h2,if_false]at h ⊢
    split at h
    ·exact kh tC h
    ·cases h
theorem Dv{A B:jC}(tC:A.le B){wl aa:Nat}{cT:List aX}{bK:List (Nat×Nat)}{s r:St}(h:fO A wl aa cT bK s=some r):fO B wl aa cT bK s=some r:=by
 unfold fO at h ⊢
 split at h
 ·cases h
 ·rename_i e gT hr
  split at h
  ·rename_i hc
   cases h
   rw[oE tC hr]
   simp only[Bool.and_eq_true,List.all_eq_true]at hc
   have h1:bK.all (iy B wl aa cT gT)=true:=by
    rw[List.all_eq_true];exact λx hx=>qp tC (hc.1 x hx)
   have h2:cT.all (bw s.env)=true:=by
    rw[List.all_eq_true];exact hc.2
   simp only[h1,h2,Bool.and_self,if_true]
  ·cases h
theorem ki{A B:jC}(tC:A.le B){wl aa:Nat}{rs:List jV}:∀{c:bQ}{s:St} {r},gO A wl aa rs c s=some r->gO B wl aa rs c s=some r
 |.skip,_,_,h=>h
 |.region cT draw dM,s,r,h=>by
  unfold gO at h ⊢
  cases draw with
  |none=>
   simp only at h ⊢
   split at h
   ·rename_i s' hs;rw[rP tC hs];exact h
   ·cases h
  |some bK=>
   simp only at h ⊢
   split at h
   ·rename_i s' hs;rw[Dv tC hs];exact h
   ·cases h
 |.seq a b,s,r,h=>by
  unfold gO at h ⊢
  cases ha:gO A wl aa rs a s with
  |none=>rw[ha]at h;cases h
  |some x=>
   rw[ha]at h
   rw[ki tC ha]
   obtain⟨e,s'⟩:=x
   cases e with
   |normal=>exact ki tC h
   |exit id=>exact h
   |ret v=>exact h
 |.cond c ca a cb b,s,r,h=>by
  unfold gO at h ⊢
  split at h
  ·exact ki tC h
  ·exact ki tC h
  ·cases h
 |.block id c,s,r,h=>by
  unfold gO at h ⊢
  cases ha:gO A wl aa rs c s with
  |none=>rw[ha]at h;cases h
  |some x=>rw[ha]at h;rw[ki tC ha];exact h
 |.loop c,s,r,h=>tC.loop _ _ _ _ _ _ h
 |.exit id,s,r,h=>h
 |.ret,s,r,h=>h
 |.OL t,s,r,h=>h
 |.Bb j k,s,r,h=>h
 |.vI t off,s,r,h=>h
theorem tL{A B:jC}(tC:A.le B){wl aa:Nat}{sf:aD}{args:List AV}{st:aj} {r}(h:de A wl aa sf args st=some r):de B wl aa sf args st=some r:=by
 unfold de at h ⊢
 split at h
 ·rename_i hl
  rw[if_pos hl]
  cases hs:gO A (sf.mode.wC st.length wl) (sf.mode.pC st.length aa) sf.results sf.body (pD sf args st) with
  |none=>rw[hs]at h;cases h
  |some x=>rw[hs]at h;rw[ki tC hs];exact h
 ·cases h
theorem vQ{A B:jC}(tC:A.le B){wl aa:Nat}{sf:aD}{args:List AV}{st:aj} {r}(h:dZ A wl aa sf args st=some r):dZ B wl aa sf args st=some r:=by
 unfold dZ at h ⊢
 split at h
 ·rename_i Jl
  rw[if_pos Jl]
  cases hc:de A 0 0 sf args [] with
  |none=>rw[hc]at h;cases h
  |some x=>rw[hc]at h;rw[tL tC hc];exact h
 ·rename_i Jl
  rw[if_neg Jl]
  exact tL tC h
theorem Be(S:Nat->Option aD):∀n,(n8 S n).le (n8 S (n+1))
 |0=>⟨λ_ _ _ _ _ _ h=>(nomatch h),λ_ _ _ _ _ _ h=>(nomatch h)⟩
 |n+1=>by
  have ih:=Be S n
  constructor
  ·intro wl aa f args st r h
   show (match S f with|some sf=>dZ (n8 S (n+1)) wl aa sf args st|none=>none)=some r
   change (match S f with|some sf=>dZ (n8 S n) wl aa sf args st|none=>none)=some r at h
   cases hf:S f with
   |none=>rw[hf]at h;cases h
   |some sf=>rw[hf]at h;exact vQ ih h
  ·intro wl aa rs c s r h
   show (match gO (n8 S (n+1)) wl aa rs c s with|some (.normal,s')=>(n8 S (n+1)).loop wl aa rs c s'|r=>r)=some r
   change (match gO (n8 S n) wl aa rs c s with|some (.normal,s')=>(n8 S n).loop wl aa rs c s'|r=>r)=some r at h
   cases hs:gO (n8 S n) wl aa rs c s with
   |none=>rw[hs]at h;cases h
   |some x=>
    rw[hs]at h
    rw[ki ih hs]
    obtain⟨e,s'⟩:=x
    cases e with
    |normal=>exact ih.loop _ _ _ _ _ _ h
    |exit id=>exact h
    |ret v=>exact h
open Classical in
noncomputable def bg (S:Nat->Option aD):jC:=
 ⟨λwl aa f args st=>if h:∃n r,(n8 S n).call wl aa f args st=some r then some h.choose_spec.choose else none,
  λwl aa rs c s=>if h:∃n r,(n8 S n).loop wl aa rs c s=some r then some h.choose_spec.choose else none⟩
theorem yD(S:Nat->Option aD)(n k:Nat):(n8 S n).le (n8 S (n+k)):=by
 induction k with
 |zero=>exact jC.le_refl _
 |succ k ih=>exact jC.le_trans ih (Be S (n+k))
theorem q9(S:Nat->Option aD):Sup (n8 S) (bg S) where
 mono:=Be S
 call:=λwl aa f args st r h=>by
  unfold bg at h
  simp only at h
  split at h
  ·rename_i hx
   cases h
   exact⟨_,hx.choose_spec.choose_spec⟩
  ·cases h
 loop:=λwl aa rs c s r h=>by
  unfold bg at h
  simp only at h
  split at h
  ·rename_i hx
   cases h
   exact⟨_,hx.choose_spec.choose_spec⟩
  ·cases h
theorem oF(S:Nat->Option aD)(n:Nat):(n8 S n).le (bg S) where
 call:=λwl aa f args st r h=>by
  have hx:∃n r,(n8 S n).call wl aa f args st=some r:=⟨n,r,h⟩
  have:(bg S).call wl aa f args st=some hx.choose_spec.choose:=by unfold bg;simp only;rw[dif_pos hx]
  have h2:=hx.choose_spec.choose_spec
  have a:=(yD S n hx.choose).call _ _ _ _ _ _ h
  have b:=(yD S hx.choose n).call _ _ _ _ _ _ h2
  rw[Nat.add_comm]at b
  exact this.trans (b.symm.trans a)
 loop:=λwl aa rs c s r h=>by
  have hx:∃n r,(n8 S n).loop wl aa rs c s=some r:=⟨n,r,h⟩
  have:(bg S).loop wl aa rs c s=some hx.choose_spec.choose:=by unfold bg;simp only;rw[dif_pos hx]
  have h2:=hx.choose_spec.choose_spec
  have a:=(yD S n hx.choose).loop _ _ _ _ _ _ h
  have b:=(yD S hx.choose n).loop _ _ _ _ _ _ h2
  rw[Nat.add_comm]at b
  exact this.trans (b.symm.trans a)
section
variable {o:Nat->jC}{L:jC}(hs:Sup o L){wl aa:Nat}
include hs
theorem zq{x:Option (Nat×List AV)}{st:aj}{bx:aU}{r:eG×aj×aU}
  (h:fC L wl aa x st bx=some r):∃n,fC (o n) wl aa x st bx=some r:=by
 unfold fC at h
 split at h
 ·rename_i f vs
  cases hc:L.call wl aa f vs st with
  |none=>simp[hc]at h
  |some x=>
   obtain⟨n,hn⟩:=hs.call _ _ _ _ _ _ hc
   refine⟨n,?_⟩
   rw[hc]at h
   unfold fC
   simp only
   rw[hn];exact h
 ·cases h
theorem K8{op:fQ}{vals:List eG}{st:aj}{bx:aU}{r:eG×aj×aU}
  (h:qM L wl aa op vals st bx=some r):∃n,qM (o n) wl aa op vals st bx=some r:=by
 by_cases h1:∃f,op=.call f
 ·obtain⟨f,rfl⟩:=h1
  exact zq hs h
 ·by_cases h2:op=.pz
  ·subst h2
   exact zq hs h
  ·exact⟨0,by rw[<-GO L (o 0) wl aa op vals st bx (λf e=>h1 ⟨f,e⟩) h2];exact h⟩
theorem Bf{p:aX}{s r:St}(h:gr L wl aa p s=some r):∃n,gr (o n) wl aa p s=some r:=by
 unfold gr at h
 split at h
 ·cases h
 ·rename_i hw;exact⟨0,by unfold gr;rw[hw];exact h⟩
 ·rename_i hw
  split at h
  ·cases h
  ·rename_i e bS fm ha
   obtain⟨n,hn⟩:=K8 hs ha
   exact⟨n,by unfold gr;rw[hw];simp only;rw[hn];exact h⟩
theorem zu:∀{l:List aX}{s r:St},eY L wl aa l s=some r->∃n,eY (o n) wl aa l s=some r
 |[],_,_,h=>⟨0,h⟩
 |p::l,s,r,h=>by
  unfold eY at h
  split at h
  ·rename_i s' hp
   obtain⟨n,hn⟩:=Bf hs hp
   obtain⟨m,hm⟩:=zu h
   refine⟨n+m,?_⟩
   unfold eY
   rw[qo (hs.le n m) hn]
   simp only
   exact rP (by rw[Nat.add_comm];exact hs.le m n) hm
  ·cases h
theorem zv:∀{l:List aX}{s:St} {r},dJ L wl aa l s=some r->∃n,dJ (o n) wl aa l s=some r
 |[],_,_,h=>⟨0,h⟩
 |p::l,s,r,h=>by
  unfold dJ at h
  split at h
  ·rename_i s' hp
   split at h
   ·rename_i e l' hr
    obtain⟨n,hn⟩:=Bf hs hp
    obtain⟨m,hm⟩:=zv hr
    refine⟨n+m,?_⟩
    unfold dJ
    rw[qo (hs.le n m) hn]
    simp only
    rw[oE (by rw[Nat.add_comm];exact hs.le m n) hm]
    exact h
   ·cases h
  ·cases h
theorem qN{p:aX}{s t:St}{st:aj}(h:dm L wl aa p s t st=true):∃n,dm (o n) wl aa p s t st=true:=by
 unfold dm at h
 split at h
 ·cases h
 ·rename_i hw;exact⟨0,by unfold dm;rw[hw]⟩
 ·rename_i hw
  split at h
  ·rename_i e a b ha
   obtain⟨n,hn⟩:=K8 hs ha
   exact⟨n,by unfold dm;rw[hw];simp only;rw[hn];exact h⟩
  ·cases h
theorem Jx{cT:List aX}{gT:List St}{x:Nat×Nat}(h:iy L wl aa cT gT x=true):∃n,iy (o n) wl aa cT gT x=true:=by
 obtain⟨q,w⟩:=x
 unfold iy at h ⊢
 by_cases h1:q<100000
 ·simp only[h1,if_true]at h ⊢
  split at h
  ·simp only[Bool.and_eq_true]at h ⊢
   obtain⟨n,hn⟩:=qN hs h.1
   obtain⟨m,hm⟩:=qN hs h.2
   exact⟨n+m,kh (hs.le n m) hn,kh (by rw[Nat.add_comm];exact hs.le m n) hm⟩
  ·cases h
 ·simp only[h1,if_false]at h ⊢
  split at h
  ·cases h
  ·by_cases h2:q<200000
   ·simp only[h2,if_true,exists_const]
   ·simp only[h2,if_false]at h ⊢
    split at h
    ·exact qN hs h
    ·cases h
theorem DR{cT:List aX}{gT:List St}:∀{l:List (Nat×Nat)},l.all (iy L wl aa cT gT)=true->∃n,l.all (iy (o n) wl aa cT gT)=true
 |[],_=>⟨0,rfl⟩
 |x::l,h=>by
  simp only[List.all_cons,Bool.and_eq_true]at h
  obtain⟨n,hn⟩:=Jx hs h.1
  obtain⟨m,hm⟩:=DR h.2
  refine⟨n+m,?_⟩
  simp only[List.all_cons,Bool.and_eq_true]
  refine⟨qp (hs.le n m) hn,?_⟩
  rw[List.all_eq_true]at hm ⊢
  exact λx hx=>qp (by rw[Nat.add_comm];exact hs.le m n) (hm x hx)
theorem EZ{cT:List aX}{bK:List (Nat×Nat)}{s r:St}(h:fO L wl aa cT bK s=some r):∃n,fO (o n) wl aa cT bK s=some r:=by
 unfold fO at h
 split at h
 ·cases h
 ·rename_i e gT hr
  split at h
  ·rename_i hc
   cases h
   simp only[Bool.and_eq_true]at hc
   obtain⟨n,hn⟩:=zv hs hr
   obtain⟨m,hm⟩:=DR hs hc.1
   refine⟨n+m,?_⟩
   unfold fO
   rw[oE (hs.le n m) hn]
   have:bK.all (iy (o (n+m)) wl aa cT gT)=true:=by
    rw[List.all_eq_true]at hm ⊢
    exact λx hx=>qp (by rw[Nat.add_comm];exact hs.le m n) (hm x hx)
   simp only[this,hc.2,Bool.and_self,if_true]
  ·cases h
theorem rQ{rs:List jV}:∀{c:bQ}{s:St} {r},gO L wl aa rs c s=some r->∃n,gO (o n) wl aa rs c s=some r
 |.skip,_,_,h=>⟨0,h⟩
 |.region cT draw dM,s,r,h=>by
  unfold gO at h
  cases draw with
  |none=>
   simp only at h
   split at h
   ·rename_i s' hp
    obtain⟨n,hn⟩:=zu hs hp
    exact⟨n,by unfold gO;simp only;rw[hn];exact h⟩
   ·cases h
  |some bK=>
   simp only at h
   split at h
   ·rename_i s' hp
    obtain⟨n,hn⟩:=EZ hs hp
    exact⟨n,by unfold gO;simp only;rw[hn];exact h⟩
   ·cases h
 |.seq a b,s,r,h=>by
  unfold gO at h
  cases ha:gO L wl aa rs a s with
  |none=>rw[ha]at h;cases h
  |some x=>
   rw[ha]at h
   obtain⟨n,hn⟩:=rQ ha
   obtain⟨e,s'⟩:=x
   cases e with
   |normal=>
    obtain⟨m,hm⟩:=rQ h
    refine⟨n+m,?_⟩
    unfold gO
    rw[ki (hs.le n m) hn]
    exact ki (by rw[Nat.add_comm];exact hs.le m n) hm
   |exit id=>exact⟨n,by unfold gO;rw[hn];exact h⟩
   |ret v=>exact⟨n,by unfold gO;rw[hn];exact h⟩
 |.cond c ca a cb b,s,r,h=>by
  unfold gO at h
  split at h
  ·rename_i hb;obtain⟨n,hn⟩:=rQ h;exact⟨n,by unfold gO;rw[hb];exact hn⟩
  ·rename_i hb;obtain⟨n,hn⟩:=rQ h;exact⟨n,by unfold gO;rw[hb];exact hn⟩
  ·cases h
 |.block id c,s,r,h=>by
  unfold gO at h
  cases ha:gO L wl aa rs c s with
  |none=>rw[ha]at h;cases h
  |some x=>
   rw[ha]at h
   obtain⟨n,hn⟩:=rQ ha
   exact⟨n,by unfold gO;rw[hn];exact h⟩
 |.loop c,s,r,h=>hs.loop _ _ _ _ _ _ h
 |.exit id,s,r,h=>⟨0,h⟩
 |.ret,s,r,h=>⟨0,h⟩
 |.OL t,s,r,h=>⟨0,h⟩
 |.Bb j k,s,r,h=>⟨0,h⟩
 |.vI t off,s,r,h=>⟨0,h⟩
theorem vR{sf:aD}{args:List AV}{st:aj} {r}(h:de L wl aa sf args st=some r):∃n,de (o n) wl aa sf args st=some r:=by
 unfold de at h
 split at h
 ·rename_i hl
  cases hx:gO L (sf.mode.wC st.length wl) (sf.mode.pC st.length aa) sf.results sf.body (pD sf args st) with
  |none=>rw[hx]at h;cases h
  |some x=>
   rw[hx]at h
   obtain⟨n,hn⟩:=rQ hs hx
   exact⟨n,by unfold de;rw[if_pos hl,hn];exact h⟩
 ·cases h
theorem E1{sf:aD}{args:List AV}{st:aj} {r}(h:dZ L wl aa sf args st=some r):∃n,dZ (o n) wl aa sf args st=some r:=by
 unfold dZ at h
 split at h
 ·rename_i Jl
  cases hc:de L 0 0 sf args [] with
  |none=>rw[hc]at h;cases h
  |some x=>
   rw[hc]at h
   obtain⟨n,hn⟩:=vR hs hc
   exact⟨n,by unfold dZ;rw[if_pos Jl,hn];exact h⟩
 ·rename_i Jl
  obtain⟨n,hn⟩:=vR hs h
  exact⟨n,by unfold dZ;rw[if_neg Jl];exact hn⟩
end
theorem La{α:Type}{a b:Option α}(h:∀r,a=some r↔b=some r):a=b:=by
 cases a with
 |none=>cases b with
  |none=>rfl
  |some y=>exact absurd ((h y).2 rfl) (by simp)
 |some x=>exact((h x).1 rfl).symm
theorem yE(S:Nat->Option aD)(wl aa f:Nat)(args:List AV)(st:aj) :
  (bg S).call wl aa f args st=match S f with
   |some sf=>dZ (bg S) wl aa sf args st
   |none=>none:=by
 refine La λr=>⟨λh=>?_,λh=>?_⟩
 ·obtain⟨n,hn⟩:=(q9 S).call _ _ _ _ _ _ h
  cases n with
  |zero=>cases hn
  |succ n=>
   change (match S f with|some sf=>dZ (n8 S n) wl aa sf args st|none=>none)=some r at hn
   cases hf:S f with
   |none=>rw[hf]at hn;cases hn
   |some sf=>rw[hf]at hn;exact vQ (oF S n) hn
 ·cases hf:S f with
  |none=>rw[hf]at h;cases h
  |some sf=>
   rw[hf]at h
   obtain⟨n,hn⟩:=E1 (q9 S) h
   refine(oF S (n+1)).call _ _ _ _ _ _ ?_
   show (match S f with|some sf=>dZ (n8 S n) wl aa sf args st|none=>none)=some r
   rw[hf];exact hn
theorem MH(S:Nat->Option aD)(wl aa:Nat)(rs:List jV)(c:bQ)(s:St) :
  (bg S).loop wl aa rs c s=match gO (bg S) wl aa rs c s with
   |some (.normal,s')=>(bg S).loop wl aa rs c s'
   |r=>r:=by
 refine La λr=>⟨λh=>?_,λh=>?_⟩
 ·obtain⟨n,hn⟩:=(q9 S).loop _ _ _ _ _ _ h
  cases n with
  |zero=>cases hn
  |succ n=>
   change (match gO (n8 S n) wl aa rs c s with|some (.normal,s')=>(n8 S n).loop wl aa rs c s'|r=>r)=some r at hn
   cases hx:gO (n8 S n) wl aa rs c s with
   |none=>rw[hx]at hn;cases hn
   |some x=>
    rw[hx]at hn
    rw[ki (oF S n) hx]
    obtain⟨e,s'⟩:=x
    cases e with
    |normal=>exact(oF S n).loop _ _ _ _ _ _ hn
    |exit id=>exact hn
    |ret v=>exact hn
 ·cases hx:gO (bg S) wl aa rs c s with
  |none=>rw[hx]at h;cases h
  |some x=>
   rw[hx]at h
   obtain⟨n,hn⟩:=rQ (q9 S) hx
   obtain⟨e,s'⟩:=x
   have key:∀m,(n8 S m).le (bg S):=oF S
   cases e with
   |normal=>
    obtain⟨m,hm⟩:=(q9 S).loop _ _ _ _ _ _ h
    refine(oF S (n+m+1)).loop _ _ _ _ _ _ ?_
    show (match gO (n8 S (n+m)) wl aa rs c s with|some (.normal,s')=>(n8 S (n+m)).loop wl aa rs c s'|r=>r)=some r
    rw[ki (yD S n m) hn]
    exact(by rw[Nat.add_comm];exact yD S m n:(n8 S m).le (n8 S (n+m))).loop _ _ _ _ _ _ hm
   |exit id=>
    refine(oF S (n+1)).loop _ _ _ _ _ _ ?_
    show (match gO (n8 S n) wl aa rs c s with|some (.normal,s')=>(n8 S n).loop wl aa rs c s'|r=>r)=some r
    rw[hn];exact h
   |ret v=>
    refine(oF S (n+1)).loop _ _ _ _ _ _ ?_
    show (match gO (n8 S n) wl aa rs c s with|some (.normal,s')=>(n8 S n).loop wl aa rs c s'|r=>r)=some r
    rw[hn];exact h
end Ax
namespace Ax
theorem Bg{O:jC}{wl aa:Nat}{rs:List jV}{t off:Nat}{s s':St}{x:Ex}(h:gO O wl aa rs (.vI t off) s=some (x,s')) :
  x=.normal/\∃id bX i k v v' lM lZ,cQ s.env t=.val (.ptr id bX i k)/\fY s.st (.ptr id bX i (k+off)) 1=some [v]/\oD wl v s.st=some (v',lM)/\dR wl aa lM (.ptr id bX i (k+off)) [v']=some lZ/\s'=⟨s.env,s.bx,lZ⟩:=by
 unfold gO at h
 split at h
 ·rename_i id bX i k h1
  split at h
  ·rename_i v h2
   split at h
   ·rename_i v' lM h3
    split at h
    ·rename_i lZ h4
     cases h
     exact⟨rfl,id,bX,i,k,v,v',lM,lZ,h1,h2,h3,h4,rfl⟩
    ·cases h
   ·cases h
  ·cases h
 ·cases h
end Ax
namespace Ax
open Go
mutual
def AV.bZ:AV->Bool
 |.je _ _|.raw _ _=>false
 |.agg cs|.fK cs=>AV.dH cs
 |_=>true
def AV.dH:List AV->Bool
 |[]=>true
 |v::r=>v.bZ&&AV.dH r
end
structure j9 where
 a:Option Addr
 cap:Nat
 len:Nat
 sz:Nat
 bX:Nat
 mp:Bool
 vals:List (List Value)
def j9.hd(l:j9):Option Addr×Nat×Nat×Nat×Bool:=(l.a,l.cap,l.len,l.sz,l.mp)
structure aM where
 ls:List j9
 kR:Nat->Option Nat
def Imm(w:World)(G:aM)(b o:Nat):Prop:=b<w.heap.size/\∀p,G.kR b=some p->o<p
inductive aO (w:World) (G:aM):AV->Value->Prop
 |undef:aO w G .undef Go.undef
 |gone (v:Value) (h:v.oneCell'=true):aO w G .gone v
 |bool (b:Bool):aO w G (.bool b) (.bool b)
 |int (k:IntKind) (n:Int):aO w G (.int k n) (.int k n)
 |str (l:List UInt8) (s:ByteArray) (h:s.data.toList=l):aO w G (.str l) (.string s)
 |eO:aO w G .eO (.pointer none)
 |U:aO w G .U (.slice none 0 0)
 |fG:aO w G .fG (.map none)
 |iw:aO w G .iw .nilFunc
 |jF:aO w G .jF .nilIface
 |agg (cs:List AV) (vs:Array Value) (hl:cs.length=vs.size) (h:∀(i:Nat) c v,cs[i]?=some c->vs[i]?=some v->aO w G c v):aO w G (.agg cs) (.agg vs)
 |fK (cs:List AV) (vs:Array Value) (hl:cs.length=vs.size) (h:∀(i:Nat) c v,cs[i]?=some c->vs[i]?=some v->aO w G c v):aO w G (.fK cs) (.tuple vs)
 |dj (sz:Nat) (rows:List (List AV)) (a:Addr) (cap:Nat) (oG:a.spot=none) (fo:rows.length<=cap) (cm:bU sz rows=true)
   (iP:∀r∈rows,AV.dH r=true) (nM:∀r∈rows,AV.ah r=true) (uK:∀r∈rows,AV.aK r=true)
   (hc:∀(i:Nat) r (j:Nat) c,rows[i]?=some r->r[j]?=some c->Imm w G a.block (a.off+(i*sz+j))/\∃v,w.cell? ⟨a.block,a.off+(i*sz+j),none⟩=some v)
   (hr:∀(i:Nat) r (j:Nat) c v,rows[i]?=some r->r[j]?=some c->w.cell? ⟨a.block,a.off+(i*sz+j),none⟩=some v->aO w G c v) :
   aO w G (.dj sz rows) (.slice (some a) rows.length cap)
 |je (sz:Nat) (rows:List (List AV)) (a:Addr) (cap:Nat) (oG:a.spot=none) (fo:rows.length<=cap) (cm:bU sz rows=true)
   (iP:∀r∈rows,AV.dH r=true) (nM:∀r∈rows,AV.ah r=true) (uK:∀r∈rows,AV.aK r=true)
   (hc:∀(i:Nat) r (j:Nat) c,rows[i]?=some r->r[j]?=some c->∃v,w.cell? ⟨a.block,a.off+(i*sz+j),none⟩=some v)
   (hr:∀(i:Nat) r (j:Nat) c v,rows[i]?=some r->r[j]?=some c->w.cell? ⟨a.block,a.off+(i*sz+j),none⟩=some v->aO w G c v)
   (gV:G.kR a.block=some (a.off+rows.length*sz))
   (ff:∃c e,w.heap[a.block]?=some (.cells c e (0,0))/\a.off+cap*sz<=c.size) :
   aO w G (.je sz rows) (.slice (some a) rows.length cap)
 |raw (sz:Nat) (rows:List (List AV)) (a:Addr) (cap:Nat) (oG:a.spot=none) (fo:rows.length<=cap) (cm:bU sz rows=true)
   (iP:∀r∈rows,AV.dH r=true) (nM:∀r∈rows,AV.ah r=true) (uK:∀r∈rows,AV.aK r=true)
   (hc:∀(i:Nat) r (j:Nat) c,rows[i]?=some r->r[j]?=some c->∃v,w.cell? ⟨a.block,a.off+(i*sz+j),none⟩=some v)
   (hr:∀(i:Nat) r (j:Nat) c v,rows[i]?=some r->r[j]?=some c->w.cell? ⟨a.block,a.off+(i*sz+j),none⟩=some v->aO w G c v)
   (gV:G.kR a.block=some 0)
   (ff:∃c e,w.heap[a.block]?=some (.cells c e (0,0))/\a.off+cap*sz<=c.size) :
   aO w G (.raw sz rows) (.slice (some a) rows.length cap)
 |kV (a:Addr):aO w G .kV (.slice (some a) 0 0)
 |mu (id bX:Nat) (v:Value) (loc:j9) (hp:∃p n c,v=.slice p n c) (hl:G.ls[id]?=some loc) (hv:bX<=loc.bX) (he:bX=loc.bX->v=.slice loc.a loc.len loc.cap):aO w G (.mu id bX) v
 |ptr (id bX i k:Nat) (v:Value) (loc:j9) (hp:∃a,v=.pointer (some a)) (hl:G.ls[id]?=some loc) (hv:bX<=loc.bX)
   (he:bX=loc.bX->∃a,loc.a=some a/\v=.pointer (some ⟨a.block,a.off+(i*loc.sz+k),none⟩)):aO w G (.ptr id bX i k) v
 |ox (sz:Nat) (rows:List (List AV)) (i k:Nat) (a:Addr) (cap:Nat) (hs:aO w G (.dj sz rows) (.slice (some a) rows.length cap)) :
   aO w G (.ox sz rows i k) (.pointer (some ⟨a.block,a.off+(i*sz+k),none⟩))
 |map (id:Nat) (loc:j9) (b:Nat) (hl:G.ls[id]?=some loc) (hm:loc.mp=true) (hb:loc.a=some ⟨b,0,none⟩):aO w G (.map id) (.map (some b))
 |fn (f:Nat) (first ke:List AV) (vf vc:Array Value) (hl:first.length=vf.size) (hm:ke.length=vc.size)
   (hn:AV.dH first=true/\AV.dH ke=true/\f<100000)
   (h:∀(i:Nat) c v,first[i]?=some c->vf[i]?=some v->aO w G c v) (k:∀(i:Nat) c v,ke[i]?=some c->vc[i]?=some v->aO w G c v) :
   aO w G (.fn f first ke) (.func (.func f) vf vc)
mutual
def fj(b:Nat):AV->Value->Nat
 |.je _ _,.slice (some a) _ _=>if a.block=b then 1 else 0
 |.raw _ _,.slice (some a) _ _=>if a.block=b then 1 else 0
 |.agg cs,.agg vs=>bV b cs vs.toList
 |.fK cs,.tuple vs=>bV b cs vs.toList
 |_,_=>0
def bV(b:Nat):List AV->List Value->Nat
 |c::cs,v::vs=>fj b c v+bV b cs vs
 |_,_=>0
end
theorem tM(b:Nat):∀(cs:List AV)(vs:List Value)(i:Nat)(c:AV)(v:Value),cs[i]?=some c->vs[i]?=some v->fj b c v<=bV b cs vs
 |[],_,_,_,_,h,_=>by simp at h
 |_::_,[],_,_,_,_,h=>by simp at h
 |c::cs,v::vs,0,c',v',h,k=>by
  simp at h k;subst h;subst k;simp only[bV];omega
 |c::cs,v::vs,i+1,c',v',h,k=>by
  simp at h k
  have:=tM b cs vs i c' v' h k
  simp only[bV];omega
mutual
theorem eJ(b:Nat):∀(a:AV)(v:Value),a.bZ=true->fj b a v=0
 |.je _ _,_,h=>by simp[AV.bZ]at h
 |.raw _ _,_,h=>by simp[AV.bZ]at h
 |.agg cs,.agg vs,h=>by simp only[fj];exact dn b cs vs.toList (by simpa [AV.bZ] using h)
 |.fK cs,.tuple vs,h=>by simp only[fj];exact dn b cs vs.toList (by simpa [AV.bZ] using h)
 |.undef,_,_|.gone,_,_|.bool _,_,_|.int _ _,_,_|.str _,_,_|.eO,_,_|.U,_,_|.fG,_,_|.iw,_,_|.jF,_,_
 |.dj _ _,_,_|.kV,_,_|.mu _ _,_,_|.ptr _ _ _ _,_,_|.ox _ _ _ _,_,_|.map _,_,_|.fn _ _ _,_,_=>by simp[fj]
 |.agg cs,.bool _,_|.agg cs,.int _ _,_|.agg cs,.float _ _,_|.agg cs,.complex _ _ _,_|.agg cs,.string _,_|.agg cs,.pointer _,_|.agg cs,.slice _ _ _,_
 |.agg cs,.map _,_|.agg cs,.chan _,_|.agg cs,.func _ _ _,_|.agg cs,.nilFunc,_|.agg cs,.iface _ _,_|.agg cs,.nilIface,_|.agg cs,.tuple _,_=>by simp[fj]
 |.fK cs,.bool _,_|.fK cs,.int _ _,_|.fK cs,.float _ _,_|.fK cs,.complex _ _ _,_|.fK cs,.string _,_|.fK cs,.pointer _,_|.fK cs,.slice _ _ _,_
 |.fK cs,.map _,_|.fK cs,.chan _,_|.fK cs,.func _ _ _,_|.fK cs,.nilFunc,_|.fK cs,.iface _ _,_|.fK cs,.nilIface,_|.fK cs,.agg _,_=>by simp[fj]
theorem dn(b:Nat):∀(cs:List AV)(vs:List Value),AV.dH cs=true->bV b cs vs=0
 |[],_,_=>by simp[bV]
 |_::_,[],_=>by simp[bV]
 |c::cs,v::vs,h=>by
  simp[AV.dH]at h
  simp only[bV,eJ b c v h.1,dn b cs vs h.2]
end
mutual
theorem rR:∀a:AV,a.view.bZ=true
 |.je _ _=>by simp[AV.view,AV.bZ]
 |.raw _ _=>by simp[AV.view,AV.bZ]
 |.agg cs=>by simp only[AV.view,AV.bZ];exact fR cs
 |.fK cs=>by simp only[AV.view,AV.bZ];exact fR cs
 |.undef|.gone|.bool _|.int _ _|.str _|.eO|.U|.fG|.iw|.jF|.dj _ _|.kV|.mu _ _|.ptr _ _ _ _|.ox _ _ _ _|.map _|.fn _ _ _=>by simp[AV.view,AV.bZ]
theorem fR:∀cs:List AV,AV.dH (AV.cL cs)=true
 |[]=>rfl
 |c::cs=>by simp only[AV.cL,AV.dH,rR c,fR cs,Bool.and_self]
end
theorem uL:∀(cs:List AV)(i:Nat),(AV.cL cs)[i]?=(cs[i]?).map AV.view
 |[],i=>by simp[AV.cL]
 |c::cs,0=>by simp[AV.cL]
 |c::cs,i+1=>by simp[AV.cL,uL cs i]
theorem me:∀(cs:List AV),(AV.cL cs).length=cs.length
 |[]=>rfl
 |c::cs=>by simp[AV.cL,me cs]
theorem cy:∀(cs:List AV),AV.dH cs=true↔∀c∈cs,c.bZ=true
 |[]=>by simp[AV.dH]
 |c::cs=>by simp[AV.dH,cy cs]
theorem fS:∀(cs:List AV),AV.ah cs=true↔∀c∈cs,c.an=true
 |[]=>by simp[AV.ah]
 |c::cs=>by simp[AV.ah,fS cs]
theorem cU{α:Type}{l:List α}{i:Nat}{x:α}(h:l[i]?=some x):x∈l:=List.mem_of_getElem? h
structure qq (w:World)(G:aM)(w':World)(G':aM):Prop where
 ON:∀b o,Imm w G b o->w'.cell? ⟨b,o,none⟩=w.cell? ⟨b,o,none⟩/\Imm w' G' b o
 Lb:∀(id:Nat) loc,G.ls[id]?=some loc->∃loc',G'.ls[id]?=some loc'/\loc.bX<=loc'.bX/\(loc.bX=loc'.bX\/loc.mp=true->loc'.hd=loc.hd)
theorem qq.refl(w:World)(G:aM):qq w G w G:=⟨λ_ _ h=>⟨rfl,h⟩,λ_ loc h=>⟨loc,h,Nat.le_refl _,λ_=>rfl⟩⟩
theorem qq.trans{w G w' G' w'' G''}(h:qq w G w' G')(k:qq w' G' w'' G''):qq w G w'' G'' where
 ON:=λb o hi=>by
  obtain⟨a1,a2⟩:=h.ON b o hi
  obtain⟨b1,b2⟩:=k.ON b o a2
  exact⟨b1.trans a1,b2⟩
 Lb:=λid loc hl=>by
  obtain⟨l1,a1,a2,a3⟩:=h.Lb id loc hl
  obtain⟨l2,b1,b2,b3⟩:=k.Lb id l1 a1
  refine⟨l2,b1,by omega,λe=>?_⟩
  rcases e with e|e
  ·have e1:loc.bX=l1.bX:=by omega
   have e2:l1.bX=l2.bX:=by omega
   rw[b3 (.inl e2),a3 (.inl e1)]
  ·have h1:=a3 (.inr e)
   have h2:l1.mp=loc.mp:=congrArg (·.2.2.2.2) h1
   exact(b3 (.inr (h2.trans e))).trans h1
theorem aO.iR{w:World}{G:aM}{w':World}{G':aM}{a:AV}{v:Value}(h:aO w G a v)(hs:qq w G w' G') :
  (∀b,0<fj b a v->G'.kR b=G.kR b/\w'.heap[b]?=w.heap[b]?)->aO w' G' a v:=by
 induction h with
 |undef=>exact λ_=>.undef
 |gone v h=>exact λ_=>.gone v h
 |bool b=>exact λ_=>.bool b
 |int k n=>exact λ_=>.int k n
 |str l s h=>exact λ_=>.str l s h
 |eO=>exact λ_=>.eO
 |U=>exact λ_=>.U
 |fG=>exact λ_=>.fG
 |iw=>exact λ_=>.iw
 |jF=>exact λ_=>.jF
 |agg cs vs hl h ih=>
  intro ho
  refine .agg cs vs hl λi c v hc hv=>ih i c v hc hv λb hb=>ho b ?_
  have:=tM b cs vs.toList i c v hc (by simpa using hv)
  simp only[fj];omega
 |fK cs vs hl h ih=>
  intro ho
  refine .fK cs vs hl λi c v hc hv=>ih i c v hc hv λb hb=>ho b ?_
  have:=tM b cs vs.toList i c v hc (by simpa using hv)
  simp only[fj];omega
 |dj sz rows a cap oG fo cm iP nM uK hc hr ih=>
  intro _
  refine .dj sz rows a cap oG fo cm iP nM uK (λi r j c h1 h2=>?_) (λi r j c v h1 h2 h3=>?_)
  ·obtain⟨hi,v,hv⟩:=hc i r j c h1 h2
   obtain⟨e,oT⟩:=hs.ON _ _ hi
   exact⟨oT,v,e.trans hv⟩
  ·obtain⟨hi,v',Dm⟩:=hc i r j c h1 h2
   obtain⟨e,oT⟩:=hs.ON _ _ hi
   rw[e]at h3
   refine ih i r j c v h1 h2 h3 λb hb=>?_
   rw[eJ b c v ((cy r).1 (iP r (cU h1)) c (cU h2))]at hb
   omega
 |je sz rows a cap oG fo cm iP nM uK hc hr gV ff ih=>
  intro ho
  obtain⟨ht,hh⟩:=ho a.block (by simp[fj])
  have mQ:∀o,w'.cell? ⟨a.block,o,none⟩=w.cell? ⟨a.block,o,none⟩:=λo=>by simp[World.cell?,hh]
  refine .je sz rows a cap oG fo cm iP nM uK (λi r j c h1 h2=>?_) (λi r j c v h1 h2 h3=>?_) (ht.trans gV) ?_
  ·obtain⟨v,hv⟩:=hc i r j c h1 h2
   exact⟨v,(mQ _).trans hv⟩
  ·rw[mQ]at h3
   refine ih i r j c v h1 h2 h3 λb hb=>?_
   rw[eJ b c v ((cy r).1 (iP r (cU h1)) c (cU h2))]at hb
   omega
  ·obtain⟨c,e,h1,h2⟩:=ff
   exact⟨c,e,hh.trans h1,h2⟩
 |raw sz rows a cap oG fo cm iP nM uK hc hr gV ff ih=>
  intro ho
  obtain⟨ht,hh⟩:=ho a.block (by simp[fj])
  have mQ:∀o,w'.cell? ⟨a.block,o,none⟩=w.cell? ⟨a.block,o,none⟩:=λo=>by simp[World.cell?,hh]
  refine .raw sz rows a cap oG fo cm iP nM uK (λi r j c h1 h2=>?_) (λi r j c v h1 h2 h3=>?_) (ht.trans gV) ?_
  ·obtain⟨v,hv⟩:=hc i r j c h1 h2
   exact⟨v,(mQ _).trans hv⟩
  ·rw[mQ]at h3
   refine ih i r j c v h1 h2 h3 λb hb=>?_
   rw[eJ b c v ((cy r).1 (iP r (cU h1)) c (cU h2))]at hb
   omega
  ·obtain⟨c,e,h1,h2⟩:=ff
   exact⟨c,e,hh.trans h1,h2⟩
 |kV a=>exact λ_=>.kV a
 |mu id bX v loc hp hl hv he=>
  intro _
  obtain⟨loc',a1,a2,a3⟩:=hs.Lb id loc hl
  refine .mu id bX v loc' hp a1 (by omega) λe=>?_
  have e1:bX=loc.bX:=by omega
  have e2:=a3 (.inl (by omega))
  rw[show loc'.a=loc.a from congrArg (·.1) e2,show loc'.len=loc.len from congrArg (·.2.2.1) e2,show loc'.cap=loc.cap from congrArg (·.2.1) e2]
  exact he e1
 |ptr id bX i k v loc hp hl hv he=>
  intro _
  obtain⟨loc',a1,a2,a3⟩:=hs.Lb id loc hl
  refine .ptr id bX i k v loc' hp a1 (by omega) λe=>?_
  have e1:bX=loc.bX:=by omega
  have e2:=a3 (.inl (by omega))
  rw[show loc'.a=loc.a from congrArg (·.1) e2,show loc'.sz=loc.sz from congrArg (·.2.2.2.1) e2]
  exact he e1
 |ox sz rows i k a cap hl ih=>exact λ_=>.ox sz rows i k a cap (ih λb hb=>by simp[fj]at hb)
 |map id loc b hl hm hb=>
  intro _
  obtain⟨loc',a1,a2,a3⟩:=hs.Lb id loc hl
  have e2:=a3 (.inr hm)
  exact .map id loc' b a1 ((congrArg (·.2.2.2.2) e2:loc'.mp=loc.mp).trans hm) ((congrArg (·.1) e2:loc'.a=loc.a).trans hb)
 |fn f first ke vf vc hl hm hn h k ih ik=>
  intro _
  refine .fn f first ke vf vc hl hm hn (λi c v h1 h2=>ih i c v h1 h2 λb hb=>?_) (λi c v h1 h2=>ik i c v h1 h2 λb hb=>?_)
  ·rw[eJ b c v ((cy first).1 hn.1 c (cU h1))]at hb;omega
  ·rw[eJ b c v ((cy ke).1 hn.2.1 c (cU h1))]at hb;omega
end Ax
namespace Ax
open Go
def uM:Nat->Value->Option AV
 |0,_=>none
 |d+1,v=>match v with
  |.bool b=>some (.bool b)
  |.int k n=>some (.int k n)
  |.string s=>some (.str s.data.toList)
  |.pointer none=>some .eO
  |.slice none 0 0=>some .U
  |.map none=>some .fG
  |.nilFunc=>some .iw
  |.nilIface=>some .jF
  |.agg cs=>match cs.toList.mapM (uM d) with|some l=>some (.agg l)|none=>none
  |_=>none
def uN(v:Value)(a:AV):Bool:=match uM 3 v with|some b=>b.fU a|none=>false
def oU:List Value->List AV->Bool
 |[],[]=>true
 |v::vs,a::as=>uN v a&&oU vs as
 |_,_=>false
def Jy:Operand->Src->Bool
 |.tmp t,.tmp u _=>t==u
 |.const v,.const a=>uN v a
 |.func f,.const (.fn g [] [])=>f==g&&decide (f<100000)
 |_,_=>false
def fq:List Operand->List Src->Bool
 |[],[]=>true
 |x::xs,s::ss=>Jy x s&&fq xs ss
 |_,_=>false
def mh(P:Program)(t:TypeId):Option Bool:=match P.underlying t with
 |some (.struct _)|some (.array _ _)=>some true
 |some _=>some false
 |none=>none
def cx(P:Program)(t:TypeId)(n:Nat):Bool:=match P.info? t with|some i=>i.size==n|none=>false
def nA(P:Program)(t:TypeId)(n:Nat):Bool:=match P.info? t with|some i=>i.bytes==n|none=>false
def Bh(P:Program)(rec:TypeId->Option (List SK)):Nat->List Field->Option (List SK)
 |_,[]=>some []
 |off,f::fs=>
  if f.offset = off && f.name != "_" then
   match rec f.type with
   |some ks=>if cx P f.type ks.length then (match Bh P rec (off+ks.length) fs with|some r=>some (ks++r)|none=>none) else none
   |none=>none
  else none
def Bi(P:Program):Nat->TypeId->Option (List SK)
 |0,_=>none
 |d+1,t=>match P.underlying t with
  |some .bool=>some [.bool]
  |some (.int _)=>some [.int]
  |some .string=>some [.str]
  |some (.struct fs)=>if P.stoodInHeld t then none else Bh P (Bi P d) 0 fs.toList
  |_=>none
def vK(P:Program)(t:TypeId):EqK->Bool
 |.sc .bool=>match P.underlying t with|some .bool=>true|_=>false
 |.sc _=>false
 |.ptr=>match P.underlying t with|some (.pointer _)=>true|_=>false
 |.sl=>match P.underlying t with|some (.slice _)=>true|_=>false
 |.fn=>match P.underlying t with|some (.func _ _ _)=>true|_=>false
 |.flat ks=>(match P.underlying t with|some (.struct _)=>true|_=>false)&&Bi P 20 t==some ks && !P.eqGuardType P.depth t
def nN(P:Program)(t:TypeId):SK->Bool
 |.bool=>match P.underlying t with|some .bool=>true|_=>false
 |.int=>match P.underlying t with|some (.int _)=>true|_=>false
 |.str=>match P.underlying t with|some .string=>true|_=>false
def mW(P:Program)(t:TypeId)(zero:List AV):Bool:=match P.info? t with
 |some i=>(match i.zero with|some z=>oU z.cells.toList zero&&AV.aK zero|none=>false)
 |none=>false
def pE(P:Program)(fs:Array Field):List (Nat×Operand)->List (Nat×Nat)->Bool
 |[],[]=>true
 |(i,_)::ps,(off,n)::qs=>(match fs[i]? with|some f=>f.offset==off&&cx P f.type n|none=>false)&&pE P fs ps qs
 |_,_=>false
def uQ(x:Operand)(lo hi mx:Option Operand):List Operand:=x::(lo.toList++hi.toList++mx.toList)
def mOp(S:Nat->Option aD)(P:Program)(o:Oper)(so:aX):Bool:=
 (match o.dst,so.dst with|some a,some b=>a==b|none,none=>true|_,_=>false) &&
 match o.op,so.op with
 |.move x,.move|.assign x,.move=>fq [x] so.args
 |.pick c a b,.pick=>fq [c,a,b] so.args
 |.binOp op _ x y _,.aR op'=>op==op'&&fq [x,y] so.args
 |.binOp op t x y _,.Ai k neg=>op==(if neg then .neq else .eql)&&fq [x,y] so.args&&vK P t k
 |.binOp op t x y _,.K7 neg=>op==(if neg then .neq else .eql)&&fq [x,y] so.args&&vK P t .sl
 |.unOp op _ x,.un op'=>op==op'&&fq [x] so.args
 |.convert s d x,.conv k=>fq [x] so.args&&(match P.underlying s,P.underlying d with|some (.int _),some (.int k')=>k==k'|_,_=>false)
 |.nilCheck x,.nilCheck=>fq [x] so.args
 |.extract x i,.extract j=>i==j&&fq [x] so.args
 |.field t x f,.field off n agg=>fq [x] so.args&&(match P.underlying t with
  |some (.struct fs)=>(match fs[f]? with|some fd=>fd.offset==off&&cx P fd.type n&&mh P fd.type==some agg|none=>false)
  |_=>false)
 |.build t parts,.build zero qs=>fq (parts.toList.map (·.2)) so.args&&mW P t zero&&(match P.underlying t with
  |some (.struct fs)=>(match fs.toList.mapM (λf=>P.info? f.type) with|some _=>pE P fs parts.toList qs|none=>false)
  |_=>false)
 |.buildSlice t n parts,.lit sz n' zero qs|.buildSlice t n parts,.Tp sz n' zero qs=>n==n'&&fq (parts.toList.map (·.2)) so.args&&(match P.underlying t with
  |some (.slice e)=>cx P e sz&&decide (n*sz<=16777216)&&mW P e zero&&decide (0<sz)&&(zero.length==sz)&&parts.toList.map (·.1)==qs
  |_=>false)
 |.fieldAddr t x f,.fieldAddr off=>fq [x] so.args&&(match P.underlying t with
  |some (.struct fs)=>(match fs[f]? with
   |some fd=>fd.offset==off&&(match P.info? fd.type with|some i=>i.size != 0|none=>false)
   |none=>false)
  |_=>false)
 |.indexAddr t x i,.indexAddr sz=>fq [x,i] so.args&&(match P.underlying t with|some (.slice e)=>cx P e sz|_=>false)
 |.index t x i,.index=>fq [x,i] so.args&&(match P.underlying t with|some .string=>true|_=>false)
 |.slice t x lo hi mx,.slice tJ l h m sz=>fq (uQ x lo hi mx) so.args&&lo.isSome==l&&hi.isSome==h&&mx.isSome==m&&(!m||h)&&(match P.underlying t with
  |some (.slice e)=>!tJ&&cx P e sz
  |some .string=>tJ && !m
  |_=>false)
 |.slice t x none (some hi) none,.wz sz=>fq [x,hi] so.args&&(match P.underlying t with|some (.slice e)=>cx P e sz|_=>false)
 |.load t a,.load agg n _|.load t a,.aE _ agg n _=>fq [a] so.args&&cx P t n&&mh P t==some agg&&(agg||n==1)
 |.store t a v,.store n|.store t a v,.ai _ n=>fq [a,v] so.args&&cx P t n
 |.alloc t,.alloc zero|.alloc t,.aH _ zero=>so.args.isEmpty&&mW P t zero
 |.box _ v,.box _|.box _ v,.gq _ _=>fq [v] so.args
 |.makeSlice t l c,.rO sz bytes zero _=>fq [l,c] so.args&&(match P.underlying t with
  |some (.slice e)=>cx P e sz&&nA P e bytes&&mW P e zero&&decide (0<sz)&&decide (0<bytes)
  |_=>false)
 |.makeMap t none,.makeMap=>so.args.isEmpty&&(match P.underlying t with|some (.map _ _)=>true|_=>false)
 |.mapUpdate t m k v,.mapUpdate kk|.insert t m k v,.mapUpdate kk=>fq [m,k,v] so.args&&(match P.underlying t with
  |some (.map kt _)=>nN P kt kk
  |_=>false)
 |.lookup t m k ok,.lookup kk zero ok'=>ok==ok'&&fq [m,k] so.args&&(match P.underlying t with
  |some (.map kt et)=>nN P kt kk &&
   (match P.info? et with|some i=>(match i.zero with|some z=>uN z zero|none=>false)|none=>false)
  |_=>false)
 |.makeFunc (.func f) first ke,.makeFunc f' n=>f==f'&&fq (first.toList++ke.toList) so.args&&first.size==n&&decide (f<100000)
 |.call c,.len k=>fq c.args.toList so.args&&c.args.size==1&&(match c.callee,c.argTypes[0]? with
  |.builtin .len,some t=>(match P.underlying t,k with|some .string,.str|some (.slice _),.sl|some (.map _ _),.mp=>true|_,_=>false)
  |_,_=>false)
 |.call c,.EW mx=>fq c.args.toList so.args&&c.args.size==2&&(match c.callee with|.builtin .max=>mx|.builtin .min=>!mx|_=>false)
 |.call c,.append sz bytes|.call c,.mc sz bytes=>fq c.args.toList so.args&&c.args.size==2&&c.argTypes.size==2&&(match c.callee,c.argTypes[0]?,c.argTypes[1]? with
  |.builtin .append,some t,some u=>(match P.underlying t with|some (.slice e)=>cx P e sz&&nA P e bytes&&decide (0<sz)&&decide (0<bytes)&&(match P.info? e with|some i=>(match i.zero with|some z=>z.cells.size==sz|none=>false)|none=>false)|_=>false) &&
   (match P.underlying u with|some (.slice _)|some .string=>true|_=>false)
  |_,_,_=>false)
 |.call c,.copy sz=>fq c.args.toList so.args&&c.args.size==2&&c.argTypes.size==2&&(match c.callee,c.argTypes[0]?,c.argTypes[1]? with
  |.builtin .copy,some t,some u=>(match P.underlying t with|some (.slice e)=>cx P e sz|_=>false)&&(match P.underlying u with|some (.slice _)|some .string=>true|_=>false)
  |_,_,_=>false)
 |.convert s d x,.OJ=>fq [x] so.args&&(match P.underlying s,P.underlying d with
  |some (.slice e),some .string=>(match P.underlying e with|some (.int .u8)=>true|_=>false)
  |_,_=>false)
 |.call c,.call i=>(match c.callee with
  |.value (.func f)=>fq c.args.toList so.args&&(match S i with|some sf=>sf.fV==f|none=>false)
  |_=>false)
 |.call c,.pz=>(match c.callee with
  |.value x=>fq (x::c.args.toList) so.args
  |_=>false)
 |.makeSlice t l c,.AD sz bytes zero=>fq [l,c] so.args&&(match P.underlying t with
  |some (.slice e)=>cx P e sz&&nA P e bytes&&mW P e zero&&decide (0<sz)&&decide (0<bytes)
  |_=>false)
 |.call c,.uJ sz bytes zero=>fq c.args.toList so.args&&c.args.size==2&&c.argTypes.size==2&&(match c.callee,c.argTypes[0]?,c.argTypes[1]? with
  |.builtin .append,some t,some u=>(match P.underlying t with|some (.slice e)=>cx P e sz&&nA P e bytes&&mW P e zero&&decide (0<sz)&&decide (0<bytes)|_=>false) &&
   (match P.underlying u with|some (.int _)=>true|_=>false)
  |_,_,_=>false)
 |.call c,.Tq=>fq c.args.toList so.args&&c.args.size==1&&(match c.callee,c.argTypes[0]? with
  |.builtin .cap,some t=>(match P.underlying t with|some (.slice _)=>true|_=>false)
  |_,_=>false)
 |_,.wz 0=>so.args.isEmpty
 |_,_=>false
end Ax
namespace Ax
open Go
structure lE where
 jl:Option Nat
 vals:List Value
def jQ(w:World)(G:aM)(β:List lE):eG->Value->Prop
 |.none,_=>True
 |.val a,v=>aO w G a v
 |.fp j k,v=>∃g b,β[j]?=some g/\g.jl=some b/\v=.pointer (some ⟨b,k,none⟩)
def cv(b:Nat):eG->Value->Nat
 |.val a,v=>fj b a v
 |_,_=>0
def jY(w:World)(G:aM)(β:List lE):List eG->List Value->Prop
 |[],[]=>True
 |e::es,v::vs=>jQ w G β e v/\jY w G β es vs
 |_,_=>False
def kS(b:Nat):List eG->List Value->Nat
 |e::es,v::vs=>cv b e v+kS b es vs
 |_,_=>0
variable {w:World}{G:aM}{β:List lE}
theorem jY.one{e:eG}{xs:List Value}(h:jY w G β [e] xs):∃v,xs=[v]/\jQ w G β e v:=by
 match xs,h with
 |[v],h=>exact⟨v,rfl,h.1⟩
theorem jY.two{e f:eG}{xs:List Value}(h:jY w G β [e,f] xs):∃v u,xs=[v,u]/\jQ w G β e v/\jQ w G β f u:=by
 match xs,h with
 |[v,u],h=>exact⟨v,u,rfl,h.1,h.2.1⟩
theorem jY.cons{e:eG}{es:List eG}{xs:List Value}(h:jY w G β (e::es) xs):∃v vs,xs=v::vs/\jQ w G β e v/\jY w G β es vs:=by
 match xs,h with
 |v::vs,h=>exact⟨v,vs,rfl,h.1,h.2⟩
theorem jY.vals:∀{es:List eG}{xs:List Value}{vs:List AV},jY w G β es xs->iO es=some vs->
  es=vs.map .val/\vs.length=xs.length/\∀(i:Nat) c v,vs[i]?=some c->xs[i]?=some v->aO w G c v
 |[],[],vs,_,h=>by simp[iO]at h;subst h;exact⟨rfl,rfl,λi c v h _=>by simp at h⟩
 |.val a::es,x::xs,vs,h,hv=>by
  simp only[iO]at hv
  split at hv
  ·rename_i vs' Dn
   cases hv
   obtain⟨e1,e2,e3⟩:=jY.vals h.2 Dn
   refine⟨by rw[e1];rfl,by simp[e2],λi c v h1 h2=>?_⟩
   cases i with
   |zero=>simp at h1 h2;subst h1;subst h2;exact h.1
   |succ i=>simp at h1 h2;exact e3 i c v h1 h2
  ·cases hv
 |.none::es,_::_,vs,_,hv=>by simp[iO]at hv
 |.fp _ _::es,_::_,vs,_,hv=>by simp[iO]at hv
 |[],_::_,_,h,_=>h.elim
 |_::_,[],_,h,_=>h.elim
theorem Bj:∀(b:Nat)(vs:List AV)(xs:List Value),kS b (vs.map .val) xs=bV b vs xs
 |_,[],[]=>rfl
 |_,[],_::_=>rfl
 |_,_::_,[]=>rfl
 |b,a::vs,x::xs=>by simp[kS,bV,cv,Bj b vs xs]
theorem aO.fD{k:IntKind}{n:Int}{v:Value}(h:aO w G (.int k n) v):v=.int k n:=by cases h;rfl
theorem aO.jm{b:Bool}{v:Value}(h:aO w G (.bool b) v):v=.bool b:=by cases h;rfl
theorem aO.lB{l:List UInt8}{v:Value}(h:aO w G (.str l) v):∃s,v=.string s/\s.data.toList=l:=by
 cases h with|str _ s h=>exact⟨s,rfl,h⟩
theorem aO.view{a:AV}{v:Value}(h:aO w G a v):aO w G a.view v:=by
 induction h with
 |undef=>exact .undef
 |gone v h=>exact .gone v h
 |bool b=>exact .bool b
 |int k n=>exact .int k n
 |str l s h=>exact .str l s h
 |eO=>exact .eO
 |U=>exact .U
 |fG=>exact .fG
 |iw=>exact .iw
 |jF=>exact .jF
 |agg cs vs hl h ih=>
  refine .agg _ vs (by rw[me];exact hl) λi c v hc hv=>?_
  rw[uL]at hc
  simp only[Option.map_eq_some_iff]at hc
  obtain⟨c',h1,rfl⟩:=hc
  exact ih i c' v h1 hv
 |fK cs vs hl h ih=>
  refine .fK _ vs (by rw[me];exact hl) λi c v hc hv=>?_
  rw[uL]at hc
  simp only[Option.map_eq_some_iff]at hc
  obtain⟨c',h1,rfl⟩:=hc
  exact ih i c' v h1 hv
 |dj sz rows a cap oG fo cm iP nM uK hc hr ih=>exact .dj sz rows a cap oG fo cm iP nM uK hc hr
 |je sz rows a cap oG fo cm iP nM uK hc hr gV ff ih=>
  refine .dj sz rows a cap oG fo cm iP nM uK (λi r j c h1 h2=>⟨⟨?_,λp hp=>?_⟩,hc i r j c h1 h2⟩) hr
  ·obtain⟨cc,e,h3,_⟩:=ff
   exact(Array.getElem?_eq_some_iff.1 h3).1
  ·rw[gV]at hp
   cases hp
   have hi:i<rows.length:=(List.getElem?_eq_some_iff.1 h1).1
   have hj:j<r.length:=(List.getElem?_eq_some_iff.1 h2).1
   have hs:r.length=sz:=by
    simp only[bU,List.all_eq_true,beq_iff_eq]at cm
    exact cm r (cU h1)
   have:i*sz+j<rows.length*sz:=by
    calc i*sz+j<i*sz+sz:=by omega
     _=(i+1)*sz:=by rw[Nat.succ_mul]
     _<=rows.length*sz:=Nat.mul_le_mul_right _ hi
   omega
 |raw sz rows a cap oG fo cm iP nM uK hc hr gV ff ih=>exact .gone _ rfl
 |kV a=>exact .kV a
 |mu id bX v loc hp hl hv he=>exact .mu id bX v loc hp hl hv he
 |ptr id bX i k v loc hp hl hv he=>exact .ptr id bX i k v loc hp hl hv he
 |ox sz rows i k a cap hl ih=>exact .ox sz rows i k a cap hl
 |map id loc b hl hm hb=>exact .map id loc b hl hm hb
 |fn f first ke vf vc hl hm hn h k ih ik=>exact .fn f first ke vf vc hl hm hn h k
theorem jQ.view{e:eG}{v:Value}(h:jQ w G β e v):jQ w G β e.view v:=by
 cases e with
 |none=>trivial
 |val a=>exact aO.view h
 |fp j k=>exact h
theorem DS(b:Nat)(e:eG)(v:Value):cv b e.view v=0:=by
 cases e with
 |none=>rfl
 |val a=>exact eJ b _ _ (rR a)
 |fp j k=>rfl
mutual
theorem E2:∀(a b:AV),a.fU b=true->a=b
 |.undef,b,h=>by cases b<;>simp[AV.fU]at h<;>rfl
 |.gone,b,h=>by cases b<;>simp[AV.fU]at h<;>rfl
 |.eO,b,h=>by cases b<;>simp[AV.fU]at h<;>rfl
 |.U,b,h=>by cases b<;>simp[AV.fU]at h<;>rfl
 |.fG,b,h=>by cases b<;>simp[AV.fU]at h<;>rfl
 |.iw,b,h=>by cases b<;>simp[AV.fU]at h<;>rfl
 |.jF,b,h=>by cases b<;>simp[AV.fU]at h<;>rfl
 |.kV,b,h=>by cases b<;>simp[AV.fU]at h<;>rfl
 |.bool x,b,h=>by cases b<;>simp[AV.fU]at h;rw[h]
 |.int k x,b,h=>by cases b<;>simp[AV.fU]at h;rw[h.1,h.2]
 |.str x,b,h=>by cases b<;>simp[AV.fU]at h;rw[h]
 |.agg x,b,h=>by
  cases b<;>simp[AV.fU]at h
  rw[ri _ _ h]
 |.fK x,b,h=>by
  cases b<;>simp[AV.fU]at h
  rw[ri _ _ h]
 |.dj s x,b,h=>by
  cases b<;>simp[AV.fU]at h
  rw[h.1,rj _ _ h.2]
 |.je s x,b,h=>by
  cases b<;>simp[AV.fU]at h
  rw[h.1,rj _ _ h.2]
 |.raw s x,b,h=>by
  cases b<;>simp[AV.fU]at h
  rw[h.1,rj _ _ h.2]
 |.mu i v,b,h=>by cases b<;>simp[AV.fU]at h;rw[h.1,h.2]
 |.ptr i v k l,b,h=>by cases b<;>simp[AV.fU]at h;rw[h.1.1.1,h.1.1.2,h.1.2,h.2]
 |.ox s x i k,b,h=>by
  cases b<;>simp[AV.fU]at h
  rw[h.1.1.1,rj _ _ h.1.1.2,h.1.2,h.2]
 |.map i,b,h=>by cases b<;>simp[AV.fU]at h;rw[h]
 |.fn f x y,b,h=>by
  cases b<;>simp[AV.fU]at h
  rw[h.1.1,ri _ _ h.1.2,ri _ _ h.2]
theorem ri:∀(a b:List AV),AV.qh a b=true->a=b
 |[],b,h=>by cases b<;>simp[AV.qh]at h;rfl
 |x::a,b,h=>by
  cases b with
  |nil=>simp[AV.qh]at h
  |cons y b=>
   simp[AV.qh]at h
   rw[E2 x y h.1,ri a b h.2]
theorem rj:∀(a b:List (List AV)),AV.qL a b=true->a=b
 |[],b,h=>by cases b<;>simp[AV.qL]at h;rfl
 |x::a,b,h=>by
  cases b with
  |nil=>simp[AV.qL]at h
  |cons y b=>
   simp[AV.qL]at h
   rw[ri x y h.1,rj a b h.2]
end
theorem Bk(w:World)(G:aM):∀(d:Nat)(v:Value)(a:AV),uM d v=some a->aO w G a v/\a.bZ=true/\a.an=true
 |0,_,_,h=>by simp[uM]at h
 |d+1,v,a,h=>by
  unfold uM at h
  split at h
  ·cases h;exact⟨.bool _,rfl,rfl⟩
  ·cases h;exact⟨.int _ _,rfl,rfl⟩
  ·cases h;exact⟨.str _ _ rfl,rfl,rfl⟩
  ·cases h;exact⟨.eO,rfl,rfl⟩
  ·cases h;exact⟨.U,rfl,rfl⟩
  ·cases h;exact⟨.fG,rfl,rfl⟩
  ·cases h;exact⟨.iw,rfl,rfl⟩
  ·cases h;exact⟨.jF,rfl,rfl⟩
  ·rename_i cs
   split at h
   ·rename_i l hl
    cases h
    have key:∀(vs:List Value) (l:List AV),vs.mapM (uM d)=some l->vs.length=l.length/\(∀(i:Nat) c v,l[i]?=some c->vs[i]?=some v->aO w G c v/\c.bZ=true/\c.an=true):=by
     intro vs
     induction vs with
     |nil=>intro l h;simp at h;subst h;exact⟨rfl,λi c v h _=>by simp at h⟩
     |cons x vs ih=>
      intro l h
      rw[List.mapM_cons]at h
      simp only[bind,Option.bind_eq_some_iff,pure,Option.some.injEq]at h
      obtain⟨a1,h1,l1,h2,rfl⟩:=h
      obtain⟨e1,e2⟩:=ih l1 h2
      refine⟨by simp[e1],λi c v hc hv=>?_⟩
      cases i with
      |zero=>simp at hc hv;subst hc;subst hv;exact Bk w G d _ _ h1
      |succ i=>simp at hc hv;exact e2 i c v hc hv
    obtain⟨e1,e2⟩:=key _ _ hl
    have ji:∀c∈l,c.bZ=true/\c.an=true:=by
     intro c hc
     obtain⟨i,hi,rfl⟩:=List.mem_iff_getElem.1 hc
     have hi2:i<cs.toList.length:=by omega
     exact(e2 i l[i] cs.toList[i] (List.getElem?_eq_getElem hi) (List.getElem?_eq_getElem hi2)).2
    refine⟨.agg l cs (by rw[<-e1];simp) λi c v hc hv=>(e2 i c v hc (by simpa using hv)).1,?_,?_⟩
    ·simp only[AV.bZ];exact(cy l).2 λc hc=>(ji c hc).1
    ·simp only[AV.an];exact(fS l).2 λc hc=>(ji c hc).2
   ·cases h
  ·cases h
theorem wD{v:Value}{a:AV}(h:uN v a=true)(w:World)(G:aM):aO w G a v/\a.bZ=true/\a.an=true:=by
 unfold uN at h
 split at h
 ·rename_i b hb
  have:=E2 _ _ h
  subst this
  exact Bk w G 3 v b hb
 ·cases h
theorem w7(w:World)(G:aM):∀{vs:List Value}{as:List AV},oU vs as=true->as.length=vs.length/\(∀(i:Nat) c v,as[i]?=some c->vs[i]?=some v->aO w G c v)/\(∀c∈as,c.bZ=true/\c.an=true)
 |[],[],_=>⟨rfl,λi c v h _=>by simp at h,λc h=>by simp at h⟩
 |v::vs,a::as,h=>by
  simp only[oU,Bool.and_eq_true]at h
  obtain⟨e1,e2,e3⟩:=w7 w G h.2
  obtain⟨f1,f2,f3⟩:=wD h.1 w G
  refine⟨by simp[e1],λi c u hc hu=>?_,λc hc=>?_⟩
  ·cases i with
   |zero=>simp at hc hu;subst hc;subst hu;exact f1
   |succ i=>simp at hc hu;exact e2 i c u hc hu
  ·rcases List.mem_cons.1 hc with rfl|hc
   ·exact⟨f2,f3⟩
   ·exact e3 c hc
 |[],_::_,h=>by simp[oU]at h
 |_::_,[],h=>by simp[oU]at h
end Ax
namespace Ax
open Go
variable {P:Program}{w:World}{G:aM}
theorem kj{t:TypeId}{n:Nat}(h:cx P t n=true):∃i,P.info? t=some i/\i.size=n/\P.cellsOf t=n:=by
 unfold cx at h
 split at h
 ·rename_i i hi;exact⟨i,hi,by simpa using h,by simp[Program.cellsOf,hi];simpa using h⟩
 ·cases h
theorem dK{t:TypeId}{n:Nat}(h:cx P t n=true)(w:World):(Go.sizeOf t).run P w=.ok n w:=by
 obtain⟨i,hi,hs,hc⟩:=kj h
 rw[run_sizeOf w hi,hc]
def cj(w:World)(G:aM)(as:List AV)(xs:List Value):Prop:=as.length=xs.length/\∀(i:Nat) c v,as[i]?=some c->xs[i]?=some v->aO w G c v
theorem Ts{t:TypeId}{k:SK}{a b:AV}{x y:Value}{r:Bool}(ht:nN P t k=true)(h:Dk k a b=some r)(ha:aO w G a x)(hb:aO w G b y)(D:Nat)(w':World) :
  (Op.equalIn (D+1) t x y).run P w'=.ok r w':=by
 unfold Dk at h
 split at h
 ·cases h
  rw[ha.jm,hb.jm]
  have hu:P.underlying t=some .bool:=by
   unfold nN at ht;simp only at ht;split at ht<;>simp_all
  exact run_equalIn_bool w' D t _ _ hu
 ·split at h
  ·rename_i k1 p k2 q hk
   cases h
   subst hk
   rw[ha.fD,hb.fD]
   have hu:∃q,P.underlying t=some (.int q):=by
    unfold nN at ht;simp only at ht;split at ht
    ·exact⟨_,by assumption⟩
    ·cases ht
   obtain⟨q,hu⟩:=hu
   exact run_equalIn_int w' D t _ q _ _ hu
  ·cases h
 ·cases h
  obtain⟨s,rfl,rfl⟩:=ha.lB
  obtain⟨s',rfl,rfl⟩:=hb.lB
  have hu:P.underlying t=some .string:=by
   unfold nN at ht;simp only at ht;split at ht<;>simp_all
  rw[run_equalIn_string w' D t _ _ hu,ByteArray.toList_eq,ByteArray.toList_eq]
 ·cases h
theorem Bm:∀(k1 k2:List SK)(a b:List AV)(r:Bool),Dl (k1++k2) a b=some r->
  ∃r1 r2,Dl k1 (a.take k1.length) (b.take k1.length)=some r1/\Dl k2 (a.drop k1.length) (b.drop k1.length)=some r2/\r=(r1&&r2)
 |[],k2,a,b,r,h=>⟨true,r,by simp[Dl],by simpa using h,by simp⟩
 |k::k1,k2,[],b,r,h=>by cases b<;>simp[Dl]at h
 |k::k1,k2,a::as,[],r,h=>by simp[Dl]at h
 |k::k1,k2,a::as,b::bs,r,h=>by
  simp only[List.cons_append,Dl]at h
  split at h
  ·rename_i p q hp hq
   cases h
   obtain⟨r1,r2,e1,e2,rfl⟩:=Bm k1 k2 as bs q hq
   exact⟨p&&r1,r2,by simp[Dl,hp,e1],by simpa using e2,by simp[Bool.and_assoc]⟩
  ·cases h
theorem Bn:∀(ks:List SK)(a b:List AV)(r:Bool),Dl ks a b=some r->a.length=ks.length/\b.length=ks.length
 |[],[],[],_,_=>⟨rfl,rfl⟩
 |[],[],_::_,_,h=>by simp[Dl]at h
 |[],_::_,_,_,h=>by simp[Dl]at h
 |_::_,[],_,_,h=>by simp[Dl]at h
 |_::_,_::_,[],_,h=>by simp[Dl]at h
 |k::ks,a::as,b::bs,r,h=>by
  simp only[Dl]at h
  split at h
  ·rename_i p q hp hq
   obtain⟨e1,e2⟩:=Bn ks as bs q hq
   simp[e1,e2]
  ·cases h
theorem w8{t:TypeId}{fs:Array Field}{n off:Nat}(hu:P.underlying t=some (.struct fs))(hn:cx P t n=true)(xs:Array Value)(w:World) :
  (part t xs off).run P w=.ok (.agg (xs.extract off (off+n))) w:=by
 simp[part,isAgg,run_underlying hu,dK hn]
theorem zw{t:TypeId}{k:SK}{off:Nat}{v:Value}(hk:nN P t k=true){xs:Array Value}(hx:xs[off]?=some v)(w:World) :
  (part t xs off).run P w=.ok v w:=by
 refine run_part_plain w ?_ hx
 unfold nN at hk
 unfold Program.plainKey
 cases k<;>simp only at hk<;>split at hk<;>simp_all
theorem cj.take{as:List AV}{xs:List Value}(h:cj w G as xs)(n:Nat):cj w G (as.take n) (xs.take n):=by
 refine⟨by simp[h.1],λi c v hc hv=>?_⟩
 rw[List.getElem?_take]at hc hv
 split at hc
 ·rename_i hi;rw[if_pos hi]at hv;exact h.2 i c v hc hv
 ·cases hc
theorem cj.drop{as:List AV}{xs:List Value}(h:cj w G as xs)(n:Nat):cj w G (as.drop n) (xs.drop n):=by
 refine⟨by simp[h.1],λi c v hc hv=>?_⟩
 rw[List.getElem?_drop]at hc hv
 exact h.2 _ c v hc hv
def abY(P:Program)(G:aM)(w:World)(D:Nat)(t:TypeId)(ks:List SK):Prop:=
 (∃k,ks=[k]/\nN P t k=true)\/
 (∃fs,P.underlying t=some (.struct fs))/\∀(xs ys:Array Value) (as bs:List AV) (r:Bool),cj w G as xs.toList->cj w G bs ys.toList->Dl ks as bs=some r->
  (Op.equalIn D t (.agg xs) (.agg ys)).run P w=.ok r w
theorem w9(D:Nat)(xs ys:Array Value)(as bs:List AV)(hx:cj w G as xs.toList)(hy:cj w G bs ys.toList)(rec:TypeId->Option (List SK))
  (Tt:∀t ks,rec t=some ks->abY P G w (D+1) t ks):∀(fs:List Field) (off:Nat) (ks:List SK) (r:Bool),Bh P rec off fs=some ks->Dl ks (as.drop off) (bs.drop off)=some r->
  (Op.eqFields (D+1) xs ys fs).run P w=.ok r w
 |[],off,ks,r,h,he=>by
  simp only[Bh,Option.some.injEq]at h
  subst h
  cases ha:as.drop off<;>cases hb:bs.drop off<;>rw[ha,hb]at he<;>simp[Dl]at he
  subst he
  simp[Op.eqFields]
 |f::fs,off,ks,r,h,he=>by
  unfold Bh at h
  split at h
  ·rename_i hc
   simp only[Bool.and_eq_true,decide_eq_true_eq,bne_iff_ne]at hc
   split at h
   ·rename_i kf hkf
    split at h
    ·rename_i mQ
     split at h
     ·rename_i kr We
      cases h
      obtain⟨r1,r2,e1,e2,rfl⟩:=Bm kf kr _ _ r he
      have ih:=w9 D xs ys as bs hx hy rec Tt fs (off+kf.length) kr r2 We (by simpa [List.drop_drop] using e2)
      have hf : f.name ≠ "_" := hc.2
      have step:∃a b,(part f.type xs f.offset).run P w=.ok a w/\(part f.type ys f.offset).run P w=.ok b w/\(Op.equalIn (D+1) f.type a b).run P w=.ok r1 w:=by
       rw[hc.1]
       obtain⟨l1,l2⟩:=Bn _ _ _ _ e1
       rcases Tt _ _ hkf with⟨k,rfl,hk⟩|⟨⟨gs,hu⟩,ji⟩
       ·simp only[List.length_cons,List.length_nil,Nat.zero_add]at e1 l1 l2
        have ha:∃a,as[off]?=some a:=by
         cases h:as[off]? with
         |some a=>exact⟨a,rfl⟩
         |none=>rw[List.getElem?_eq_none_iff]at h;simp at l1;omega
        have hb:∃b,bs[off]?=some b:=by
         cases h:bs[off]? with
         |some a=>exact⟨a,rfl⟩
         |none=>rw[List.getElem?_eq_none_iff]at h;simp at l2;omega
        obtain⟨a,ha⟩:=ha
        obtain⟨b,hb⟩:=hb
        have Jl:off<xs.size:=by have:=(List.getElem?_eq_some_iff.1 ha).1;have:=hx.1;simp at this;omega
        have Tu:off<ys.size:=by have:=(List.getElem?_eq_some_iff.1 hb).1;have:=hy.1;simp at this;omega
        have hxa:=hx.2 off a xs[off] ha (by simp[Jl])
        have hyb:=hy.2 off b ys[off] hb (by simp[Tu])
        refine⟨xs[off],ys[off],zw hk (by simp[Jl]) w,zw hk (by simp[Tu]) w,?_⟩
        have:Dk k a b=some r1:=by
         have t1:(as.drop off).take 1=[a]:=by
          rw[List.drop_eq_getElem_cons (List.getElem?_eq_some_iff.1 ha).1,(List.getElem?_eq_some_iff.1 ha).2];simp
         have t2:(bs.drop off).take 1=[b]:=by
          rw[List.drop_eq_getElem_cons (List.getElem?_eq_some_iff.1 hb).1,(List.getElem?_eq_some_iff.1 hb).2];simp
         rw[t1,t2]at e1
         simp only[Dl]at e1
         split at e1
         ·rename_i p q hp hq
          cases hq
          simpa [hp] using e1
         ·cases e1
        exact Ts hk this hxa hyb D w
       ·refine⟨_,_,w8 hu mQ xs w,w8 hu mQ ys w,ji _ _ _ _ _ ?_ ?_ e1⟩
        ·have:=(hx.drop off).take kf.length
         simpa [Array.toList_extract,List.extract] using this
        ·have:=(hy.drop off).take kf.length
         simpa [Array.toList_extract,List.extract] using this
      obtain⟨a,b,p1,p2,p3⟩:=step
      simp only[Op.eqFields,hf,ne_eq,not_false_eq_true,if_true,Sem.run_bind,p1,p2,p3,Result.andThen_ok]
      cases r1
      ·simp
      ·simpa using ih
     ·cases h
    ·cases h
   ·cases h
  ·cases h
theorem GR:∀(d D:Nat)(t:TypeId)(ks:List SK),d<=D->Bi P d t=some ks->abY P G w (D+1) t ks
 |0,_,_,_,_,h=>by simp[Bi]at h
 |d+1,D,t,ks,hd,h=>by
  unfold Bi at h
  split at h
  ·cases h;exact .inl ⟨.bool,rfl,by unfold nN;simp[*]⟩
  ·cases h;exact .inl ⟨.int,rfl,by unfold nN;simp[*]⟩
  ·cases h;exact .inl ⟨.str,rfl,by unfold nN;simp[*]⟩
  ·rename_i fs hu
   split at h
   ·cases h
   ·rename_i hs
    refine .inr ⟨⟨fs,hu⟩,λxs ys as bs r hx hy he=>?_⟩
    have hfs:P.fieldsOf t=fs:=by simp[Program.fieldsOf,hu]
    rw[run_equalIn_struct w D t xs ys (by rw[hfs];exact hu) (by simpa using hs),hfs]
    obtain⟨D',rfl⟩:∃D',D=D'+1:=⟨D-1,by omega⟩
    exact w9 D' xs ys as bs hx hy (Bi P d) (λt ks h=>GR d D' t ks (by omega) h) fs.toList 0 ks r h (by simpa using he)
  ·cases h
theorem MI{t:TypeId}(h:vK P t (.sc .bool)=true):P.underlying t=some .bool:=by
 simp only[vK]at h;split at h
 ·assumption
 ·cases h
theorem OO{t:TypeId}(h:vK P t .ptr=true):∃e,P.underlying t=some (.pointer e):=by
 simp only[vK]at h;split at h
 ·exact⟨_,by assumption⟩
 ·cases h
theorem Lc{t:TypeId}(h:vK P t .sl=true):∃e,P.underlying t=some (.slice e):=by
 simp only[vK]at h;split at h
 ·exact⟨_,by assumption⟩
 ·cases h
theorem Tv{t:TypeId}(h:vK P t .fn=true):∃a b c,P.underlying t=some (.func a b c):=by
 simp only[vK]at h;split at h
 ·exact⟨_,_,_,by assumption⟩
 ·cases h
def Ld(x:Value):Prop:=(∀k n,x≠.int k n)/\(∀k n,x≠.float k n)/\(∀s,x≠.string s)/\(∀k r i,x≠.complex k r i)
theorem cA(t:TypeId){x y:Value}(h1:x≠.nilIface)(h2:∀cs,x≠.agg cs)(op:BinOp)(xo yo:Operand)(w:World):(eqGuard op t xo yo x y).run P w=.ok () w:=by
 cases op<;>cases x<;>simp_all [eqGuard]
theorem Tw{t:TypeId}{k:EqK}{a b:AV}{x y:Value}{r:Bool}(ht:vK P t k=true)(h:GF k a b=some r)(ha:aO w G a x)(hb:aO w G b y) :
  (Op.equal t x y).run P w=.ok r w/\(∀op (xo yo:Operand),(eqGuard op t xo yo x y).run P w=.ok () w)/\Ld x:=by
 unfold Op.equal Op.maxDepth
 cases k with
 |sc k=>
  cases k with
  |bool=>
   simp only[GF]at h
   have hu:=MI ht
   unfold Dk at h
   split at h<;>try cases h
   ·rw[ha.jm,hb.jm]
    exact⟨run_equalIn_bool w 9999 t _ _ hu,λop xo yo=>cA t (by simp) (by simp) op xo yo w,by simp,by simp,by simp,by simp⟩
   all_goals simp_all
  |int=>simp[vK]at ht
  |str=>simp[vK]at ht
 |flat ks=>
  unfold GF at h
  split at h<;>try (cases h;done)
  all_goals try (rename_i heq;cases heq;done)
  rename_i ks' as bs heq
  cases heq
  cases ha with
  |agg _ xs hl hx=>
   cases hb with
   |agg _ ys oc hy=>
    simp only[vK,Bool.and_eq_true,Bool.not_eq_true']at ht
    obtain⟨⟨hu,hf⟩,hg⟩:=ht
    have hfk:Bi P 20 t=some ks:=by simpa using hf
    refine⟨?_,λop xo yo=>run_eqGuard_agg w op t xo yo xs ys hg,by simp,by simp,by simp,by simp⟩
    rcases GR (w:=w) (G:=G) 20 9999 t ks (by omega) hfk with⟨k,rfl,hk⟩|⟨_,ji⟩
    ·exfalso
     unfold nN at hk
     cases k<;>simp only at hk<;>split at hk<;>simp_all
    ·exact ji xs ys as bs r ⟨by simpa using hl,λi c v h1 h2=>hx i c v h1 (by simpa using h2)⟩ ⟨by simpa using oc,λi c v h1 h2=>hy i c v h1 (by simpa using h2)⟩ h
 |ptr=>
  obtain⟨e,hu⟩:=OO ht
  have key:∀(p q:Option Addr) (r:Bool),(p=none/\r=q.isNone\/q=none/\r=p.isNone)->(Op.equalIn (9999+1) t (.pointer p) (.pointer q)).run P w=.ok r w:=by
   generalize 9999=D
   intro p q r h
   rcases h with⟨rfl,rfl⟩|⟨rfl,rfl⟩
   ·cases q<;>simp[Op.equalIn,run_underlying hu]
   ·cases p<;>simp[Op.equalIn,run_underlying hu]
  have inv:∀{a x},aO w G a x->(a=.eO->x=.pointer none)/\(∀i v k l,a=.ptr i v k l->∃p,x=.pointer (some p))/\(∀i v k l,a=.ox i v k l->∃p,x=.pointer (some p)):=by
   intro a x h
   refine⟨λe=>by subst e;cases h;rfl,λi v k l e=>by subst e;cases h with|ptr _ _ _ _ _ loc hp=>exact hp,λi v k l e=>by subst e;cases h;exact⟨_,rfl⟩⟩
  unfold GF at h
  split at h<;>try (cases h;done)
  all_goals try (rename_i heq;cases heq;done)
  ·cases h;rw[(inv ha).1 rfl,(inv hb).1 rfl]
   exact⟨key _ _ _ (.inl ⟨rfl,rfl⟩),λop xo yo=>cA t (by simp) (by simp) op xo yo w,by simp,by simp,by simp,by simp⟩
  ·cases h;obtain⟨p,hp⟩:=(inv hb).2.1 _ _ _ _ rfl;rw[(inv ha).1 rfl,hp]
   exact⟨key _ _ _ (.inl ⟨rfl,rfl⟩),λop xo yo=>cA t (by simp) (by simp) op xo yo w,by simp,by simp,by simp,by simp⟩
  ·cases h;obtain⟨p,hp⟩:=(inv hb).2.2 _ _ _ _ rfl;rw[(inv ha).1 rfl,hp]
   exact⟨key _ _ _ (.inl ⟨rfl,rfl⟩),λop xo yo=>cA t (by simp) (by simp) op xo yo w,by simp,by simp,by simp,by simp⟩
  ·cases h;obtain⟨p,hp⟩:=(inv ha).2.1 _ _ _ _ rfl;rw[(inv hb).1 rfl,hp]
   exact⟨key _ _ _ (.inr ⟨rfl,rfl⟩),λop xo yo=>cA t (by simp) (by simp) op xo yo w,by simp,by simp,by simp,by simp⟩
  ·cases h;obtain⟨p,hp⟩:=(inv ha).2.2 _ _ _ _ rfl;rw[(inv hb).1 rfl,hp]
   exact⟨key _ _ _ (.inr ⟨rfl,rfl⟩),λop xo yo=>cA t (by simp) (by simp) op xo yo w,by simp,by simp,by simp,by simp⟩
 |sl=>
  obtain⟨e,hu⟩:=Lc ht
  have Tx:∀(q:Option Addr) (n c:Nat),(Op.equalIn (9999+1) t (.slice none 0 0) (.slice q n c)).run P w=.ok q.isNone w:=by
   generalize 9999=D
   intro q n c;simp[Op.equalIn,run_underlying hu]
  have OP:∀(q:Option Addr) (n c:Nat),(Op.equalIn (9999+1) t (.slice q n c) (.slice none 0 0)).run P w=.ok q.isNone w:=by
   generalize 9999=D
   intro q n c;cases q<;>simp[Op.equalIn,run_underlying hu]
  have inv:∀{a x},aO w G a x->(a=.U->x=.slice none 0 0)/\(∀s r,a=.dj s r->∃p n c,x=.slice (some p) n c)/\(∀s r,a=.je s r->∃p n c,x=.slice (some p) n c)/\(a=.kV->∃p n c,x=.slice (some p) n c):=by
   intro a x h
   refine⟨λe=>by subst e;cases h;rfl,λs r e=>by subst e;cases h;exact⟨_,_,_,rfl⟩,λs r e=>by subst e;cases h;exact⟨_,_,_,rfl⟩,λe=>by subst e;cases h;exact⟨_,_,_,rfl⟩⟩
  unfold GF at h
  split at h<;>try (cases h;done)
  all_goals try (rename_i heq;cases heq;done)
  ·cases h;rw[(inv ha).1 rfl,(inv hb).1 rfl]
   exact⟨Tx _ _ _,λop xo yo=>cA t (by simp) (by simp) op xo yo w,by simp,by simp,by simp,by simp⟩
  ·cases h;obtain⟨p,n,c,hp⟩:=(inv hb).2.1 _ _ rfl;rw[(inv ha).1 rfl,hp]
   exact⟨Tx _ _ _,λop xo yo=>cA t (by simp) (by simp) op xo yo w,by simp,by simp,by simp,by simp⟩
  ·cases h;obtain⟨p,n,c,hp⟩:=(inv hb).2.2.1 _ _ rfl;rw[(inv ha).1 rfl,hp]
   exact⟨Tx _ _ _,λop xo yo=>cA t (by simp) (by simp) op xo yo w,by simp,by simp,by simp,by simp⟩
  ·cases h;obtain⟨p,n,c,hp⟩:=(inv hb).2.2.2 rfl;rw[(inv ha).1 rfl,hp]
   exact⟨Tx _ _ _,λop xo yo=>cA t (by simp) (by simp) op xo yo w,by simp,by simp,by simp,by simp⟩
  ·cases h;obtain⟨p,n,c,hp⟩:=(inv ha).2.1 _ _ rfl;rw[(inv hb).1 rfl,hp]
   exact⟨OP _ _ _,λop xo yo=>cA t (by simp) (by simp) op xo yo w,by simp,by simp,by simp,by simp⟩
  ·cases h;obtain⟨p,n,c,hp⟩:=(inv ha).2.2.1 _ _ rfl;rw[(inv hb).1 rfl,hp]
   exact⟨OP _ _ _,λop xo yo=>cA t (by simp) (by simp) op xo yo w,by simp,by simp,by simp,by simp⟩
  ·cases h;obtain⟨p,n,c,hp⟩:=(inv ha).2.2.2 rfl;rw[(inv hb).1 rfl,hp]
   exact⟨OP _ _ _,λop xo yo=>cA t (by simp) (by simp) op xo yo w,by simp,by simp,by simp,by simp⟩
 |fn=>
  obtain⟨e1,e2,e3,hu⟩:=Tv ht
  have k1:∀D,(Op.equalIn (D+1) t .nilFunc .nilFunc).run P w=.ok true w:=λD=>by simp[Op.equalIn,run_underlying hu]
  have k2:∀D f p q,(Op.equalIn (D+1) t .nilFunc (.func f p q)).run P w=.ok false w:=λD f p q=>by simp[Op.equalIn,run_underlying hu]
  have k3:∀D f p q,(Op.equalIn (D+1) t (.func f p q) .nilFunc).run P w=.ok false w:=λD f p q=>by simp[Op.equalIn,run_underlying hu]
  have inv:∀{a x},aO w G a x->(a=.iw->x=.nilFunc)/\(∀f b c,a=.fn f b c->∃p q,x=.func (.func f) p q):=by
   intro a x h
   refine⟨λe=>by subst e;cases h;rfl,λs r c e=>by subst e;cases h;exact⟨_,_,rfl⟩⟩
  unfold GF at h
  split at h<;>try (cases h;done)
  all_goals try (rename_i heq;cases heq;done)
  ·cases h;rw[(inv ha).1 rfl,(inv hb).1 rfl]
   exact⟨k1 9999,λop xo yo=>cA t (by simp) (by simp) op xo yo w,by simp,by simp,by simp,by simp⟩
  ·cases h;obtain⟨p,q,hp⟩:=(inv hb).2 _ _ _ rfl;rw[(inv ha).1 rfl,hp]
   exact⟨k2 9999 _ _ _,λop xo yo=>cA t (by simp) (by simp) op xo yo w,by simp,by simp,by simp,by simp⟩
  ·cases h;obtain⟨p,q,hp⟩:=(inv ha).2 _ _ _ rfl;rw[(inv hb).1 rfl,hp]
   exact⟨k3 9999 _ _ _,λop xo yo=>cA t (by simp) (by simp) op xo yo w,by simp,by simp,by simp,by simp⟩
end Ax
namespace Ax
open Go
variable {P:Program}{w:World}{G:aM}{β:List lE}{ρ:Operand->Value}{o:Oper}
structure tN (w:World)(G:aM)(sz:Nat)(rows:List (List AV))(loc:j9):Prop where
 Dp:bU sz rows=true
 AE:∀r∈rows,AV.aK r=true
 len:loc.len=rows.length
 size:loc.sz=sz
 qO:loc.vals.length=rows.length
 rm:∀(i:Nat) r xs,rows[i]?=some r->loc.vals[i]?=some xs->cj w G r xs
 oe:(loc.cap=0/\rows=[]/\loc.a.isSome=true)\/∃b off c e,loc.a=some ⟨b,off,none⟩/\0<loc.cap/\w.heap[b]?=some (.cells c e (0,0))/\off+loc.cap*sz<=c.size/\rows.length<=loc.cap/\
  G.kR b=some 0/\∀(i:Nat) xs (j:Nat) x,loc.vals[i]?=some xs->xs[j]?=some x->w.cell? ⟨b,off+(i*sz+j),none⟩=some x
theorem tN.cell{sz:Nat}{rows:List (List AV)}{loc:j9}(h:tN w G sz rows loc){b off:Nat}(hc:∀(i:Nat) xs (j:Nat) x,loc.vals[i]?=some xs->xs[j]?=some x->w.cell? ⟨b,off+(i*sz+j),none⟩=some x) :
  ∀(i:Nat) r (j:Nat) x,rows[i]?=some r->r[j]?=some x->∃v,w.cell? ⟨b,off+(i*sz+j),none⟩=some v/\aO w G x v:=by
 intro i r j x h1 h2
 have hi:i<loc.vals.length:=by rw[h.qO];exact(List.getElem?_eq_some_iff.1 h1).1
 have hv:=List.getElem?_eq_getElem hi
 obtain⟨e1,e2⟩:=h.rm i r _ h1 hv
 have hj:j<loc.vals[i].length:=by rw[<-e1];exact(List.getElem?_eq_some_iff.1 h2).1
 exact⟨_,hc i _ j _ hv (List.getElem?_eq_getElem hj),e2 j x _ h2 (List.getElem?_eq_getElem hj)⟩
def og(w:World)(G:aM):fL->j9->Prop
 |.rows bX sz rows,loc=>loc.mp=false/\loc.bX=bX/\tN w G sz rows loc
 |.map es,loc=>loc.mp=true/\loc.cap=1/\∃b tK clock,loc.a=some ⟨b,0,none⟩/\w.heap[b]?=some (.map tK clock)/\G.kR b=some 0/\tK.size=es.length/\
   ∀(i:Nat) k v e,es[i]?=some (k,v)->tK[i]?=some e->aO w G k e.key/\aO w G v e.val/\v.bZ=true/\k.bZ=true
structure iH (w:World)(G:aM)(st:aj):Prop where
 len:G.ls.length=st.length
 bC:∀(id:Nat) ob loc,st[id]?=some ob->G.ls[id]?=some loc->og w G ob loc
 lF:∀b p,G.kR b=some p->b<w.heap.size
theorem iH.loc{st:aj}(h:iH w G st){id:Nat}{ob:fL}(hs:st[id]?=some ob):∃loc,G.ls[id]?=some loc/\og w G ob loc:=by
 have hi:id<st.length:=(List.getElem?_eq_some_iff.1 hs).1
 have:id<G.ls.length:=by rw[h.len];exact hi
 exact⟨G.ls[id],List.getElem?_eq_getElem this,h.bC id ob _ hs (List.getElem?_eq_getElem this)⟩
theorem OQ{st:aj}(hI:iH w G st){a:AV}{v:Value}{rows:List (List AV)}(h:aO w G a v)(hr:eC st a=some rows) :
  ∃p n c,v=.slice p n c/\n=rows.length:=by
 unfold eC at hr
 split at hr
 ·cases hr;cases h;exact⟨_,_,_,rfl,rfl⟩
 ·cases hr;cases h;exact⟨_,_,_,rfl,rfl⟩
 ·cases hr;cases h;exact⟨_,_,_,rfl,rfl⟩
 ·cases hr;cases h;exact⟨_,_,_,rfl,rfl⟩
 ·rename_i id bX
  split at hr
  ·rename_i v' sz dN fh
   split at hr
   ·rename_i hv
    cases hr
    obtain⟨loc,hl,ho⟩:=hI.loc fh
    cases h with
    |mu _ _ _ loc' hp oc Dm he=>
     rw[hl]at oc;cases oc
     obtain⟨h1,h2,h3⟩:=ho
     refine⟨_,_,_,he (by omega),h3.len⟩
   ·cases hr
  ·cases hr
 ·cases hr
theorem abZ{op:BinOp}{t yt:TypeId}{x y:Operand}(ho:o.op=.binOp op t x y yt){a b v:AV}(hv:Aj op a b=some v)(ha:aO w G a (ρ x))(hb:aO w G b (ρ y)) :
  ∃u,(execOp ρ o).run P w=.ok (.value u) w/\aO w G v u/\v.bZ=true:=by
 unfold Aj at hv
 split at hv
 ·rename_i k p l q
  split at hv
  ·rename_i hk
   subst hk
   have hx:=ha.fD
   have hy:=hb.fD
   simp only[execOp,ho,hx,hy]
   have hg:∀op (w:World),(eqGuard op t x y (.int k p) (.int k q)).run P w=.ok () w:=λop w=>cA t (by simp) (by simp) op x y w
   cases op<;>simp only[kg]at hv<;>(try (cases hv;done))<;>(try (split at hv;· cases hv))<;>cases hv
   all_goals first
    |(refine⟨_,?_,.int _ _,rfl⟩;simp[binOp,Op.intArith,Op.intBits,hg];done)
    |(refine⟨_,?_,.bool _,rfl⟩;simp[binOp,Op.intCmp,hg];done)
    |(rename_i h0;refine⟨_,?_,.int _ _,rfl⟩;simp[binOp,Op.intDiv,hg,if_neg h0];done)
  ·cases hv
 ·rename_i p q
  obtain⟨s,hx,rfl⟩:=ha.lB
  obtain⟨s',hy,rfl⟩:=hb.lB
  simp only[execOp,ho,hx,hy]
  have hg:∀op (w:World),(eqGuard op t x y (.string s) (.string s')).run P w=.ok () w:=λop w=>cA t (by simp) (by simp) op x y w
  have h1:s.data.toList.length=s.size:=by simp
  have h2:s'.data.toList.length=s'.size:=by simp
  split at hv
  ·split at hv
   ·rename_i hle
    cases hv
    refine⟨.string (s++s'),?_,.str _ _ (by simp),rfl⟩
    have:¬(((s.size+s'.size:Nat):Int) > IntKind.i64.max):=by
     rw[h1,h2]at hle
     have:IntKind.i64.max=9223372036854775807:=rfl
     omega
    simp only[binOp,Op.stringOp,Sem.run_bind,hg,Result.andThen_ok,if_neg this,Sem.run_pure]
   ·cases hv
  ·cases hv
   exact⟨_,by simp[binOp,Op.stringOp,hg,ByteArray.toList_eq],.bool _,rfl⟩
  ·cases hv
   exact⟨_,by simp[binOp,Op.stringOp,hg,ByteArray.toList_eq],.bool _,rfl⟩
  ·cases hv
 ·cases hv
theorem binOp_eql{x:Value}(h:Ld x)(t:TypeId)(y:Value):binOp .eql t x y=(do pure (.bool (<-Op.equal t x y))):=by
 obtain⟨h1,h2,h3,h4⟩:=h
 cases x<;>first|rfl|(cases y<;>first|rfl|simp_all)
theorem binOp_neq{x:Value}(h:Ld x)(t:TypeId)(y:Value):binOp .neq t x y=(do pure (.bool (!(<-Op.equal t x y)))):=by
 obtain⟨h1,h2,h3,h4⟩:=h
 cases x<;>first|rfl|(cases y<;>first|rfl|simp_all)
theorem ab0{t yt:TypeId}{x y:Operand}{k:EqK}{neg:Bool}(ho:o.op=.binOp (if neg then .neq else .eql) t x y yt)(ht:vK P t k=true){a b:AV}{r:Bool}(hr:GF k a b=some r)
  (ha:aO w G a (ρ x))(hb:aO w G b (ρ y)):∃u,(execOp ρ o).run P w=.ok (.value u) w/\aO w G (.bool (if neg then !r else r)) u:=by
 obtain⟨h1,h2,h3⟩:=Tw ht hr ha hb
 refine⟨_,?_,.bool _⟩
 simp only[execOp,ho]
 cases neg
 ·simp[h2,binOp_eql h3,h1]
 ·simp[h2,binOp_neq h3,h1]
theorem Tz{t yt:TypeId}{x y:Operand}{neg:Bool}(ho:o.op=.binOp (if neg then .neq else .eql) t x y yt)(ht:vK P t .sl=true){st:aj}(hI:iH w G st){id bX v sz:Nat}{rows:List (List AV)}(fh:st[id]?=some (.rows v sz rows))(hv:v=bX)
  (ha:aO w G (.mu id bX) (ρ x))(hb:aO w G .U (ρ y)):(execOp ρ o).run P w=.ok (.value (.bool neg)) w:=by
 obtain⟨loc,hl,TA⟩:=hI.loc fh
 obtain⟨e,hu⟩:=Lc ht
 have hy:ρ y=.slice none 0 0:=by
  generalize ρ y=z at hb
  cases hb;rfl
 obtain⟨p,n,c,hx⟩:∃p n c,ρ x=.slice (some p) n c:=by
  generalize ρ x=z at ha
  cases ha with
  |mu _ _ _ loc' hp oc Dm he=>
   rw[hl]at oc;cases oc
   obtain⟨h1,h2,h3⟩:=TA
   have hz:=he (by omega)
   rcases h3.oe with⟨_,_,h4⟩|⟨b,off,c,e,h4,_⟩
   ·obtain⟨a,ha⟩:=Option.isSome_iff_exists.1 h4
    rw[ha]at hz;exact⟨_,_,_,hz⟩
   ·rw[h4]at hz;exact⟨_,_,_,hz⟩
 have h1:(Op.equal t (ρ x) (ρ y)).run P w=.ok false w:=by
  have OP:∀(q:Option Addr) (n c:Nat),(Op.equalIn (9999+1) t (.slice q n c) (.slice none 0 0)).run P w=.ok q.isNone w:=by
   generalize 9999=D
   intro q n c;cases q<;>simp[Op.equalIn,run_underlying hu]
  rw[hx,hy]
  unfold Op.equal Op.maxDepth
  exact OP (some p) n c
 have h2:∀op (xo yo:Operand),(eqGuard op t xo yo (ρ x) (ρ y)).run P w=.ok () w:=by
  rw[hx,hy]
  exact λop xo yo=>cA t (by simp) (by simp) op xo yo w
 have h3:Ld (ρ x):=by
  rw[hx]
  exact⟨by simp,by simp,by simp,by simp⟩
 simp only[execOp,ho]
 cases neg
 ·simp[h2,binOp_eql h3,h1]
 ·simp[h2,binOp_neq h3,h1]
theorem agQ{op:UnOp}{t:TypeId}{x:Operand}(ho:o.op=.unOp op t x){a v:AV}(hv:XE op a=some v)(ha:aO w G a (ρ x)) :
  ∃u,(execOp ρ o).run P w=.ok (.value u) w/\aO w G v u/\v.bZ=true:=by
 unfold XE at hv
 split at hv
 ·rename_i k p
  split at hv
  ·cases hv
   refine⟨_,?_,.int _ _,rfl⟩
   simp only[execOp,ho,ha.fD]
   simp[Op.unary,Op.intArith]
  ·cases hv
 ·rename_i b
  split at hv
  ·cases hv
   refine⟨_,?_,.bool _,rfl⟩
   simp only[execOp,ho,ha.jm]
   simp[Op.unary]
  ·cases hv
 ·cases hv
theorem XG{s d:TypeId}{x:Operand}{k k':IntKind}(ho:o.op=.convert s d x)(hs:P.underlying s=some (.int k'))(hd:P.underlying d=some (.int k)){l:IntKind}{n:Int}(ha:aO w G (.int l n) (ρ x)) :
  (execOp ρ o).run P w=.ok (.value (.int k (k.wrap n))) w:=by
 simp only[execOp,ho,ha.fD]
 simp[convert,run_underlying hs,run_underlying hd,Conv.intToInt]
theorem ab1{c:Call}(ho:o.op=.call c)(hc:c.callee=.builtin .len){x:Operand}{t:TypeId}(hx:c.args.toList=[x])(ht:c.argTypes[0]?=some t){k:LK}
  (hu:match k with|.sl=>∃e,P.underlying t=some (.slice e)|.str=>P.underlying t=some .string|.mp=>∃k e,P.underlying t=some (.map k e))
  {st:aj} (hI:iH w G st) {a:AV} {n:Nat} (hn:mV st k a=some n) (ha:aO w G a (ρ x)) :
  (execOp ρ o).run P w=.ok (.value (.int .i64 n)) w:=by
 have vU:c.args = #[x]:=by
  have:=congrArg List.toArray hx;simpa using this
 simp only[execOp,ho,resolve,hc,Sem.run_bind,Sem.run_pure,Result.andThen_ok,invoke,builtin,vU]
 simp only[Builtin.len_]
 unfold mV at hn
 split at hn
 ·obtain⟨s',Wg,rfl⟩:=ha.lB
  cases hn
  simp[ht,run_underlying hu,Wg,goInt]
 ·cases hn
  obtain⟨km,em,hu⟩:=hu
  cases h:ρ x<;>rw[h]at ha<;>cases ha
  simp[ht,run_underlying hu,goInt,h]
 ·obtain⟨km,em,hu⟩:=hu
  split at hn
  ·rename_i es fh
   cases hn
   obtain⟨loc,hl,TA⟩:=hI.loc fh
   generalize GS:ρ x=xv at ha
   cases ha with
   |map _ loc' b oc hm hb=>
    rw[hl]at oc;cases oc
    obtain⟨h1,h2,b',tK,clock,h3,h4,h5,h6,h7⟩:=TA
    rw[hb]at h3;cases h3
    simp[ht,run_underlying hu,GS,goInt,getObj,Sem.run,h4,h6]
  ·cases hn
 ·obtain⟨e,hu⟩:=hu
  split at hn
  ·rename_i rows hr
   cases hn
   obtain⟨p,m,cc,Wg,rfl⟩:=OQ hI ha hr
   simp[ht,run_underlying hu,Wg,goInt]
  ·cases hn
 ·cases hn
end Ax
namespace Ax
open Go
theorem dx{α:Type}:∀(cs:List α)(k:Nat)(vs:List α),(af cs k vs).length=cs.length
 |[],0,[]=>rfl
 |[],0,_::_=>rfl
 |[],_+1,_=>rfl
 |_::_,0,[]=>rfl
 |_::cs,0,_::vs=>by simp[af,dx cs 0 vs]
 |_::cs,k+1,vs=>by simp[af,dx cs k vs]
theorem iS{α:Type}:∀(cs:List α)(k:Nat)(vs:List α)(i:Nat),k+vs.length<=cs.length->
  (af cs k vs)[i]?=if k<=i/\i<k+vs.length then vs[i-k]? else cs[i]?
 |[],0,[],i,_=>by simp[af]
 |[],0,_::_,i,h=>by simp at h
 |[],k+1,vs,i,h=>by simp at h
 |c::cs,0,[],i,_=>by simp[af]
 |c::cs,0,v::vs,0,_=>by simp[af]
 |c::cs,0,v::vs,i+1,h=>by
  have:=iS cs 0 vs i (by simp at h ⊢;omega)
  simp only[af,List.getElem?_cons_succ,this,List.length_cons,Nat.zero_add,Nat.sub_zero,Nat.zero_le,true_and]
  by_cases hi:i<vs.length
  ·simp[hi]
  ·simp[hi]
 |c::cs,k+1,vs,0,h=>by simp[af]
 |c::cs,k+1,vs,i+1,h=>by
  have:=iS cs k vs i (by simp at h;omega)
  simp only[af,List.getElem?_cons_succ,this]
  by_cases hi:k<=i/\i<k+vs.length
  ·rw[if_pos hi,if_pos (by omega),show i+1-(k+1)=i-k by omega]
  ·rw[if_neg hi,if_neg (by omega)]
theorem jn{α:Type}(cs:List α)(k:Nat)(vs:List α)(h:k+vs.length<=cs.length):af cs k vs=cs.take k++vs++cs.drop (k+vs.length):=by
 apply List.ext_getElem?
 intro i
 rw[iS cs k vs i h]
 by_cases h1:i<k
 ·rw[if_neg (by omega),List.getElem?_append_left (by simp;omega),List.getElem?_append_left (by simp;omega),List.getElem?_take,if_pos h1]
 ·by_cases h2:i<k+vs.length
  ·rw[if_pos (by omega),List.getElem?_append_left (by simp;omega),List.getElem?_append_right (by simp;omega)]
   simp only[List.length_take]
   rw[Nat.min_eq_left (by omega)]
  ·rw[if_neg (by omega),List.getElem?_append_right (by simp;omega)]
   simp only[List.length_append,List.length_take,List.getElem?_drop]
   rw[Nat.min_eq_left (by omega)]
   congr 1
   omega
theorem Bo(b:Nat)(xs:List Value):bV b [] xs=0:=by cases xs<;>rfl
theorem fy(b:Nat):∀(as bs:List AV)(xs ys:List Value),as.length=xs.length->bV b (as++bs) (xs++ys)=bV b as xs+bV b bs ys
 |[],bs,[],ys,_=>by simp[bV]
 |[],_,_::_,_,h=>by simp at h
 |_::_,_,[],_,h=>by simp at h
 |a::as,bs,x::xs,ys,h=>by
  simp only[List.cons_append,bV]
  rw[fy b as bs xs ys (by simpa using h)]
  omega
theorem ko(b n:Nat)(as:List AV)(xs:List Value)(h:as.length=xs.length):bV b as xs=bV b (as.take n) (xs.take n)+bV b (as.drop n) (xs.drop n):=by
 rw[<-fy b _ _ _ _ (by simp[h]),List.take_append_drop,List.take_append_drop]
theorem uR(b n:Nat)(as:List AV)(xs:List Value)(h:as.length=xs.length):bV b (as.drop n) (xs.drop n)<=bV b as xs:=by
 have:=ko b n as xs h;omega
theorem MJ(b n:Nat)(as:List AV)(xs:List Value)(h:as.length=xs.length):bV b (as.take n) (xs.take n)<=bV b as xs:=by
 have:=ko b n as xs h;omega
theorem pF(b:Nat)(as vs:List AV)(xs ys:List Value)(k:Nat)(h1:as.length=xs.length)(h2:vs.length=ys.length)(h:k+vs.length<=as.length) :
  bV b (af as k vs) (af xs k ys)<=bV b as xs+bV b vs ys:=by
 rw[jn _ _ _ h,jn _ _ _ (by omega)]
 rw[fy b _ _ _ _ (by simp;omega),fy b _ _ _ _ (by simp;omega)]
 have e1:=ko b k as xs h1
 have e2:=uR b vs.length (as.drop k) (xs.drop k) (by simp;omega)
 rw[List.drop_drop,List.drop_drop]at e2
 rw[h2]at *
 omega
section
variable {w:World}{G:aM}
theorem cj.af{as vs:List AV}{xs ys:List Value}(h:cj w G as xs)(k:cj w G vs ys){n:Nat}(hn:n+vs.length<=as.length):cj w G (Ax.af as n vs) (Ax.af xs n ys):=by
 refine⟨by rw[dx,dx];exact h.1,λi c v hc hv=>?_⟩
 have h1:=h.1
 have h2:=k.1
 rw[iS _ _ _ _ hn]at hc
 rw[iS _ _ _ _ (by omega)]at hv
 rw[<-h2]at hv
 split at hc
 ·rename_i hi;rw[if_pos hi]at hv;exact k.2 _ c v hc hv
 ·rename_i hi;rw[if_neg hi]at hv;exact h.2 _ c v hc hv
theorem aO.cells{a:AV}{v:Value}(h:aO w G a v):cj w G a.cells v.cells.toList/\∀b,bV b a.cells v.cells.toList=fj b a v:=by
 have one:∀{a:AV} {v:Value},aO w G a v->(∀cs,a≠.agg cs)->(∀cs,v≠.agg cs)->cj w G a.cells v.cells.toList/\∀b,bV b a.cells v.cells.toList=fj b a v:=by
  intro a v h h1 h2
  have e1:a.cells=[a]:=by cases a<;>first|rfl|exact absurd rfl (h1 _)
  have e2:v.cells = #[v]:=by cases v<;>first|rfl|exact absurd rfl (h2 _)
  rw[e1,e2]
  refine⟨⟨rfl,λi c x hc hx=>?_⟩,λb=>by simp[bV]⟩
  cases i with
  |zero=>simp at hc hx;subst hc;subst hx;exact h
  |succ i=>simp at hc
 cases a with
 |agg cs=>
  cases h with
  |agg _ vs hl hh=>exact⟨⟨by simpa [AV.cells,Value.cells] using hl,λi c x hc hx=>hh i c x hc (by simpa [Value.cells] using hx)⟩,λb=>by simp[AV.cells,Value.cells,fj]⟩
 |gone=>
  refine one h (by simp) λcs e=>?_
  subst e
  cases h with|gone _ h=>simp[Value.oneCell']at h
 |mu id bX=>
  refine one h (by simp) λcs e=>?_
  subst e
  cases h with|mu _ _ _ _ hp=>obtain⟨p,n,c,hp⟩:=hp;cases hp
 |ptr id bX i k=>
  refine one h (by simp) λcs e=>?_
  subst e
  cases h with|ptr _ _ _ _ _ _ hp=>obtain⟨p,hp⟩:=hp;cases hp
 |undef=>refine one h (by simp) λcs e=>?_;subst e;generalize hx:Value.agg cs=x at h;cases h;cases hx
 |bool _|int _ _|str _|eO|U|fG|iw|jF|fK _|dj _ _|je _ _|raw _ _|kV|ox _ _ _ _|map _|fn _ _ _=>
  refine one h (by simp) λcs e=>?_;subst e;cases h
theorem OR{a:AV}{v:Value}(h:aO w G a v)(hc:a.cH=true):v.oneCell'=true:=by
 cases h with
 |agg _ _ _ _=>simp[AV.cH]at hc
 |fK _ _ _ _=>simp[AV.cH]at hc
 |undef=>simp[AV.cH]at hc
 |gone _ h=>exact h
 |mu _ _ _ _ hp=>obtain⟨p,n,c,rfl⟩:=hp;rfl
 |ptr _ _ _ _ _ _ hp=>obtain⟨p,rfl⟩:=hp;rfl
 |_=>rfl
theorem cj.TB{as:List AV}{xs:List Value}(h:cj w G as xs)(hc:AV.aK as=true):∀v∈xs,v.oneCell'=true:=by
 intro v hv
 obtain⟨i,hi,rfl⟩:=List.mem_iff_getElem.1 hv
 have oT:i<as.length:=by have:=h.1;omega
 refine OR (h.2 i as[i] xs[i] (List.getElem?_eq_getElem oT) (List.getElem?_eq_getElem hi)) ?_
 simp only[AV.aK,List.all_eq_true]at hc
 exact hc _ (List.getElem_mem oT)
theorem cj.mono{as:List AV}{xs:List Value}{w':World}{G':aM}(h:cj w G as xs)(hs:qq w G w' G')(ho:∀b,0<bV b as xs->G'.kR b=G.kR b/\w'.heap[b]?=w.heap[b]?):cj w' G' as xs:=
 ⟨h.1,λi c v hc hv=>(h.2 i c v hc hv).iR hs λb hb=>ho b (by have:=tM b as xs i c v hc hv;omega)⟩
end
theorem Jz(off:Nat)(l:List Value)(cs:Array Value)(h:off+l.length<=cs.size) :
  (l.toArray.zipIdx.foldl (λcs (c,j)=>cs.setIfInBounds (off+j) c) cs).toList=af cs.toList off l:=by
 have key:∀(l:List Value) (s:Nat) (cs:Array Value),off+s+l.length<=cs.size->
   ((l.zipIdx s).foldl (λ(cs:Array Value) (x:Value×Nat)=>cs.setIfInBounds (off+x.2) x.1) cs).toList=af cs.toList (off+s) l:=by
  intro l
  induction l with
  |nil=>intro s cs h;simp;rw[jn _ _ _ (by simpa using h)];simp
  |cons v l ih=>
   intro s cs h
   simp only[List.length_cons]at h
   rw[List.zipIdx_cons,List.foldl_cons,ih (s+1) _ (by simp;omega)]
   simp only[Array.toList_setIfInBounds]
   apply List.ext_getElem?
   intro i
   rw[iS _ _ _ _ (by simp;omega),iS _ _ _ _ (by simp;omega)]
   simp only[List.length_cons]
   by_cases hi:i=off+s
   ·subst hi
    rw[if_neg (by omega),if_pos (by omega),List.getElem?_set_self (by simp;omega)]
    simp
   ·by_cases h2:off+s<=i/\i<off+s+(l.length+1)
    ·rw[if_pos (by omega),if_pos h2]
     have:i-(off+s)=(i-(off+(s+1)))+1:=by omega
     rw[this,List.getElem?_cons_succ]
    ·rw[if_neg (by omega),if_neg h2,List.getElem?_set,if_neg (by omega)]
 have:=key l 0 cs (by simpa using h)
 simp only[Nat.add_zero]at this
 rw[<-this,<-Array.foldl_toList]
 simp
end Ax
