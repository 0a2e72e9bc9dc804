/- Part of a proof. -/
import Derived.Calls
import Derived.Laws.Sem
import Derived.Laws.Entries
import Derived.ChangeKeysEq
import Derived.Laws.StructEq
import Derived.Laws.Pointers
import Derived.Great.FillDense

namespace Ax
open Go
inductive AV where
 |undef|gone
 |bool (b:Bool)|int (k:IntKind) (n:Int)|str (s:List UInt8)
 |fF|U|gn|jc|ke
 |agg (cs:List AV)|fm (vs:List AV)
 |dL (sz:Nat) (rows:List (List AV))
 |iO (sz:Nat) (rows:List (List AV))
 |raw (sz:Nat) (rows:List (List AV))
 |mK
 |mu (id cy:Nat)
 |ptr (id cy i k:Nat)
 |qd (sz:Nat) (rows:List (List AV)) (i k:Nat)
 |map (id:Nat)
 |fn (f:Nat) (first lK:List AV)
 deriving Inhabited
mutual
def AV.ax:AV->Bool
 |.mu _ _|.ptr _ _ _ _|.map _=>false|.agg cs|.fm cs=>AV.ai cs|.fn _ a b=>AV.ai a&&AV.ai b|_=>true
def AV.ai:List AV->Bool
 |[]=>true|v::r=>v.ax&&AV.ai r
end
mutual
def AV.view:AV->AV
 |.iO sz rows=>.dL sz rows|.raw _ _=>.gone|.agg cs=>.agg (AV.cq cs)|.fm cs=>.fm (AV.cq cs)|v=>v
def AV.cq:List AV->List AV
 |[]=>[]
 |v::r=>v.view::AV.cq r
end
mutual
def AV.fG:AV->AV->Bool
 |.undef,.undef|.gone,.gone|.fF,.fF|.U,.U|.gn,.gn|.jc,.jc|.ke,.ke|.mK,.mK=>true|.bool a,.bool b=>a==b|.int k a,.int l b=>k==l&&a==b|.str a,.str b=>a==b|.agg a,.agg b|.fm a,.fm b=>AV.qT a b|.dL s a,.dL t b|.iO s a,.iO t b|.raw s a,.raw t b=>s==t&&AV.qU a b|.mu i v,.mu j w=>i==j&&v==w|.ptr a b c d,.ptr a' b' c' d'=>a==a'&&b==b'&&c==c'&&d==d'|.qd s a i k,.qd t b j l=>s==t&&AV.qU a b&&i==j&&k==l|.map i,.map j=>i==j|.fn f a b,.fn g c d=>f==g&&AV.qT a c&&AV.qT b d|_,_=>false
def AV.qT:List AV->List AV->Bool
 |[],[]=>true|a::x,b::y=>a.fG b&&AV.qT x y|_,_=>false
def AV.qU:List (List AV)->List (List AV)->Bool
 |[],[]=>true|a::x,b::y=>AV.qT a b&&AV.qU x y|_,_=>false
end
def AV.cells:AV->List AV
 |.agg cs=>cs|v=>[v]
def AV.cx:AV->Bool
 |.agg _|.fm _|.undef=>false|_=>true
def AV.bq(cs:List AV):Bool:=cs.all AV.cx
def AV.dJ:AV->AV
 |.iO _ _=>.gone|.raw _ _=>.gone|v=>v
inductive fq where
 |none
 |val (v:AV)
 |fp (j k:Nat)
 deriving Inhabited
def fq.view:fq->fq
 |.val v=>.val v.view|e=>e
def fq.fG:fq->fq->Bool
 |.none,.none=>true|.val a,.val b=>a.fG b|.fp j k,.fp l m=>j==l&&k==m|_,_=>false
def fq.pE(j:Nat):fq->Bool
 |.fp j' _=>j' != j|_=>true
inductive dy where
 |rows (cy sz:Nat) (rows:List (List AV))
 |map (es:List (AV×AV))
 deriving Inhabited
abbrev aj:=List dy
abbrev bF:=List (List AV)
inductive Src where
 |tmp (t:Nat) (mv:Bool)
 |const (a:AV)
 deriving Inhabited
abbrev pX:=List (Nat×fq)
def di:pX->Nat->fq
 |[],_=>.none|(k,e)::r,t=>if k=t then e else di r t
def zf:pX->Nat->fq->pX
 |[],t,e=>[(t,e)]
 |(k,x)::r,t,e=>if t<k then (t,e)::(k,x)::r else if t=k then (t,e)::r else (k,x)::zf r t e
def Iv:pX->Nat->pX
 |[],_=>[]
 |(k,x)::r,t=>if k=t then Iv r t else (k,x)::Iv r t
def Kv(env:pX):Src->fq
 |.tmp t true=>di env t|.tmp t false=>(di env t).view|.const a=>.val a
def oA:pX->Src->pX
 |env,.tmp t true=>Iv env t|env,_=>env
structure St where
 env:pX
 bx:bF
 st:aj
 deriving Inhabited
inductive Mode where
 |pure|kg|zg
 deriving DecidableEq,Inhabited
inductive SK where
 |bool|int|str
 deriving DecidableEq,Inhabited
inductive LK where
 |str|sl|mp
 deriving DecidableEq,Inhabited
inductive EqK where
 |sc (k:SK)
 |ptr|sl|fn
 |flat (ks:List SK)
 deriving DecidableEq,Inhabited
inductive eC where
 |move
 |pick
 |rU (op:BinOp)
 |qj (k:EqK) (neg:Bool)
 |Mg (neg:Bool)
 |un (op:UnOp)
 |conv (k:IntKind)
 |WW
 |len (k:LK)
 |Kw (mx:Bool)
 |nilCheck
 |extract (i:Nat)
 |field (off n:Nat) (agg:Bool)
 |build (zero:List AV) (parts:List (Nat×Nat))
 |lit (sz n:Nat) (zero:List AV) (parts:List Nat)
 |X8 (sz n:Nat) (zero:List AV) (parts:List Nat)
 |fieldAddr (off:Nat)
 |indexAddr (sz:Nat)
 |index
 |slice (wT lo hi mx:Bool) (sz:Nat)
 |CU (sz:Nat)
 |load (agg:Bool) (n:Nat) (take:Bool)
 |fD (j:Nat) (agg:Bool) (n:Nat) (take:Bool)
 |store (n:Nat)
 |jH (j n:Nat)
 |alloc (zero:List AV)
 |bT (j:Nat) (zero:List AV)
 |box (n:Nat)
 |qV (j n:Nat)
 |append (sz bytes:Nat)
 |jx (sz bytes:Nat)
 |sF (sz bytes:Nat) (zero:List AV) (mt:Bool)
 |GJ (sz bytes:Nat) (zero:List AV)
 |Ct (sz bytes:Nat) (zero:List AV)
 |X9
 |makeMap
 |mapUpdate (kk:SK)
 |lookup (kk:SK) (zero:AV) (ok:Bool)
 |makeFunc (f agN:Nat)
 |call (f:Nat)
 |qW
 |copy (sz:Nat)
 deriving Inhabited
structure aK where
 dst:Option Nat
 op:eC
 args:List Src
 guard:Option (Nat×Bool)
 deriving Inhabited
inductive bw where
 |skip
 |region (dG:List aK) (draw:Option (List (Nat×Nat))) (dj:List Nat)
 |seq (a b:bw)
 |cond (c:Src) (alC:List Nat) (thn:bw) (alD:List Nat) (PK:bw)
 |block (id:Nat) (body:bw)
 |loop (body:bw)
 |exit (id:Nat)
 |ret
 |TM (t:Nat)
 |E8 (j k:Nat)
 |u6 (t off:Nat)
 deriving Inhabited
inductive iE where
 |tmp (t:Nat) (mv:Bool)
 |box (t j n:Nat) (agg:Bool)
 |cell (t:Nat) (n:Nat) (agg:Bool)
 deriving Inhabited
structure aH where
 eM:Nat
 mode:Mode
 aF:Nat
 aP:Nat
 dj:List Nat
 results:List iE
 body:bw
 deriving Inhabited
inductive Ex where
 |normal
 |exit (id:Nat)
 |ret (v:AV)
 deriving Inhabited
structure lE where
 call:Nat->Nat->Nat->List AV->aj->Option (AV×aj)
 loop:Nat->Nat->List iE->bw->St->Option (Ex×St)
def cR:Nat:=140737488355328
def AG:SK->AV->AV->Option Bool
 |.bool,.bool a,.bool b=>some (a==b)|.int,.int k a,.int l b=>if k=l then some (a==b) else none
 |.str,.str a,.str b=>some (a==b)|_,_,_=>none
def AH:List SK->List AV->List AV->Option Bool
 |[],[],[]=>some true|k::ks,a::as,b::bs=>match AG k a b,AH ks as bs with
  |some p,some q=>some (p&&q)|_,_=>none
 |_,_,_=>none
def Cu:EqK->AV->AV->Option Bool
 |.sc k,a,b=>AG k a b|.flat ks,.agg a,.agg b=>AH ks a b|.ptr,.fF,.fF=>some true|.ptr,.fF,.ptr _ _ _ _|.ptr,.fF,.qd _ _ _ _|.ptr,.ptr _ _ _ _,.fF|.ptr,.qd _ _ _ _,.fF=>some false|.fn,.jc,.jc=>some true|.fn,.jc,.fn _ _ _|.fn,.fn _ _ _,.jc=>some false|.sl,.U,.U=>some true|.sl,.U,.dL _ _|.sl,.U,.iO _ _|.sl,.U,.mK|.sl,.dL _ _,.U|.sl,.iO _ _,.U|.sl,.mK,.U=>some false|_,_,_=>none
def lM(op:BinOp)(k:IntKind)(a b:Int):Option AV:=
 match op with
 |.add=>some (.int k (k.wrap (a+b)))|.sub=>some (.int k (k.wrap (a-b)))|.mul=>some (.int k (k.wrap (a*b)))|.quo=>if b=0 then none else some (.int k (k.wrap (a.tdiv b)))
 |.rem=>if b=0 then none else some (.int k (a.tmod b))
 |.and=>some (.int k (k.wrap ((BitVec.ofInt k.bits a &&& BitVec.ofInt k.bits b).toNat)))|.eql=>some (.bool (a==b))|.neq=>some (.bool (a != b))|.lss=>some (.bool (decide (a<b)))|.leq=>some (.bool (decide (a<=b)))|.gtr=>some (.bool (decide (a > b)))|.geq=>some (.bool (decide (a ≥ b)))|_=>none
def B7(op:BinOp):AV->AV->Option AV
 |.int k a,.int l b=>if k=l then lM op k a b else none
 |.str a,.str b=>
  match op with
  |.add=>if a.length+b.length<=4611686018427387904 then some (.str (a++b)) else none
  |.eql=>some (.bool (a==b))|.neq=>some (.bool (!(a==b)))|_=>none
 |_,_=>none
def Ya(op:UnOp):AV->Option AV
 |.int k a=>match op with|.neg=>some (.int k (k.wrap (0-a)))|_=>none
 |.bool b=>match op with|.not=>some (.bool (!b))|_=>none
 |_=>none
def fJ(st:aj):AV->Option (List (List AV))
 |.U|.mK=>some []|.dL _ rows|.iO _ rows=>some rows|.mu id cy=>match st[id]? with
  |some (.rows v _ rows)=>if v=cy then some rows else none
  |_=>none
 |_=>none
def nu(s:List UInt8):List (List AV):=s.map λb=>[.int .u8 b.toNat]
def dY(st:aj):AV->Option (List (List AV))
 |.str s=>some (nu s)|.mu id cy=>match fJ st (.mu id cy) with|some rows=>some (rows.map AV.cq)|none=>none
 |v=>fJ st v
def bN(sz:Nat)(rows:List (List AV)):Bool:=rows.all λr=>r.length==sz
def ov(st:aj):LK->AV->Option Nat
 |.str,.str s=>some s.length|.mp,.gn=>some 0|.mp,.map id=>match st[id]? with|some (.map es)=>some es.length|_=>none
 |.sl,v=>match fJ st v with|some rows=>some rows.length|none=>none
 |_,_=>none
def cut(cs:List AV)(k n:Nat):Option (List AV):=if k+n<=cs.length then some ((cs.drop k).take n) else none
def dM(st:aj):AV->Nat->Option (List AV)
 |.ptr id cy i k,n=>match st[id]? with
  |some (.rows v _ rows)=>if v=cy then match rows[i]? with|some r=>cut r k n|none=>none else none
  |_=>none
 |.qd _ rows i k,n=>match rows[i]? with|some r=>cut r k n|none=>none
 |_,_=>none
def ag{α:Type}:List α->Nat->List α->List α
 |cs,0,[]=>cs|_::cs,0,v::vs=>v::ag cs 0 vs|c::cs,k+1,vs=>c::ag cs k vs|[],_,_=>[]
def aY(wl af id:Nat)(cells:List AV):Bool:=decide (wl<=id)&&(decide (af<=id)||AV.ai cells)
def cV(wl af:Nat)(st:aj):AV->List AV->Option aj
 |.ptr id cy i k,cells=>match st[id]? with
  |some (.rows v sz rows)=>
   if v=cy&&aY wl af id cells then
    match rows[i]? with
    |some r=>if k+cells.length<=r.length then some (st.set id (.rows v sz (rows.set i (ag r k cells)))) else none
    |none=>none
   else none
  |_=>none
 |_,_=>none
def bP(agg:Bool)(cells:List AV):Option AV:=
 if agg then some (.agg cells) else match cells with | [v]=>some v|_=>none
def iV:List AV->List (Nat×Nat)->List AV->Option (List AV)
 |cs,[],[]=>some cs|cs,(off,n)::ps,v::vs=>
  if v.cells.length=n&&off+n<=cs.length then iV (ag cs off v.cells) ps vs else none
 |_,_,_=>none
def gv(sz:Nat):List (List AV)->List Nat->List AV->Option (List (List AV))
 |rows,[],[]=>some rows|rows,i::ps,v::vs=>if v.cells.length=sz&&i<rows.length then gv sz (rows.set i v.cells) ps vs else none
 |_,_,_=>none
def sd(kk:SK)(k:AV):List (AV×AV)->Option (Option AV)
 |[]=>some none|(a,v)::r=>match AG kk k a with|some true=>some (some v)|some false=>sd kk k r|none=>none
def E9(kk:SK)(k v:AV):List (AV×AV)->Option (List (AV×AV))
 |[]=>some [(k,v)]|(a,u)::r=>match AG kk k a with
  |some true=>some ((k,v)::r)|some false=>match E9 kk k v r with|some r'=>some ((a,u)::r')|none=>none
  |none=>none
def Fy:SK->AV->Bool
 |.int,.int _ _|.str,.str _|.bool,.bool _=>true|_,_=>false
def jt:List fq->Option (List AV)
 |[]=>some []|.val v::r=>match jt r with|some vs=>some (v::vs)|none=>none
 |_::_=>none
def Cv:List (List AV)->Option (List UInt8)
 |[]=>some []|[.int .u8 n]::r=>if 0<=n/\n<256 then match Cv r with|some l=>some (UInt8.ofNat n.toNat::l)|none=>none else none
 |_=>none
def se(bO:Bool)(Yb:Int)(l:List fq):Option (Int×List fq):=
 if bO then match l with|.val (.int .i64 n)::r=>some (n,r)|_=>none else some (Yb,l)
def ko(wT:Bool)(sz:Nat)(x:AV)(lo hi:Int)(mx:Option Int):Option AV:=
 match wT,x with
 |true,.str s=>if mx.isNone&&decide (0<=lo)&&decide (lo<=hi)&&decide (hi<=s.length) then some (.str ((s.take hi.toNat).drop lo.toNat)) else none
 |false,.U=>if lo=0&&hi=0&&(match mx with|some m=>m==0|none=>true) then some .U else none
 |false,.mK=>if lo=0&&hi=0&&(match mx with|some m=>m==0|none=>true) then some .mK else none
 |false,.dL s rows|false,.iO s rows=>
  match mx with
  |none=>if s=sz&&decide (0<=lo)&&decide (lo<=hi)&&decide (hi<=rows.length) then some (.dL sz ((rows.take hi.toNat).drop lo.toNat)) else none
  |some m=>if lo=0&&hi=0&&m=0 then some .mK else none
 |_,_=>none
def vA(wl af sz bytes:Nat)(s:AV)(new:List (List AV))(st:aj)(bx:bF):Option (fq×aj×bF):=
 if bN sz new then match s with
  |.U=>if new.isEmpty then some (.val .U,st,bx) else if new.length*bytes<=cR then some (.val (.mu st.length 0),st++[.rows 0 sz new],bx) else none
  |.mK=>if new.length*bytes<=cR then some (.val (.mu st.length 0),st++[.rows 0 sz new],bx) else none
  |.mu id cy=>match st[id]? with
   |some (.rows v lF kJ)=>
    if v=cy&&lF=sz&&decide ((kJ.length+new.length)*bytes<=cR)&&decide (wl<=id)&&(decide (af<=id)||new.all AV.ai) then
     some (.val (.mu id (v+1)),st.set id (.rows (v+1) sz (kJ++new)),bx) else none
   |_=>none
  |_=>none else none
def aV(wl af:Nat)(op:eC)(vals:List fq)(st:aj)(bx:bF):Option (fq×aj×bF):=
 match op with
 |.move=>match vals with
  |[e]=>some (e,st,bx)|_=>none
 |.pick=>match vals with
  |[.val (.bool b),x,y]=>some (if b then x else y,st,bx)|_=>none
 |.rU op=>match vals with
  |[.val x,.val y]=>match B7 op x y with|some v=>some (.val v,st,bx)|none=>none
  |_=>none
 |.qj k neg=>match vals with
  |[.val x,.val y]=>match Cu k x y with|some b=>some (.val (.bool (if neg then !b else b)),st,bx)|none=>none
  |_=>none
 |.Mg neg=>match vals with
  |[.val (.mu id cy),.val .U]=>match st[id]? with
   |some (.rows v _ _)=>if v=cy then some (.val (.bool neg),st,bx) else none
   |_=>none
  |_=>none
 |.un op=>match vals with
  |[.val x]=>match Ya op x with|some v=>some (.val v,st,bx)|none=>none
  |_=>none
 |.conv k=>match vals with
  |[.val (.int _ n)]=>some (.val (.int k (k.wrap n)),st,bx)|_=>none
 |.WW=>match vals with
  |[.val x]=>match fJ st x with
   |some rows=>match Cv rows with|some s=>some (.val (.str s),st,bx)|none=>none
   |none=>none
  |_=>none
 |.len k=>match vals with
  |[.val x]=>match ov st k x with|some n=>some (.val (.int .i64 n),st,bx)|none=>none
  |_=>none
 |.Kw mx=>match vals with
  |[.val (.int k a),.val (.int l b)]=>
   if k=l then some (.val (.int k (if mx then (if b > a then b else a) else (if b<a then b else a))),st,bx) else none
  |_=>none
 |.nilCheck=>match vals with
  |[.fp j k]=>some (.fp j k,st,bx)|[.val x]=>match x with
   |.ptr .. | .qd ..=>some (.val x,st,bx)|_=>none
  |_=>none
 |.extract i=>match vals with
  |[.val (.fm vs)]=>match vs[i]? with|some v=>some (.val v,st,bx)|none=>none
  |_=>none
 |.field off n agg=>match vals with
  |[.val (.agg cs)]=>match cut cs off n with
   |some r=>match bP agg r with|some v=>some (.val v,st,bx)|none=>none
   |none=>none
  |_=>none
 |.build zero parts=>match vals with
  |l=>match jt l with
   |some vs=>match iV zero parts vs with|some cs=>some (.val (.agg cs),st,bx)|none=>none
   |none=>none
 |.lit sz n zero parts=>match vals with
  |l=>match jt l with
   |some vs=>match gv sz (List.replicate n zero) parts (AV.cq vs) with
    |some rows=>if rows.all AV.ai&&rows.all AV.bq then some (.val (if n=0 then .mK else .dL sz rows),st,bx) else none
    |none=>none
   |none=>none
 |.X8 sz n zero parts=>match vals with
  |l=>match jt l with
   |some vs=>match gv sz (List.replicate n zero) parts vs with
    |some rows=>if rows.all AV.bq&&decide (0<n) then some (.val (.mu st.length 0),st++[.rows 0 sz rows],bx) else none
    |none=>none
   |none=>none
 |.fieldAddr off=>match vals with
  |[.fp j k]=>some (.fp j (k+off),st,bx)|[.val (.ptr id cy i k)]=>some (.val (.ptr id cy i (k+off)),st,bx)|[.val (.qd sz rows i k)]=>some (.val (.qd sz rows i (k+off)),st,bx)|_=>none
 |.indexAddr sz=>match vals with
  |[.val x,.val (.int .i64 i)]=>match x with
   |.dL s rows|.iO s rows=>if s=sz&&decide (0<=i)&&decide (i<rows.length) then some (.val (.qd sz rows i.toNat 0),st,bx) else none
   |.mu id cy=>match st[id]? with
    |some (.rows v s rows)=>if v=cy&&s=sz&&decide (0<=i)&&decide (i<rows.length) then some (.val (.ptr id cy i.toNat 0),st,bx) else none
    |_=>none
   |_=>none
  |_=>none
 |.index=>match vals with
  |[.val (.str s),.val (.int .i64 i)]=>
   if 0<=i then match s[i.toNat]? with|some b=>some (.val (.int .u8 b.toNat),st,bx)|none=>none else none
  |_=>none
 |.slice wT lo hi mx sz=>match vals with
  |.val x::l=>match ov st (if wT then .str else .sl) x with
   |none=>none|some n=>match se lo 0 l with
    |none=>none|some (a,l)=>match se hi n l with
     |none=>none|some (b,l)=>match mx,l with
      |false,[]=>match ko wT sz x a b none with|some v=>some (.val v,st,bx)|none=>none
      |true,[.val (.int .i64 m)]=>match ko wT sz x a b (some m) with|some v=>some (.val v,st,bx)|none=>none
      |_,_=>none
  |_=>none
 |.CU sz=>match vals with
  |[.val (.mu id cy),.val (.int .i64 hi)]=>match st[id]? with
   |some (.rows v s rows)=>if v=cy&&s=sz&&decide (0<=hi)&&decide (hi<=rows.length)&&decide (wl<=id) then
     some (.val (.mu id (v+1)),st.set id (.rows (v+1) s (rows.take hi.toNat)),bx) else none
   |_=>none
  |_=>none
 |.load agg n take=>match vals with
  |[.val p]=>match dM st p n with
   |some cs=>
    if take then
     match cV wl af st p (cs.map AV.dJ),bP agg cs with
     |some bV,some v=>some (.val v,bV,bx)|_,_=>none
    else match bP agg (AV.cq cs) with|some v=>some (.val v,st,bx)|none=>none
   |none=>none
  |_=>none
 |.fD j agg n take=>match vals with
  |[.fp j' k]=>if j=j' then match bx[j]? with
    |some row=>match cut row k n with
     |some cs=>
      if take then match bP agg cs with|some v=>some (.val v,st,bx.set j (ag row k (cs.map AV.dJ)))|none=>none
      else match bP agg (AV.cq cs) with|some v=>some (.val v,st,bx)|none=>none
     |none=>none
    |none=>none
   else none
  |_=>none
 |.store n=>match vals with
  |[.val p,.val v]=>if v.cells.length=n&&AV.bq v.cells then
    match cV wl af st p v.cells with|some bV=>some (.none,bV,bx)|none=>none else none
  |_=>none
 |.jH j n=>match vals with
  |[.fp j' k,.val v]=>if j=j'&&v.cells.length=n&&AV.bq v.cells then match bx[j]? with
    |some row=>if k+n<=row.length then some (.none,st,bx.set j (ag row k v.cells)) else none
    |none=>none
   else none
  |_=>none
 |.alloc zero=>match vals with
  |[]=>some (.val (.ptr st.length 0 0 0),st++[.rows 0 zero.length [zero]],bx)|_=>none
 |.bT j zero=>match vals with
  |[]=>if j<bx.length then some (.fp j 0,st,bx.set j zero) else none
  |_=>none
 |.box n=>match vals with
  |[.val v]=>if v.cells.length=n&&AV.bq v.cells then some (.val (.ptr st.length 0 0 0),st++[.rows 0 n [v.cells]],bx) else none
  |_=>none
 |.qV j n=>match vals with
  |[.val v]=>if j<bx.length&&v.cells.length=n&&AV.bq v.cells then some (.fp j 0,st,bx.set j v.cells) else none
  |_=>none
 |.append sz bytes=>match vals with
  |[.val s,.val x]=>match dY [] x with
   |none=>none|some new=>if bN sz new then match s with
    |.U|.mK=>if new.isEmpty then some (.val s,st,bx) else if new.length*bytes<=cR then some (.val (.iO sz new),st,bx) else none
    |.iO lF kJ=>if lF=sz&&decide ((kJ.length+new.length)*bytes<=cR) then some (.val (.iO sz (kJ++new)),st,bx) else none
    |_=>none else none
  |_=>none
 |.jx sz bytes=>match vals with
  |[.val s,.val x]=>match dY st x with
   |none=>none|some new=>vA wl af sz bytes s new st bx
  |_=>none
 |.sF sz bytes zero mt=>match vals with
  |[.val (.int .i64 n),.val (.int .i64 c)]=>
   if 0<=n/\n<=c/\c*bytes<=cR/\zero.length=sz then
    if mt then some (.val (.mu st.length 0),st++[.rows 0 sz (List.replicate n.toNat zero)],bx)
    else if AV.ai zero then some (.val (.iO sz (List.replicate n.toNat zero)),st,bx) else none
   else none
  |_=>none
 |.GJ sz bytes zero=>match vals with
  |[.val (.int .i64 n),.val (.int .i64 c)]=>
   if 0<=n/\n<=c/\c*bytes<=cR/\zero.length=sz/\AV.ai zero=true then some (.val (.raw sz (List.replicate n.toNat zero)),st,bx) else none
  |_=>none
 |.Ct sz bytes zero=>match vals with
  |[.val s,.val (.int .i64 n)]=>
   if 0<=n/\n*bytes<=cR/\zero.length=sz/\AV.ai zero=true then vA wl af sz bytes s (List.replicate n.toNat zero) st bx else none
  |_=>none
 |.X9=>match vals with
  |[.val .U]=>some (.val (.int .i64 0),st,bx)|_=>none
 |.makeMap=>match vals with
  |[]=>some (.val (.map st.length),st++[.map []],bx)|_=>none
 |.mapUpdate kk=>match vals with
  |[.val (.map id),.val k,.val v]=>match st[id]? with
   |some (.map es)=>if Fy kk k&&aY wl af id [v] then match E9 kk k v.view es with|some vC=>some (.none,st.set id (.map vC),bx)|none=>none else none
   |_=>none
  |_=>none
 |.lookup kk zero ok=>match vals with
  |[.val m,.val k]=>
   match (match m with|.gn=>some []|.map id=>(match st[id]? with|some (.map es)=>some es|_=>none)|_=>none) with
   |none=>none|some es=>if Fy kk k then match sd kk k es with
    |none=>none|some r=>let v:=r.getD zero
     some (.val (if ok then .fm [v,.bool r.isSome] else v),st,bx)
    else none
  |_=>none
 |.makeFunc f n=>match vals with
  |l=>match jt l with
   |some vs=>some (.val (.fn f (AV.cq (vs.take n)) (AV.cq (vs.drop n))),st,bx)|none=>none
 |.copy sz=>match vals with
  |[.val (.mu id cy),.val x]=>match st[id]?,dY st x with
   |some (.rows v lF kJ),some new=>
    if v=cy&&lF=sz&&bN sz new&&decide (new.length<=kJ.length)&&decide (wl<=id)&&(decide (af<=id)||new.all AV.ai) then
     some (.val (.int .i64 new.length),st.set id (.rows v sz (new++kJ.drop new.length)),bx) else none
   |_,_=>none
  |_=>none
 |.call _|.qW=>none
def mL:eC->List fq->Option (Nat×List AV)
 |.call f,l=>match jt l with
  |some vs=>some (f,vs)|none=>none
 |.qW,.val (.fn f first lK)::l=>match jt l with
  |some vs=>some (f,first++vs++lK)|none=>none
 |_,_=>none
def gm(O:lE)(wl af:Nat)(x:Option (Nat×List AV))(st:aj)(bx:bF):Option (fq×aj×bF):=
 match x with
 |some (f,vs)=>match O.call wl af f vs st with|some (v,bV)=>some (.val v,bV,bx)|none=>none
 |none=>none
def tT(O:lE)(wl af:Nat)(op:eC)(vals:List fq)(st:aj)(bx:bF):Option (fq×aj×bF):=
 match op with
 |.call f=>gm O wl af (mL (.call f) vals) st bx|.qW=>gm O wl af (mL .qW vals) st bx|op=>aV wl af op vals st bx
def eC.bg:eC->Option Nat
 |.bT j _|.qV j _=>some j|_=>none
def zh(env:pX)(dst:Option Nat)(e:fq):pX:=
 match dst with
 |some d=>zf env d e|none=>env
def o5(env:pX):Option (Nat×Bool)->Option Bool
 |none=>some true|some (t,b)=>match di env t with
  |.val (.bool c)=>some (c==b)|.val .undef=>some false|_=>none
def mc(j:Nat)(env:pX):Bool:=env.all λx=>x.2.pE j
def jd(O:lE)(wl af:Nat)(o:aK)(s:St):Option St:=
 match o5 s.env o.guard with
 |none=>none|some false=>some { s with env:=zh s.env o.dst (.val .undef) }|some true=>
  match tT O wl af o.op (o.args.map (Kv s.env)) s.st s.bx with
  |none=>none|some (e,bV,gC)=>
   match o.op.bg with
   |none=>some ⟨zh (o.args.foldl oA s.env) o.dst e,gC,bV⟩|some j=>if mc j (zh (o.args.foldl oA s.env) o.dst .none) then some ⟨zh (o.args.foldl oA s.env) o.dst e,gC,bV⟩ else none
def gw(O:lE)(wl af:Nat):List aK->St->Option St
 |[],s=>some s|o::l,s=>match jd O wl af o s with|some s'=>gw O wl af l s'|none=>none
def dS(O:lE)(wl af:Nat):List aK->St->Option (St×List St)
 |[],s=>some (s,[s])|o::l,s=>match jd O wl af o s with
  |some s'=>match dS O wl af l s' with|some (e,l')=>some (e,s::l')|none=>none
  |none=>none
def cW(O:lE)(wl af:Nat)(o:aK)(s t:St)(st:aj):Bool:=
 match o5 s.env o.guard with
 |none=>false|some false=>true|some true=>
  match tT O wl af o.op (o.args.map (Kv s.env)) st s.bx with
  |some (e,_,_)=>(match o.dst with|some d=>(di t.env d).fG e|none=>false)
  |none=>false
def Yc(wl af:Nat)(dG:List aK)(ga:List St)(p q:Nat):Option aj:=
 match dG[p]?,ga[p]?,dG[q]?,ga[q]? with
 |some a,some s,some b,some t=>
  match a.op,a.args.map (Kv s.env),b.op,b.args.map (Kv t.env) with
  |.store _,[.val (.ptr i _ _ _),.val _],.store m,[.val (.ptr j v x y),.val u]=>
   if i=j then none else match aV wl af (.store m) [.val (.ptr j v x y),.val u] s.st [] with
   |some (_,X,_)=>some X|none=>none
  |_,_,_,_=>none
 |_,_,_,_=>none
def gO(O:lE)(wl af:Nat)(dG:List aK)(ga:List St):Nat×Nat->Bool
 |(q,w)=>if q<100000 then match dG[q]?,ga[q]?,ga[q+1]?,ga[w]?,ga[w+1]? with
   |some o,some s,some t,some a,some b=>cW O wl af o s t a.st&&cW O wl af o s t b.st|_,_,_,_,_=>false
  else match Yc wl af dG ga (q % 100000) w with
   |none=>false|some X=>if q<200000 then true else match dG[q / 100000-2]?,ga[q / 100000-2]?,ga[q / 100000-2+1]? with
    |some o,some s,some t=>cW O wl af o s t X|_,_,_=>false
def bG(env:pX)(o:aK):Bool:=match o.op.bg with|some j=>mc j env|none=>true
def iB(O:lE)(wl af:Nat)(dG:List aK)(cn:List (Nat×Nat))(s:St):Option St:=
 match dS O wl af dG s with
 |none=>none|some (e,ga)=>
  if cn.all (gO O wl af dG ga)&&dG.all (bG s.env) then some e else none
def jI:List Nat->pX->pX
 |[],env=>env|t::l,env=>jI l (Iv env t)
def vD(env:pX)(c:Src):Option Bool:=
 match Kv env c with
 |.val (.bool b)=>some b|_=>none
def me(wl:Nat)(v:AV)(st:aj):Option (AV×aj):=
 match v with
 |.mu id cy=>match st[id]? with
  |some (.rows v sz rows)=>if v=cy&&rows.all AV.ai && !rows.isEmpty&&decide (wl<=id) then some (.dL sz (rows.map AV.cq),st.set id (.rows (v+1) sz [])) else none
  |_=>none
 |v=>if v.ax&&v.cx then some (v.view,st) else none
def kq(wl:Nat):List AV->aj->Option (List AV×aj)
 |[],st=>some ([],st)|v::l,st=>match me wl v st with
  |some (v',bV)=>match kq wl l bV with
   |some (l',NI)=>some (v'::l',NI)|none=>none
  |none=>none
def kN(wl:Nat):List (List AV)->aj->Option (List (List AV)×aj)
 |[],st=>some ([],st)|r::l,st=>match kq wl r st with
  |some (r',bV)=>match kN wl l bV with
   |some (l',NI)=>some (r'::l',NI)|none=>none
  |none=>none
def jm(wl:Nat)(v:AV)(st:aj):Option (AV×aj):=
 match v with
 |.mu id cy=>match st[id]? with
  |some (.rows v sz rows)=>if v=cy && !rows.isEmpty&&decide (wl<=id) then
    match kN wl rows (st.set id (.rows (v+1) sz [])) with
    |some (eS,bV)=>some (.dL sz eS,bV)|none=>none
   else none
  |_=>none
 |.U=>some (.U,st)|_=>none
def o6(wl:Nat)(v:AV)(st:aj):Option (AV×aj):=
 match v with
 |.raw sz rows=>some (.mu st.length 0,st++[.rows 0 sz rows])|v=>jm wl v st
def CV(s:St):iE->Option AV
 |.tmp t mv=>match Kv s.env (.tmp t mv) with|.val v=>some v|_=>none
 |.box t j n agg=>match di s.env t,s.bx[j]? with|.fp i 0,some row=>if i=j&&row.length=n then bP agg row else none|_,_=>none
 |.cell t n agg=>match di s.env t with
  |.val p=>match dM s.st p n with|some cs=>bP agg (AV.cq cs)|none=>none
  |_=>none
def yA(s:St):List iE->Option (List AV)
 |[]=>some []|r::l=>match CV s r,yA s l with
  |some v,some vs=>some (v::vs)|_,_=>none
def xQ(s:St)(l:List iE):Option AV:=
 match yA s l with
 |some [v]=>some v|some vs=>some (.fm vs)|none=>none
def iW(O:lE)(wl af:Nat)(rs:List iE):bw->St->Option (Ex×St)
 |.skip,s=>some (.normal,s)|.region dG draw dj,s=>
  match (match draw with|none=>gw O wl af dG s|some cn=>iB O wl af dG cn s) with
  |some s'=>some (.normal,{ s' with env:=jI dj s'.env })|none=>none
 |.seq a b,s=>match iW O wl af rs a s with
  |some (.normal,s')=>iW O wl af rs b s'|r=>r
 |.cond c ca a cb b,s=>match vD s.env c with
  |some true=>iW O wl af rs a { s with env:=jI ca (oA s.env c) }|some false=>iW O wl af rs b { s with env:=jI cb (oA s.env c) }|none=>none
 |.block id c,s=>match iW O wl af rs c s with
  |some (.exit id',s')=>if id'=id then some (.normal,s') else some (.exit id',s')
  |r=>r
 |.loop c,s=>O.loop wl af rs c s|.exit id,s=>some (.exit id,s)|.ret,s=>match xQ s rs with|some v=>some (.ret v,⟨[],[],s.st⟩)|none=>none
 |.TM t,s=>match di s.env t with
  |.val v=>match jm wl v s.st with
   |some (v',bV)=>some (.normal,⟨zf s.env t (.val v'),s.bx,bV⟩)|none=>none
  |_=>none
 |.E8 j k,s=>match s.bx[j]? with
  |some row=>match row[k]? with
   |some v=>match jm wl v s.st with
    |some (v',bV)=>some (.normal,⟨s.env,s.bx.set j (ag row k [v']),bV⟩)|none=>none
   |none=>none
  |none=>none
 |.u6 t off,s=>match di s.env t with
  |.val (.ptr id cy i k)=>match dM s.st (.ptr id cy i (k+off)) 1 with
   |some [v]=>match o6 wl v s.st with
    |some (v',bV)=>match cV wl af bV (.ptr id cy i (k+off)) [v'] with
     |some kO=>some (.normal,⟨s.env,s.bx,kO⟩)|none=>none
    |none=>none
   |_=>none
  |_=>none
def Fz:Nat->List AV->pX
 |_,[]=>[]
 |k,v::r=>(k,.val v)::Fz (k+1) r
def Mode.u7:Mode->Nat->Nat->Nat
 |.pure,n,_=>n|_,_,wl=>wl
def Mode.oB:Mode->Nat->Nat->Nat
 |.zg,_,af=>af|_,n,_=>n
def Mode.lG(m:Mode)(st:aj)(v:AV)(bV:aj):Option (AV×aj):=
 match m with
 |.pure=>if v.ax then some (v,st) else none
 |.kg=>if v.ax then some (v,bV.take st.length) else none
 |.zg=>some (v,bV)
def Fa(rs:List iE):Ex->St->Option AV
 |.exit _,_=>none|.ret v,_=>some v|.normal,s=>xQ s rs
def pF(sf:aH)(args:List AV)(st:aj):St:=⟨jI sf.dj (Fz 0 args),List.replicate sf.aP [],st⟩
def eZ(O:lE)(wl af:Nat)(sf:aH)(args:List AV)(st:aj):Option (AV×aj):=
 if args.length=sf.aF then
  match iW O (sf.mode.u7 st.length wl) (sf.mode.oB st.length af) sf.results sf.body (pF sf args st) with
  |some (x,s)=>match Fa sf.results x s with
   |some v=>sf.mode.lG st v s.st|none=>none
  |none=>none
 else none
def zi(sf:aH)(args:List AV):Bool:=decide (sf.mode=.pure)&&AV.ai args
def fQ(O:lE)(wl af:Nat)(sf:aH)(args:List AV)(st:aj):Option (AV×aj):=
 if zi sf args then (eZ O 0 0 sf args []).map λr=>(r.1,st) else eZ O wl af sf args st
def qk(S:Nat->Option aH):Nat->lE
 |0=>⟨λ_ _ _ _ _=>none,λ_ _ _ _ _=>none⟩
 |n+1=>
  ⟨λwl af f args st=>match S f with
   |some sf=>fQ (qk S n) wl af sf args st|none=>none,
   λwl af rs c s=>match iW (qk S n) wl af rs c s with
   |some (.normal,s')=>(qk S n).loop wl af rs c s'|r=>r⟩
def PL(TZ GK:List (Option aH))(n:Nat):Option aH:=if n<100000 then (TZ[n]?).getD none else (GK[n-100000]?).getD none
end Ax
namespace Ax
open Go
structure lE.le (A B:lE):Prop where
 call:∀wl af f args st r,A.call wl af f args st=some r->B.call wl af f args st=some r
 loop:∀wl af rs c s r,A.loop wl af rs c s=some r->B.loop wl af rs c s=some r
theorem lE.le_refl(A:lE):A.le A:=⟨λ_ _ _ _ _ _ h=>h,λ_ _ _ _ _ _ h=>h⟩
theorem lE.le_trans{A B C:lE}(h:A.le B)(k:B.le C):A.le C:=
 ⟨λ_ _ _ _ _ _ x=>k.call _ _ _ _ _ _ (h.call _ _ _ _ _ _ x),λ_ _ _ _ _ _ x=>k.loop _ _ _ _ _ _ (h.loop _ _ _ _ _ _ x)⟩
structure Sup (o:Nat->lE)(L:lE):Prop where
 mono:∀n,(o n).le (o (n+1))
 call:∀wl af f args st r,L.call wl af f args st=some r->∃n,(o n).call wl af f args st=some r
 loop:∀wl af rs c s r,L.loop wl af rs c s=some r->∃n,(o n).loop wl af rs c s=some r
theorem Sup.le{o:Nat->lE}{L:lE}(h:Sup o L)(n k:Nat):(o n).le (o (n+k)):=by
 induction k with
 |zero=>exact lE.le_refl _|succ k ih=>exact lE.le_trans ih (h.mono (n+k))
theorem Iw(A B:lE)(wl af:Nat)(op:eC)(vals:List fq)(st:aj)(bx:bF)(h1:∀f,op≠.call f)(h2:op≠.qW) :
  tT A wl af op vals st bx=tT B wl af op vals st bx:=by
 cases op<;>first|rfl|exact absurd rfl (h1 _)|exact absurd rfl h2
theorem zj{A B:lE}(vE:A.le B){wl af:Nat}{x:Option (Nat×List AV)}{st:aj}{bx:bF}{r:fq×aj×bF}
  (h:gm A wl af x st bx=some r):gm B wl af x st bx=some r:=by
 unfold gm at h ⊢;split at h;rename_i f vs;cases hc:A.call wl af f vs st with
 |none=>simp[hc]at h|some x=>rw[hc]at h;rw[vE.call _ _ _ _ _ _ hc];exact h
 cases h
theorem Ix{A B:lE}(vE:A.le B){wl af:Nat}{op:eC}{vals:List fq}{st:aj}{bx:bF}{r:fq×aj×bF}
  (h:tT A wl af op vals st bx=some r):tT B wl af op vals st bx=some r:=by
 by_cases h1:∃f,op=.call f;obtain⟨f,rfl⟩:=h1;exact zj vE h;by_cases h2:op=.qW;subst h2;exact zj vE h;rw[<-Iw A B wl af op vals st bx (λf e=>h1 ⟨f,e⟩) h2];exact h
theorem sj{A B:lE}(vE:A.le B){wl af:Nat}{o:aK}{s r:St}(h:jd A wl af o s=some r):jd B wl af o s=some r:=by
 unfold jd at h ⊢;split at h;cases h;exact h;split at h;cases h;rename_i e bV gC ha;rw[Ix vE ha];exact h
theorem tW{A B:lE}(vE:A.le B){wl af:Nat}:∀{l:List aK}{s r:St},gw A wl af l s=some r->gw B wl af l s=some r
 |[],_,_,h=>h|o::l,s,r,h=>by
  unfold gw at h ⊢;split at h;rename_i s' hs;rw[sj vE hs];exact tW vE h;cases h
theorem qm{A B:lE}(vE:A.le B){wl af:Nat}:∀{l:List aK}{s:St} {r},dS A wl af l s=some r->dS B wl af l s=some r
 |[],_,_,h=>h|o::l,s,r,h=>by
  unfold dS at h ⊢;split at h;rename_i s' hs;rw[sj vE hs];split at h;rename_i e l' hr;simp only[qm vE hr];exact h;cases h;cases h
theorem lN{A B:lE}(vE:A.le B){wl af:Nat}{o:aK}{s t:St}{st:aj}(h:cW A wl af o s t st=true):cW B wl af o s t st=true:=by
 unfold cW at h ⊢;split at h;cases h
 rfl
 split at h;rename_i e _ _ ha;rw[Ix vE ha];exact h;cases h
theorem sq{A B:lE}(vE:A.le B){wl af:Nat}{dG:List aK}{ga:List St}{x:Nat×Nat}(h:gO A wl af dG ga x=true):gO B wl af dG ga x=true:=by
 obtain⟨q,w⟩:=x;unfold gO at h ⊢;by_cases h1:q<100000;simp only[h1,if_true]at h ⊢;split at h;simp only[Bool.and_eq_true]at h ⊢;exact⟨lN vE h.1,lN vE h.2⟩;cases h;simp only[h1,if_false]at h ⊢;split at h;cases h;by_cases h2:q<200000;simp only[h2,if_true];simp only[h2,if_false]at h ⊢;split at h;exact lN vE h;cases h
theorem Fe{A B:lE}(vE:A.le B){wl af:Nat}{dG:List aK}{cn:List (Nat×Nat)}{s r:St}(h:iB A wl af dG cn s=some r):iB B wl af dG cn s=some r:=by
 unfold iB at h ⊢;split at h;cases h;rename_i e ga hr;split at h;rename_i hc;cases h;rw[qm vE hr];simp only[Bool.and_eq_true,List.all_eq_true]at hc;have h1:cn.all (gO B wl af dG ga)=true:=by
  rw[List.all_eq_true];exact λx hx=>sq vE (hc.1 x hx)
 have h2:dG.all (bG s.env)=true:=by
  rw[List.all_eq_true];exact hc.2
 simp only[h1,h2,Bool.and_self,if_true];cases h
theorem lO{A B:lE}(vE:A.le B){wl af:Nat}{rs:List iE}:∀{c:bw}{s:St} {r},iW A wl af rs c s=some r->iW B wl af rs c s=some r
 |.skip,_,_,h=>h|.region dG draw dj,s,r,h=>by
  unfold iW at h ⊢;cases draw with
  |none=>
   simp only at h ⊢;split at h;rename_i s' hs;rw[tW vE hs];exact h;cases h
  |some cn=>
   simp only at h ⊢;split at h;rename_i s' hs;rw[Fe vE hs];exact h;cases h
 |.seq a b,s,r,h=>by
  unfold iW at h ⊢;cases ha:iW A wl af rs a s with
  |none=>rw[ha]at h;cases h|some x=>
   rw[ha]at h;rw[lO vE ha];obtain⟨e,s'⟩:=x;cases e with
   |normal=>exact lO vE h|exit id=>exact h|ret v=>exact h
 |.cond c ca a cb b,s,r,h=>by
  unfold iW at h ⊢;split at h;exact lO vE h;exact lO vE h;cases h
 |.block id c,s,r,h=>by
  unfold iW at h ⊢;cases ha:iW A wl af rs c s with
  |none=>rw[ha]at h;cases h|some x=>rw[ha]at h;rw[lO vE ha];exact h
 |.loop c,s,r,h=>vE.loop _ _ _ _ _ _ h|.exit id,s,r,h=>h|.ret,s,r,h=>h|.TM t,s,r,h=>h|.E8 j k,s,r,h=>h|.u6 t off,s,r,h=>h
theorem vF{A B:lE}(vE:A.le B){wl af:Nat}{sf:aH}{args:List AV}{st:aj} {r}(h:eZ A wl af sf args st=some r):eZ B wl af sf args st=some r:=by
 unfold eZ at h ⊢;split at h;rename_i hl;rw[if_pos hl];cases hs:iW A (sf.mode.u7 st.length wl) (sf.mode.oB st.length af) sf.results sf.body (pF sf args st) with
 |none=>rw[hs]at h;cases h|some x=>rw[hs]at h;rw[lO vE hs];exact h
 cases h
theorem xZ{A B:lE}(vE:A.le B){wl af:Nat}{sf:aH}{args:List AV}{st:aj} {r}(h:fQ A wl af sf args st=some r):fQ B wl af sf args st=some r:=by
 unfold fQ at h ⊢;split at h;rename_i Kj;rw[if_pos Kj];cases hc:eZ A 0 0 sf args [] with
 |none=>rw[hc]at h;cases h|some x=>rw[hc]at h;rw[vF vE hc];exact h
 rename_i Kj;rw[if_neg Kj];exact vF vE h
theorem CW(S:Nat->Option aH):∀n,(qk S n).le (qk S (n+1))
 |0=>⟨λ_ _ _ _ _ _ h=>(nomatch h),λ_ _ _ _ _ _ h=>(nomatch h)⟩
 |n+1=>by
  have ih:=CW S n;constructor;intro wl af f args st r h;show (match S f with|some sf=>fQ (qk S (n+1)) wl af sf args st|none=>none)=some r;change (match S f with|some sf=>fQ (qk S n) wl af sf args st|none=>none)=some r at h;cases hf:S f with
  |none=>rw[hf]at h;cases h|some sf=>rw[hf]at h;exact xZ ih h
  intro wl af rs c s r h;show (match iW (qk S (n+1)) wl af rs c s with|some (.normal,s')=>(qk S (n+1)).loop wl af rs c s'|r=>r)=some r;change (match iW (qk S n) wl af rs c s with|some (.normal,s')=>(qk S n).loop wl af rs c s'|r=>r)=some r at h;cases hs:iW (qk S n) wl af rs c s with
  |none=>rw[hs]at h;cases h|some x=>
   rw[hs]at h;rw[lO ih hs];obtain⟨e,s'⟩:=x;cases e with
   |normal=>exact ih.loop _ _ _ _ _ _ h|exit id=>exact h|ret v=>exact h
open Classical in
noncomputable def bh (S:Nat->Option aH):lE:=
 ⟨λwl af f args st=>if h:∃n r,(qk S n).call wl af f args st=some r then some h.choose_spec.choose else none,
  λwl af rs c s=>if h:∃n r,(qk S n).loop wl af rs c s=some r then some h.choose_spec.choose else none⟩
theorem AK(S:Nat->Option aH)(n k:Nat):(qk S n).le (qk S (n+k)):=by
 induction k with
 |zero=>exact lE.le_refl _|succ k ih=>exact lE.le_trans ih (CW S (n+k))
theorem tf(S:Nat->Option aH):Sup (qk S) (bh S) where
 mono:=CW S
 call:=λwl af f args st r h=>by
  unfold bh at h;simp only at h;split at h;rename_i hx;cases h;exact⟨_,hx.choose_spec.choose_spec⟩;cases h
 loop:=λwl af rs c s r h=>by
  unfold bh at h;simp only at h;split at h;rename_i hx;cases h;exact⟨_,hx.choose_spec.choose_spec⟩;cases h
theorem sw(S:Nat->Option aH)(n:Nat):(qk S n).le (bh S) where
 call:=λwl af f args st r h=>by
  have hx:∃n r,(qk S n).call wl af f args st=some r:=⟨n,r,h⟩;have:(bh S).call wl af f args st=some hx.choose_spec.choose:=by unfold bh;simp only;rw[dif_pos hx]
  have h2:=hx.choose_spec.choose_spec;have a:=(AK S n hx.choose).call _ _ _ _ _ _ h;have b:=(AK S hx.choose n).call _ _ _ _ _ _ h2;rw[Nat.add_comm]at b;exact this.trans (b.symm.trans a)
 loop:=λwl af rs c s r h=>by
  have hx:∃n r,(qk S n).loop wl af rs c s=some r:=⟨n,r,h⟩;have:(bh S).loop wl af rs c s=some hx.choose_spec.choose:=by unfold bh;simp only;rw[dif_pos hx]
  have h2:=hx.choose_spec.choose_spec;have a:=(AK S n hx.choose).loop _ _ _ _ _ _ h;have b:=(AK S hx.choose n).loop _ _ _ _ _ _ h2;rw[Nat.add_comm]at b;exact this.trans (b.symm.trans a)
section
variable {o:Nat->lE}{L:lE}(hs:Sup o L){wl af:Nat}
include hs
theorem Bo{x:Option (Nat×List AV)}{st:aj}{bx:bF}{r:fq×aj×bF}
  (h:gm L wl af x st bx=some r):∃n,gm (o n) wl af x st bx=some r:=by
 unfold gm at h;split at h;rename_i f vs;cases hc:L.call wl af f vs st with
 |none=>simp[hc]at h|some x=>
  obtain⟨n,hn⟩:=hs.call _ _ _ _ _ _ hc;refine⟨n,?_⟩;rw[hc]at h;unfold gm;simp only;rw[hn];exact h
 cases h
theorem Mh{op:eC}{vals:List fq}{st:aj}{bx:bF}{r:fq×aj×bF}
  (h:tT L wl af op vals st bx=some r):∃n,tT (o n) wl af op vals st bx=some r:=by
 by_cases h1:∃f,op=.call f;obtain⟨f,rfl⟩:=h1;exact Bo hs h;by_cases h2:op=.qW;subst h2;exact Bo hs h;exact⟨0,by rw[<-Iw L (o 0) wl af op vals st bx (λf e=>h1 ⟨f,e⟩) h2];exact h⟩
theorem CX{p:aK}{s r:St}(h:jd L wl af p s=some r):∃n,jd (o n) wl af p s=some r:=by
 unfold jd at h;split at h;cases h;rename_i hw;exact⟨0,by unfold jd;rw[hw];exact h⟩;rename_i hw;split at h;cases h;rename_i e bV gC ha;obtain⟨n,hn⟩:=Mh hs ha;exact⟨n,by unfold jd;rw[hw];simp only;rw[hn];exact h⟩
theorem Bp:∀{l:List aK}{s r:St},gw L wl af l s=some r->∃n,gw (o n) wl af l s=some r
 |[],_,_,h=>⟨0,h⟩
 |p::l,s,r,h=>by
  unfold gw at h;split at h;rename_i s' hp;obtain⟨n,hn⟩:=CX hs hp;obtain⟨m,hm⟩:=Bp h;refine⟨n+m,?_⟩;unfold gw;rw[sj (hs.le n m) hn];simp only;exact tW (by rw[Nat.add_comm];exact hs.le m n) hm;cases h
theorem Bq:∀{l:List aK}{s:St} {r},dS L wl af l s=some r->∃n,dS (o n) wl af l s=some r
 |[],_,_,h=>⟨0,h⟩
 |p::l,s,r,h=>by
  unfold dS at h;split at h;rename_i s' hp;split at h;rename_i e l' hr;obtain⟨n,hn⟩:=CX hs hp;obtain⟨m,hm⟩:=Bq hr;refine⟨n+m,?_⟩;unfold dS;rw[sj (hs.le n m) hn];simp only;rw[qm (by rw[Nat.add_comm];exact hs.le m n) hm];exact h;cases h;cases h
theorem sG{p:aK}{s t:St}{st:aj}(h:cW L wl af p s t st=true):∃n,cW (o n) wl af p s t st=true:=by
 unfold cW at h;split at h;cases h;rename_i hw;exact⟨0,by unfold cW;rw[hw]⟩;rename_i hw;split at h;rename_i e a b ha;obtain⟨n,hn⟩:=Mh hs ha;exact⟨n,by unfold cW;rw[hw];simp only;rw[hn];exact h⟩;cases h
theorem Kx{dG:List aK}{ga:List St}{x:Nat×Nat}(h:gO L wl af dG ga x=true):∃n,gO (o n) wl af dG ga x=true:=by
 obtain⟨q,w⟩:=x;unfold gO at h ⊢;by_cases h1:q<100000;simp only[h1,if_true]at h ⊢;split at h;simp only[Bool.and_eq_true]at h ⊢;obtain⟨n,hn⟩:=sG hs h.1;obtain⟨m,hm⟩:=sG hs h.2;exact⟨n+m,lN (hs.le n m) hn,lN (by rw[Nat.add_comm];exact hs.le m n) hm⟩;cases h;simp only[h1,if_false]at h ⊢;split at h;cases h;by_cases h2:q<200000;simp only[h2,if_true,exists_const];simp only[h2,if_false]at h ⊢;split at h;exact sG hs h;cases h
theorem FA{dG:List aK}{ga:List St}:∀{l:List (Nat×Nat)},l.all (gO L wl af dG ga)=true->∃n,l.all (gO (o n) wl af dG ga)=true
 |[],_=>⟨0,rfl⟩
 |x::l,h=>by
  simp only[List.all_cons,Bool.and_eq_true]at h;obtain⟨n,hn⟩:=Kx hs h.1;obtain⟨m,hm⟩:=FA h.2;refine⟨n+m,?_⟩;simp only[List.all_cons,Bool.and_eq_true];refine⟨sq (hs.le n m) hn,?_⟩;rw[List.all_eq_true]at hm ⊢;exact λx hx=>sq (by rw[Nat.add_comm];exact hs.le m n) (hm x hx)
theorem GM{dG:List aK}{cn:List (Nat×Nat)}{s r:St}(h:iB L wl af dG cn s=some r):∃n,iB (o n) wl af dG cn s=some r:=by
 unfold iB at h;split at h;cases h;rename_i e ga hr;split at h;rename_i hc;cases h;simp only[Bool.and_eq_true]at hc;obtain⟨n,hn⟩:=Bq hs hr;obtain⟨m,hm⟩:=FA hs hc.1;refine⟨n+m,?_⟩;unfold iB;rw[qm (hs.le n m) hn];have:cn.all (gO (o (n+m)) wl af dG ga)=true:=by
  rw[List.all_eq_true]at hm ⊢;exact λx hx=>sq (by rw[Nat.add_comm];exact hs.le m n) (hm x hx)
 simp only[this,hc.2,Bool.and_self,if_true];cases h
theorem tX{rs:List iE}:∀{c:bw}{s:St} {r},iW L wl af rs c s=some r->∃n,iW (o n) wl af rs c s=some r
 |.skip,_,_,h=>⟨0,h⟩
 |.region dG draw dj,s,r,h=>by
  unfold iW at h;cases draw with
  |none=>
   simp only at h;split at h;rename_i s' hp;obtain⟨n,hn⟩:=Bp hs hp;exact⟨n,by unfold iW;simp only;rw[hn];exact h⟩;cases h
  |some cn=>
   simp only at h;split at h;rename_i s' hp;obtain⟨n,hn⟩:=GM hs hp;exact⟨n,by unfold iW;simp only;rw[hn];exact h⟩;cases h
 |.seq a b,s,r,h=>by
  unfold iW at h;cases ha:iW L wl af rs a s with
  |none=>rw[ha]at h;cases h|some x=>
   rw[ha]at h;obtain⟨n,hn⟩:=tX ha;obtain⟨e,s'⟩:=x;cases e with
   |normal=>
    obtain⟨m,hm⟩:=tX h;refine⟨n+m,?_⟩;unfold iW;rw[lO (hs.le n m) hn];exact lO (by rw[Nat.add_comm];exact hs.le m n) hm
   |exit id=>exact⟨n,by unfold iW;rw[hn];exact h⟩|ret v=>exact⟨n,by unfold iW;rw[hn];exact h⟩
 |.cond c ca a cb b,s,r,h=>by
  unfold iW at h;split at h;rename_i hb;obtain⟨n,hn⟩:=tX h;exact⟨n,by unfold iW;rw[hb];exact hn⟩;rename_i hb;obtain⟨n,hn⟩:=tX h;exact⟨n,by unfold iW;rw[hb];exact hn⟩;cases h
 |.block id c,s,r,h=>by
  unfold iW at h;cases ha:iW L wl af rs c s with
  |none=>rw[ha]at h;cases h|some x=>
   rw[ha]at h;obtain⟨n,hn⟩:=tX ha;exact⟨n,by unfold iW;rw[hn];exact h⟩
 |.loop c,s,r,h=>hs.loop _ _ _ _ _ _ h|.exit id,s,r,h=>⟨0,h⟩
 |.ret,s,r,h=>⟨0,h⟩
 |.TM t,s,r,h=>⟨0,h⟩
 |.E8 j k,s,r,h=>⟨0,h⟩
 |.u6 t off,s,r,h=>⟨0,h⟩
theorem x9{sf:aH}{args:List AV}{st:aj} {r}(h:eZ L wl af sf args st=some r):∃n,eZ (o n) wl af sf args st=some r:=by
 unfold eZ at h;split at h;rename_i hl;cases hx:iW L (sf.mode.u7 st.length wl) (sf.mode.oB st.length af) sf.results sf.body (pF sf args st) with
 |none=>rw[hx]at h;cases h|some x=>
  rw[hx]at h;obtain⟨n,hn⟩:=tX hs hx;exact⟨n,by unfold eZ;rw[if_pos hl,hn];exact h⟩
 cases h
theorem GN{sf:aH}{args:List AV}{st:aj} {r}(h:fQ L wl af sf args st=some r):∃n,fQ (o n) wl af sf args st=some r:=by
 unfold fQ at h;split at h;rename_i Kj;cases hc:eZ L 0 0 sf args [] with
 |none=>rw[hc]at h;cases h|some x=>
  rw[hc]at h;obtain⟨n,hn⟩:=x9 hs hc;exact⟨n,by unfold fQ;rw[if_pos Kj,hn];exact h⟩
 rename_i Kj;obtain⟨n,hn⟩:=x9 hs h;exact⟨n,by unfold fQ;rw[if_neg Kj];exact hn⟩
end
theorem Mi{α:Type}{a b:Option α}(h:∀r,a=some r↔b=some r):a=b:=by
 cases a with
 |none=>cases b with
  |none=>rfl|some y=>exact absurd ((h y).2 rfl) (by simp)
 |some x=>exact((h x).1 rfl).symm
theorem FB(S:Nat->Option aH)(wl af f:Nat)(args:List AV)(st:aj) :
  (bh S).call wl af f args st=match S f with
   |some sf=>fQ (bh S) wl af sf args st|none=>none:=by
 refine Mi λr=>⟨λh=>?_,λh=>?_⟩;obtain⟨n,hn⟩:=(tf S).call _ _ _ _ _ _ h;cases n with
 |zero=>cases hn|succ n=>
  change (match S f with|some sf=>fQ (qk S n) wl af sf args st|none=>none)=some r at hn;cases hf:S f with
  |none=>rw[hf]at hn;cases hn|some sf=>rw[hf]at hn;exact xZ (sw S n) hn
 cases hf:S f with
 |none=>rw[hf]at h;cases h|some sf=>
  rw[hf]at h;obtain⟨n,hn⟩:=GN (tf S) h;refine(sw S (n+1)).call _ _ _ _ _ _ ?_;show (match S f with|some sf=>fQ (qk S n) wl af sf args st|none=>none)=some r;rw[hf];exact hn
theorem NJ(S:Nat->Option aH)(wl af:Nat)(rs:List iE)(c:bw)(s:St) :
  (bh S).loop wl af rs c s=match iW (bh S) wl af rs c s with
   |some (.normal,s')=>(bh S).loop wl af rs c s'|r=>r:=by
 refine Mi λr=>⟨λh=>?_,λh=>?_⟩;obtain⟨n,hn⟩:=(tf S).loop _ _ _ _ _ _ h;cases n with
 |zero=>cases hn|succ n=>
  change (match iW (qk S n) wl af rs c s with|some (.normal,s')=>(qk S n).loop wl af rs c s'|r=>r)=some r at hn;cases hx:iW (qk S n) wl af rs c s with
  |none=>rw[hx]at hn;cases hn|some x=>
   rw[hx]at hn;rw[lO (sw S n) hx];obtain⟨e,s'⟩:=x;cases e with
   |normal=>exact(sw S n).loop _ _ _ _ _ _ hn|exit id=>exact hn|ret v=>exact hn
 cases hx:iW (bh S) wl af rs c s with
 |none=>rw[hx]at h;cases h|some x=>
  rw[hx]at h;obtain⟨n,hn⟩:=tX (tf S) hx;obtain⟨e,s'⟩:=x;have key:∀m,(qk S m).le (bh S):=sw S;cases e with
  |normal=>
   obtain⟨m,hm⟩:=(tf S).loop _ _ _ _ _ _ h;refine(sw S (n+m+1)).loop _ _ _ _ _ _ ?_;show (match iW (qk S (n+m)) wl af rs c s with|some (.normal,s')=>(qk S (n+m)).loop wl af rs c s'|r=>r)=some r;rw[lO (AK S n m) hn];exact(by rw[Nat.add_comm];exact AK S m n:(qk S m).le (qk S (n+m))).loop _ _ _ _ _ _ hm
  |exit id=>
   refine(sw S (n+1)).loop _ _ _ _ _ _ ?_;show (match iW (qk S n) wl af rs c s with|some (.normal,s')=>(qk S n).loop wl af rs c s'|r=>r)=some r;rw[hn];exact h
  |ret v=>
   refine(sw S (n+1)).loop _ _ _ _ _ _ ?_;show (match iW (qk S n) wl af rs c s with|some (.normal,s')=>(qk S n).loop wl af rs c s'|r=>r)=some r;rw[hn];exact h
end Ax
namespace Ax
theorem CY{O:lE}{wl af:Nat}{rs:List iE}{t off:Nat}{s s':St}{x:Ex}(h:iW O wl af rs (.u6 t off) s=some (x,s')) :
  x=.normal/\∃id cy i k v v' kL kO,di s.env t=.val (.ptr id cy i k)/\dM s.st (.ptr id cy i (k+off)) 1=some [v]/\o6 wl v s.st=some (v',kL)/\cV wl af kL (.ptr id cy i (k+off)) [v']=some kO/\s'=⟨s.env,s.bx,kO⟩:=by
 unfold iW at h;split at h;rename_i id cy i k h1;split at h;rename_i v h2;split at h;rename_i v' kL h3;split at h;rename_i kO h4;cases h;exact⟨rfl,id,cy,i,k,v,v',kL,kO,h1,h2,h3,h4,rfl⟩;cases h;cases h;cases h;cases h
end Ax
namespace Ax
open Go
mutual
def AV.cC:AV->Bool
 |.iO _ _|.raw _ _=>false|.agg cs|.fm cs=>AV.eY cs|_=>true
def AV.eY:List AV->Bool
 |[]=>true|v::r=>v.cC&&AV.eY r
end
structure mC where
 a:Option Addr
 cap:Nat
 len:Nat
 sz:Nat
 cy:Nat
 mp:Bool
 vals:List (List Value)
def mC.hd(l:mC):Option Addr×Nat×Nat×Nat×Bool:=(l.a,l.cap,l.len,l.sz,l.mp)
structure bp where
 ls:List mC
 mM:Nat->Option Nat
def Imm(w:World)(G:bp)(b o:Nat):Prop:=b<w.heap.size/\∀p,G.mM b=some p->o<p
inductive bC (w:World) (G:bp):AV->Value->Prop
 |undef:bC w G .undef Go.undef
 |gone (v:Value) (h:v.oneCell'=true):bC w G .gone v
 |bool (b:Bool):bC w G (.bool b) (.bool b)
 |int (k:IntKind) (n:Int):bC w G (.int k n) (.int k n)
 |str (l:List UInt8) (s:ByteArray) (h:s.data.toList=l):bC w G (.str l) (.string s)
 |fF:bC w G .fF (.pointer none)
 |U:bC w G .U (.slice none 0 0)
 |gn:bC w G .gn (.map none)
 |jc:bC w G .jc .nilFunc
 |ke:bC w G .ke .nilIface
 |agg (cs:List AV) (vs:Array Value) (hl:cs.length=vs.size) (h:∀(i:Nat) c v,cs[i]?=some c->vs[i]?=some v->bC w G c v):bC w G (.agg cs) (.agg vs)
 |fm (cs:List AV) (vs:Array Value) (hl:cs.length=vs.size) (h:∀(i:Nat) c v,cs[i]?=some c->vs[i]?=some v->bC w G c v):bC w G (.fm cs) (.tuple vs)
 |dL (sz:Nat) (rows:List (List AV)) (a:Addr) (cap:Nat) (nE:a.spot=none) (g8:rows.length<=cap) (cJ:bN sz rows=true)
   (jy:∀r∈rows,AV.eY r=true) (qI:∀r∈rows,AV.ai r=true) (wU:∀r∈rows,AV.bq r=true)
   (hc:∀(i:Nat) r (j:Nat) c,rows[i]?=some r->r[j]?=some c->Imm w G a.block (a.off+(i*sz+j))/\∃v,w.cell? ⟨a.block,a.off+(i*sz+j),none⟩=some v)
   (hr:∀(i:Nat) r (j:Nat) c v,rows[i]?=some r->r[j]?=some c->w.cell? ⟨a.block,a.off+(i*sz+j),none⟩=some v->bC w G c v) :
   bC w G (.dL sz rows) (.slice (some a) rows.length cap)
 |iO (sz:Nat) (rows:List (List AV)) (a:Addr) (cap:Nat) (nE:a.spot=none) (g8:rows.length<=cap) (cJ:bN sz rows=true)
   (jy:∀r∈rows,AV.eY r=true) (qI:∀r∈rows,AV.ai r=true) (wU:∀r∈rows,AV.bq r=true)
   (hc:∀(i:Nat) r (j:Nat) c,rows[i]?=some r->r[j]?=some c->∃v,w.cell? ⟨a.block,a.off+(i*sz+j),none⟩=some v)
   (hr:∀(i:Nat) r (j:Nat) c v,rows[i]?=some r->r[j]?=some c->w.cell? ⟨a.block,a.off+(i*sz+j),none⟩=some v->bC w G c v)
   (jz:G.mM a.block=some (a.off+rows.length*sz))
   (gQ:∃c e,w.heap[a.block]?=some (.cells c e (0,0))/\a.off+cap*sz<=c.size) :
   bC w G (.iO sz rows) (.slice (some a) rows.length cap)
 |raw (sz:Nat) (rows:List (List AV)) (a:Addr) (cap:Nat) (nE:a.spot=none) (g8:rows.length<=cap) (cJ:bN sz rows=true)
   (jy:∀r∈rows,AV.eY r=true) (qI:∀r∈rows,AV.ai r=true) (wU:∀r∈rows,AV.bq r=true)
   (hc:∀(i:Nat) r (j:Nat) c,rows[i]?=some r->r[j]?=some c->∃v,w.cell? ⟨a.block,a.off+(i*sz+j),none⟩=some v)
   (hr:∀(i:Nat) r (j:Nat) c v,rows[i]?=some r->r[j]?=some c->w.cell? ⟨a.block,a.off+(i*sz+j),none⟩=some v->bC w G c v)
   (jz:G.mM a.block=some 0)
   (gQ:∃c e,w.heap[a.block]?=some (.cells c e (0,0))/\a.off+cap*sz<=c.size) :
   bC w G (.raw sz rows) (.slice (some a) rows.length cap)
 |mK (a:Addr):bC w G .mK (.slice (some a) 0 0)
 |mu (id cy:Nat) (v:Value) (loc:mC) (hp:∃p n c,v=.slice p n c) (hl:G.ls[id]?=some loc) (hv:cy<=loc.cy) (he:cy=loc.cy->v=.slice loc.a loc.len loc.cap):bC w G (.mu id cy) v
 |ptr (id cy i k:Nat) (v:Value) (loc:mC) (hp:∃a,v=.pointer (some a)) (hl:G.ls[id]?=some loc) (hv:cy<=loc.cy)
   (he:cy=loc.cy->∃a,loc.a=some a/\v=.pointer (some ⟨a.block,a.off+(i*loc.sz+k),none⟩)):bC w G (.ptr id cy i k) v
 |qd (sz:Nat) (rows:List (List AV)) (i k:Nat) (a:Addr) (cap:Nat) (hs:bC w G (.dL sz rows) (.slice (some a) rows.length cap)) :
   bC w G (.qd sz rows i k) (.pointer (some ⟨a.block,a.off+(i*sz+k),none⟩))
 |map (id:Nat) (loc:mC) (b:Nat) (hl:G.ls[id]?=some loc) (hm:loc.mp=true) (hb:loc.a=some ⟨b,0,none⟩):bC w G (.map id) (.map (some b))
 |fn (f:Nat) (first lK:List AV) (vf vc:Array Value) (hl:first.length=vf.size) (hm:lK.length=vc.size)
   (hn:AV.eY first=true/\AV.eY lK=true/\f<100000)
   (h:∀(i:Nat) c v,first[i]?=some c->vf[i]?=some v->bC w G c v) (k:∀(i:Nat) c v,lK[i]?=some c->vc[i]?=some v->bC w G c v) :
   bC w G (.fn f first lK) (.func (.func f) vf vc)
mutual
def gu(b:Nat):AV->Value->Nat
 |.iO _ _,.slice (some a) _ _=>if a.block=b then 1 else 0
 |.raw _ _,.slice (some a) _ _=>if a.block=b then 1 else 0
 |.agg cs,.agg vs=>cu b cs vs.toList|.fm cs,.tuple vs=>cu b cs vs.toList|_,_=>0
def cu(b:Nat):List AV->List Value->Nat
 |c::cs,v::vs=>gu b c v+cu b cs vs|_,_=>0
end
theorem vG(b:Nat):∀(cs:List AV)(vs:List Value)(i:Nat)(c:AV)(v:Value),cs[i]?=some c->vs[i]?=some v->gu b c v<=cu b cs vs
 |[],_,_,_,_,h,_=>by simp at h|_::_,[],_,_,_,_,h=>by simp at h|c::cs,v::vs,0,c',v',h,k=>by
  simp at h k;subst h;subst k;simp only[cu];omega
 |c::cs,v::vs,i+1,c',v',h,k=>by
  simp at h k;have:=vG b cs vs i c' v' h k;simp only[cu];omega
mutual
theorem fz(b:Nat):∀(a:AV)(v:Value),a.cC=true->gu b a v=0
 |.iO _ _,_,h=>by simp[AV.cC]at h|.raw _ _,_,h=>by simp[AV.cC]at h|.agg cs,.agg vs,h=>by simp only[gu];exact eE b cs vs.toList (by simpa [AV.cC] using h)|.fm cs,.tuple vs,h=>by simp only[gu];exact eE b cs vs.toList (by simpa [AV.cC] using h)
 |.undef,_,_|.gone,_,_|.bool _,_,_|.int _ _,_,_|.str _,_,_|.fF,_,_|.U,_,_|.gn,_,_|.jc,_,_|.ke,_,_
 |.dL _ _,_,_|.mK,_,_|.mu _ _,_,_|.ptr _ _ _ _,_,_|.qd _ _ _ _,_,_|.map _,_,_|.fn _ _ _,_,_=>by simp[gu]
 |.agg cs,.bool _,_|.agg cs,.int _ _,_|.agg cs,.float _ _,_|.agg cs,.complex _ _ _,_|.agg cs,.string _,_|.agg cs,.pointer _,_|.agg cs,.slice _ _ _,_
 |.agg cs,.map _,_|.agg cs,.chan _,_|.agg cs,.func _ _ _,_|.agg cs,.nilFunc,_|.agg cs,.iface _ _,_|.agg cs,.nilIface,_|.agg cs,.tuple _,_=>by simp[gu]
 |.fm cs,.bool _,_|.fm cs,.int _ _,_|.fm cs,.float _ _,_|.fm cs,.complex _ _ _,_|.fm cs,.string _,_|.fm cs,.pointer _,_|.fm cs,.slice _ _ _,_
 |.fm cs,.map _,_|.fm cs,.chan _,_|.fm cs,.func _ _ _,_|.fm cs,.nilFunc,_|.fm cs,.iface _ _,_|.fm cs,.nilIface,_|.fm cs,.agg _,_=>by simp[gu]
theorem eE(b:Nat):∀(cs:List AV)(vs:List Value),AV.eY cs=true->cu b cs vs=0
 |[],_,_=>by simp[cu]|_::_,[],_=>by simp[cu]|c::cs,v::vs,h=>by
  simp[AV.eY]at h;simp only[cu,fz b c v h.1,eE b cs vs h.2]
end
mutual
theorem tY:∀a:AV,a.view.cC=true
 |.iO _ _=>by simp[AV.view,AV.cC]|.raw _ _=>by simp[AV.view,AV.cC]|.agg cs=>by simp only[AV.view,AV.cC];exact gD cs|.fm cs=>by simp only[AV.view,AV.cC];exact gD cs|.undef|.gone|.bool _|.int _ _|.str _|.fF|.U|.gn|.jc|.ke|.dL _ _|.mK|.mu _ _|.ptr _ _ _ _|.qd _ _ _ _|.map _|.fn _ _ _=>by simp[AV.view,AV.cC]
theorem gD:∀cs:List AV,AV.eY (AV.cq cs)=true
 |[]=>rfl|c::cs=>by simp only[AV.cq,AV.eY,tY c,gD cs,Bool.and_self]
end
theorem wV:∀(cs:List AV)(i:Nat),(AV.cq cs)[i]?=(cs[i]?).map AV.view
 |[],i=>by simp[AV.cq]|c::cs,0=>by simp[AV.cq]|c::cs,i+1=>by simp[AV.cq,wV cs i]
theorem nM:∀(cs:List AV),(AV.cq cs).length=cs.length
 |[]=>rfl|c::cs=>by simp[AV.cq,nM cs]
theorem de:∀(cs:List AV),AV.eY cs=true↔∀c∈cs,c.cC=true
 |[]=>by simp[AV.eY]|c::cs=>by simp[AV.eY,de cs]
theorem gG:∀(cs:List AV),AV.ai cs=true↔∀c∈cs,c.ax=true
 |[]=>by simp[AV.ai]|c::cs=>by simp[AV.ai,gG cs]
theorem dm{α:Type}{l:List α}{i:Nat}{x:α}(h:l[i]?=some x):x∈l:=List.mem_of_getElem? h
structure sH (w:World)(G:bp)(w':World)(G':bp):Prop where
 PM:∀b o,Imm w G b o->w'.cell? ⟨b,o,none⟩=w.cell? ⟨b,o,none⟩/\Imm w' G' b o
 Mj:∀(id:Nat) loc,G.ls[id]?=some loc->∃loc',G'.ls[id]?=some loc'/\loc.cy<=loc'.cy/\(loc.cy=loc'.cy\/loc.mp=true->loc'.hd=loc.hd)
theorem sH.refl(w:World)(G:bp):sH w G w G:=⟨λ_ _ h=>⟨rfl,h⟩,λ_ loc h=>⟨loc,h,Nat.le_refl _,λ_=>rfl⟩⟩
theorem sH.trans{w G w' G' w'' G''}(h:sH w G w' G')(k:sH w' G' w'' G''):sH w G w'' G'' where
 PM:=λb o hi=>by
  obtain⟨a1,a2⟩:=h.PM b o hi;obtain⟨b1,b2⟩:=k.PM b o a2;exact⟨b1.trans a1,b2⟩
 Mj:=λid loc hl=>by
  obtain⟨l1,a1,a2,a3⟩:=h.Mj id loc hl;obtain⟨l2,b1,b2,b3⟩:=k.Mj id l1 a1;refine⟨l2,b1,by omega,λe=>?_⟩;rcases e with e|e;have e1:loc.cy=l1.cy:=by omega
  have e2:l1.cy=l2.cy:=by omega
  rw[b3 (.inl e2),a3 (.inl e1)];have h1:=a3 (.inr e);have h2:l1.mp=loc.mp:=congrArg (·.2.2.2.2) h1;exact(b3 (.inr (h2.trans e))).trans h1
theorem bC.jK{w:World}{G:bp}{w':World}{G':bp}{a:AV}{v:Value}(h:bC w G a v)(hs:sH w G w' G') :
  (∀b,0<gu b a v->G'.mM b=G.mM b/\w'.heap[b]?=w.heap[b]?)->bC w' G' a v:=by
 induction h with
 |undef=>exact λ_=>.undef|gone v h=>exact λ_=>.gone v h|bool b=>exact λ_=>.bool b|int k n=>exact λ_=>.int k n|str l s h=>exact λ_=>.str l s h|fF=>exact λ_=>.fF|U=>exact λ_=>.U|gn=>exact λ_=>.gn|jc=>exact λ_=>.jc|ke=>exact λ_=>.ke|agg cs vs hl h ih=>
  intro ho;refine .agg cs vs hl λi c v hc hv=>ih i c v hc hv λb hb=>ho b ?_;have:=vG b cs vs.toList i c v hc (by simpa using hv);simp only[gu];omega
 |fm cs vs hl h ih=>
  intro ho;refine .fm cs vs hl λi c v hc hv=>ih i c v hc hv λb hb=>ho b ?_;have:=vG b cs vs.toList i c v hc (by simpa using hv);simp only[gu];omega
 |dL sz rows a cap nE g8 cJ jy qI wU hc hr ih=>
  intro _;refine .dL sz rows a cap nE g8 cJ jy qI wU (λi r j c h1 h2=>?_) (λi r j c v h1 h2 h3=>?_);obtain⟨hi,v,hv⟩:=hc i r j c h1 h2;obtain⟨e,rV⟩:=hs.PM _ _ hi;exact⟨rV,v,e.trans hv⟩;obtain⟨hi,v',FC⟩:=hc i r j c h1 h2;obtain⟨e,rV⟩:=hs.PM _ _ hi;rw[e]at h3;refine ih i r j c v h1 h2 h3 λb hb=>?_;rw[fz b c v ((de r).1 (jy r (dm h1)) c (dm h2))]at hb;omega
 |iO sz rows a cap nE g8 cJ jy qI wU hc hr jz gQ ih=>
  intro ho;obtain⟨ht,hh⟩:=ho a.block (by simp[gu]);have qe:∀o,w'.cell? ⟨a.block,o,none⟩=w.cell? ⟨a.block,o,none⟩:=λo=>by simp[World.cell?,hh]
  refine .iO sz rows a cap nE g8 cJ jy qI wU (λi r j c h1 h2=>?_) (λi r j c v h1 h2 h3=>?_) (ht.trans jz) ?_;obtain⟨v,hv⟩:=hc i r j c h1 h2;exact⟨v,(qe _).trans hv⟩;rw[qe]at h3;refine ih i r j c v h1 h2 h3 λb hb=>?_;rw[fz b c v ((de r).1 (jy r (dm h1)) c (dm h2))]at hb;omega;obtain⟨c,e,h1,h2⟩:=gQ;exact⟨c,e,hh.trans h1,h2⟩
 |raw sz rows a cap nE g8 cJ jy qI wU hc hr jz gQ ih=>
  intro ho;obtain⟨ht,hh⟩:=ho a.block (by simp[gu]);have qe:∀o,w'.cell? ⟨a.block,o,none⟩=w.cell? ⟨a.block,o,none⟩:=λo=>by simp[World.cell?,hh]
  refine .raw sz rows a cap nE g8 cJ jy qI wU (λi r j c h1 h2=>?_) (λi r j c v h1 h2 h3=>?_) (ht.trans jz) ?_;obtain⟨v,hv⟩:=hc i r j c h1 h2;exact⟨v,(qe _).trans hv⟩;rw[qe]at h3;refine ih i r j c v h1 h2 h3 λb hb=>?_;rw[fz b c v ((de r).1 (jy r (dm h1)) c (dm h2))]at hb;omega;obtain⟨c,e,h1,h2⟩:=gQ;exact⟨c,e,hh.trans h1,h2⟩
 |mK a=>exact λ_=>.mK a|mu id cy v loc hp hl hv he=>
  intro _;obtain⟨loc',a1,a2,a3⟩:=hs.Mj id loc hl;refine .mu id cy v loc' hp a1 (by omega) λe=>?_;have e1:cy=loc.cy:=by omega
  have e2:=a3 (.inl (by omega));rw[show loc'.a=loc.a from congrArg (·.1) e2,show loc'.len=loc.len from congrArg (·.2.2.1) e2,show loc'.cap=loc.cap from congrArg (·.2.1) e2];exact he e1
 |ptr id cy i k v loc hp hl hv he=>
  intro _;obtain⟨loc',a1,a2,a3⟩:=hs.Mj id loc hl;refine .ptr id cy i k v loc' hp a1 (by omega) λe=>?_;have e1:cy=loc.cy:=by omega
  have e2:=a3 (.inl (by omega));rw[show loc'.a=loc.a from congrArg (·.1) e2,show loc'.sz=loc.sz from congrArg (·.2.2.2.1) e2];exact he e1
 |qd sz rows i k a cap hl ih=>exact λ_=>.qd sz rows i k a cap (ih λb hb=>by simp[gu]at hb)|map id loc b hl hm hb=>
  intro _;obtain⟨loc',a1,a2,a3⟩:=hs.Mj id loc hl;have e2:=a3 (.inr hm);exact .map id loc' b a1 ((congrArg (·.2.2.2.2) e2:loc'.mp=loc.mp).trans hm) ((congrArg (·.1) e2:loc'.a=loc.a).trans hb)
 |fn f first lK vf vc hl hm hn h k ih ik=>
  intro _;refine .fn f first lK vf vc hl hm hn (λi c v h1 h2=>ih i c v h1 h2 λb hb=>?_) (λi c v h1 h2=>ik i c v h1 h2 λb hb=>?_)
  rw[fz b c v ((de first).1 hn.1 c (dm h1))]at hb;omega;rw[fz b c v ((de lK).1 hn.2.1 c (dm h1))]at hb;omega
end Ax
namespace Ax
open Go
def wW:Nat->Value->Option AV
 |0,_=>none|d+1,v=>match v with
  |.bool b=>some (.bool b)|.int k n=>some (.int k n)|.string s=>some (.str s.data.toList)|.pointer none=>some .fF|.slice none 0 0=>some .U|.map none=>some .gn|.nilFunc=>some .jc|.nilIface=>some .ke|.agg cs=>match cs.toList.mapM (wW d) with|some l=>some (.agg l)|none=>none
  |_=>none
def wX(v:Value)(a:AV):Bool:=match wW 3 v with|some b=>b.fG a|none=>false
def qJ:List Value->List AV->Bool
 |[],[]=>true|v::vs,a::as=>wX v a&&qJ vs as|_,_=>false
def Ky:Operand->Src->Bool
 |.tmp t,.tmp u _=>t==u|.const v,.const a=>wX v a|.func f,.const (.fn g [] [])=>f==g&&decide (f<100000)|_,_=>false
def iF:List Operand->List Src->Bool
 |[],[]=>true|x::xs,s::ss=>Ky x s&&iF xs ss|_,_=>false
def nN(P:Program)(t:TypeId):Option Bool:=match P.underlying t with
 |some (.struct _)|some (.array _ _)=>some true|some _=>some false|none=>none
def dz(P:Program)(t:TypeId)(n:Nat):Bool:=match P.info? t with|some i=>i.size==n|none=>false
def wY(P:Program)(t:TypeId)(n:Nat):Bool:=match P.info? t with|some i=>i.bytes==n|none=>false
def CZ(P:Program)(rec:TypeId->Option (List SK)):Nat->List Field->Option (List SK)
 |_,[]=>some []|off,f::fs=>
  if f.offset = off && f.name != "_" then
   match rec f.type with
   |some ks=>if dz P f.type ks.length then (match CZ P rec (off+ks.length) fs with|some r=>some (ks++r)|none=>none) else none
   |none=>none
  else none
def C0(P:Program):Nat->TypeId->Option (List SK)
 |0,_=>none|d+1,t=>match P.underlying t with
  |some .bool=>some [.bool]|some (.int _)=>some [.int]|some .string=>some [.str]|some (.struct fs)=>if P.stoodInHeld t then none else CZ P (C0 P d) 0 fs.toList
  |_=>none
def xR(P:Program)(t:TypeId):EqK->Bool
 |.sc .bool=>match P.underlying t with|some .bool=>true|_=>false
 |.sc _=>false|.ptr=>match P.underlying t with|some (.pointer _)=>true|_=>false
 |.sl=>match P.underlying t with|some (.slice _)=>true|_=>false
 |.fn=>match P.underlying t with|some (.func _ _ _)=>true|_=>false
 |.flat ks=>(match P.underlying t with|some (.struct _)=>true|_=>false)&&C0 P 20 t==some ks && !P.eqGuardType P.depth t
def pG(P:Program)(t:TypeId):SK->Bool
 |.bool=>match P.underlying t with|some .bool=>true|_=>false
 |.int=>match P.underlying t with|some (.int _)=>true|_=>false
 |.str=>match P.underlying t with|some .string=>true|_=>false
def sI(P:Program)(t:TypeId)(zero:List AV):Bool:=match P.info? t with
 |some i=>(match i.zero with|some z=>qJ z.cells.toList zero&&AV.bq zero|none=>false)
 |none=>false
def qX(P:Program)(fs:Array Field):List (Nat×Operand)->List (Nat×Nat)->Bool
 |[],[]=>true|(i,_)::ps,(off,n)::qs=>(match fs[i]? with|some f=>f.offset==off&&dz P f.type n|none=>false)&&qX P fs ps qs|_,_=>false
def wZ(x:Operand)(lo hi mx:Option Operand):List Operand:=x::(lo.toList++hi.toList++mx.toList)
def mOp(S:Nat->Option aH)(P:Program)(o:Oper)(so:aK):Bool:=
 (match o.dst,so.dst with|some a,some b=>a==b|none,none=>true|_,_=>false) &&
 match o.op,so.op with
 |.move x,.move|.assign x,.move=>iF [x] so.args|.pick c a b,.pick=>iF [c,a,b] so.args|.binOp op _ x y _,.rU op'=>op==op'&&iF [x,y] so.args|.binOp op t x y _,.qj k neg=>op==(if neg then .neq else .eql)&&iF [x,y] so.args&&xR P t k|.binOp op t x y _,.Mg neg=>op==(if neg then .neq else .eql)&&iF [x,y] so.args&&xR P t .sl|.unOp op _ x,.un op'=>op==op'&&iF [x] so.args|.convert s d x,.conv k=>iF [x] so.args&&(match P.underlying s,P.underlying d with|some (.int _),some (.int k')=>k==k'|_,_=>false)|.nilCheck x,.nilCheck=>iF [x] so.args|.extract x i,.extract j=>i==j&&iF [x] so.args|.field t x f,.field off n agg=>iF [x] so.args&&(match P.underlying t with
  |some (.struct fs)=>(match fs[f]? with|some fd=>fd.offset==off&&dz P fd.type n&&nN P fd.type==some agg|none=>false)
  |_=>false)
 |.build t parts,.build zero qs=>iF (parts.toList.map (·.2)) so.args&&sI P t zero&&(match P.underlying t with
  |some (.struct fs)=>(match fs.toList.mapM (λf=>P.info? f.type) with|some _=>qX P fs parts.toList qs|none=>false)
  |_=>false)
 |.buildSlice t n parts,.lit sz n' zero qs=>n==n'&&iF (parts.toList.map (·.2)) so.args&&(match P.underlying t with
  |some (.slice e)=>dz P e sz&&decide (n*sz<=16777216)&&sI P e zero&&decide (0<sz)&&(zero.length==sz)&&parts.toList.map (·.1)==qs|_=>false)
 |.fieldAddr t x f,.fieldAddr off=>iF [x] so.args&&(match P.underlying t with
  |some (.struct fs)=>(match fs[f]? with
   |some fd=>fd.offset==off&&(match P.info? fd.type with|some i=>i.size != 0|none=>false)|none=>false)
  |_=>false)
 |.indexAddr t x i,.indexAddr sz=>iF [x,i] so.args&&(match P.underlying t with|some (.slice e)=>dz P e sz|_=>false)|.index t x i,.index=>iF [x,i] so.args&&(match P.underlying t with|some .string=>true|_=>false)|.slice t x lo hi mx,.slice wT l h m sz=>iF (wZ x lo hi mx) so.args&&lo.isSome==l&&hi.isSome==h&&mx.isSome==m&&(!m||h)&&(match P.underlying t with
  |some (.slice e)=>!wT&&dz P e sz|some .string=>wT && !m|_=>false)
 |.load t a,.load agg n _|.load t a,.fD _ agg n _=>iF [a] so.args&&dz P t n&&nN P t==some agg&&(agg||n==1)|.store t a v,.store n|.store t a v,.jH _ n=>iF [a,v] so.args&&dz P t n|.alloc t,.alloc zero|.alloc t,.bT _ zero=>so.args.isEmpty&&sI P t zero|.box _ v,.box _|.box _ v,.qV _ _=>iF [v] so.args|.makeSlice t l c,.sF sz bytes zero _=>iF [l,c] so.args&&(match P.underlying t with
  |some (.slice e)=>dz P e sz&&wY P e bytes&&sI P e zero&&decide (0<sz)&&decide (0<bytes)|_=>false)
 |.makeMap t none,.makeMap=>so.args.isEmpty&&(match P.underlying t with|some (.map _ _)=>true|_=>false)|.mapUpdate t m k v,.mapUpdate kk|.insert t m k v,.mapUpdate kk=>iF [m,k,v] so.args&&(match P.underlying t with
  |some (.map kt _)=>pG P kt kk|_=>false)
 |.lookup t m k ok,.lookup kk zero ok'=>ok==ok'&&iF [m,k] so.args&&(match P.underlying t with
  |some (.map kt et)=>pG P kt kk &&
   (match P.info? et with|some i=>(match i.zero with|some z=>wX z zero|none=>false)|none=>false)
  |_=>false)
 |.makeFunc (.func f) first lK,.makeFunc f' n=>f==f'&&iF (first.toList++lK.toList) so.args&&first.size==n&&decide (f<100000)
 |.call c,.len k=>iF c.args.toList so.args&&c.args.size==1&&(match c.callee,c.argTypes[0]? with
  |.builtin .len,some t=>(match P.underlying t,k with|some .string,.str|some (.slice _),.sl|some (.map _ _),.mp=>true|_,_=>false)
  |_,_=>false)
 |.call c,.append sz bytes|.call c,.jx sz bytes=>iF c.args.toList so.args&&c.args.size==2&&c.argTypes.size==2&&(match c.callee,c.argTypes[0]?,c.argTypes[1]? with
  |.builtin .append,some t,some u=>(match P.underlying t with|some (.slice e)=>dz P e sz&&wY P e bytes&&decide (0<sz)&&decide (0<bytes)&&(match P.info? e with|some i=>(match i.zero with|some z=>z.cells.size==sz|none=>false)|none=>false)|_=>false) &&
   (match P.underlying u with|some (.slice _)|some .string=>true|_=>false)
  |_,_,_=>false)
 |.call c,.call i=>(match c.callee with
  |.value (.func f)=>iF c.args.toList so.args&&(match S i with|some sf=>sf.eM==f|none=>false)|_=>false)
 |.call c,.qW=>(match c.callee with
  |.value x=>iF (x::c.args.toList) so.args|_=>false)
 |_,.CU 0=>so.args.isEmpty|_,_=>false
end Ax
namespace Ax
open Go
structure m9 where
 jF:Option Nat
 vals:List Value
def kP(w:World)(G:bp)(β:List m9):fq->Value->Prop
 |.none,_=>True|.val a,v=>bC w G a v|.fp j k,v=>∃g b,β[j]?=some g/\g.jF=some b/\v=.pointer (some ⟨b,k,none⟩)
def cL(b:Nat):fq->Value->Nat
 |.val a,v=>gu b a v|_,_=>0
def lg(w:World)(G:bp)(β:List m9):List fq->List Value->Prop
 |[],[]=>True|e::es,v::vs=>kP w G β e v/\lg w G β es vs|_,_=>False
def mD(b:Nat):List fq->List Value->Nat
 |e::es,v::vs=>cL b e v+mD b es vs|_,_=>0
variable {w:World}{G:bp}{β:List m9}
theorem lg.one{e:fq}{xs:List Value}(h:lg w G β [e] xs):∃v,xs=[v]/\kP w G β e v:=by
 match xs,h with
 |[v],h=>exact⟨v,rfl,h.1⟩
theorem lg.two{e f:fq}{xs:List Value}(h:lg w G β [e,f] xs):∃v u,xs=[v,u]/\kP w G β e v/\kP w G β f u:=by
 match xs,h with
 |[v,u],h=>exact⟨v,u,rfl,h.1,h.2.1⟩
theorem lg.cons{e:fq}{es:List fq}{xs:List Value}(h:lg w G β (e::es) xs):∃v vs,xs=v::vs/\kP w G β e v/\lg w G β es vs:=by
 match xs,h with
 |v::vs,h=>exact⟨v,vs,rfl,h.1,h.2⟩
theorem lg.vals:∀{es:List fq}{xs:List Value}{vs:List AV},lg w G β es xs->jt es=some vs->
  es=vs.map .val/\vs.length=xs.length/\∀(i:Nat) c v,vs[i]?=some c->xs[i]?=some v->bC w G c v
 |[],[],vs,_,h=>by simp[jt]at h;subst h;exact⟨rfl,rfl,λi c v h _=>by simp at h⟩|.val a::es,x::xs,vs,h,hv=>by
  simp only[jt]at hv;split at hv;rename_i vs' B8;cases hv;obtain⟨e1,e2,e3⟩:=lg.vals h.2 B8;refine⟨by rw[e1];rfl,by simp[e2],λi c v h1 h2=>?_⟩;cases i with
  |zero=>simp at h1 h2;subst h1;subst h2;exact h.1|succ i=>simp at h1 h2;exact e3 i c v h1 h2
  cases hv
 |.none::es,_::_,vs,_,hv=>by simp[jt]at hv|.fp _ _::es,_::_,vs,_,hv=>by simp[jt]at hv|[],_::_,_,h,_=>h.elim|_::_,[],_,h,_=>h.elim
theorem C1:∀(b:Nat)(vs:List AV)(xs:List Value),mD b (vs.map .val) xs=cu b vs xs
 |_,[],[]=>rfl|_,[],_::_=>rfl|_,_::_,[]=>rfl|b,a::vs,x::xs=>by simp[mD,cu,cL,C1 b vs xs]
theorem bC.jP{k:IntKind}{n:Int}{v:Value}(h:bC w G (.int k n) v):v=.int k n:=by cases h;rfl
theorem bC.jT{b:Bool}{v:Value}(h:bC w G (.bool b) v):v=.bool b:=by cases h;rfl
theorem bC.mT{l:List UInt8}{v:Value}(h:bC w G (.str l) v):∃s,v=.string s/\s.data.toList=l:=by
 cases h with|str _ s h=>exact⟨s,rfl,h⟩
theorem bC.view{a:AV}{v:Value}(h:bC w G a v):bC w G a.view v:=by
 induction h with
 |undef=>exact .undef|gone v h=>exact .gone v h|bool b=>exact .bool b|int k n=>exact .int k n|str l s h=>exact .str l s h|fF=>exact .fF|U=>exact .U|gn=>exact .gn|jc=>exact .jc|ke=>exact .ke|agg cs vs hl h ih=>
  refine .agg _ vs (by rw[nM];exact hl) λi c v hc hv=>?_;rw[wV]at hc;simp only[Option.map_eq_some_iff]at hc;obtain⟨c',h1,rfl⟩:=hc;exact ih i c' v h1 hv
 |fm cs vs hl h ih=>
  refine .fm _ vs (by rw[nM];exact hl) λi c v hc hv=>?_;rw[wV]at hc;simp only[Option.map_eq_some_iff]at hc;obtain⟨c',h1,rfl⟩:=hc;exact ih i c' v h1 hv
 |dL sz rows a cap nE g8 cJ jy qI wU hc hr ih=>exact .dL sz rows a cap nE g8 cJ jy qI wU hc hr|iO sz rows a cap nE g8 cJ jy qI wU hc hr jz gQ ih=>
  refine .dL sz rows a cap nE g8 cJ jy qI wU (λi r j c h1 h2=>⟨⟨?_,λp hp=>?_⟩,hc i r j c h1 h2⟩) hr;obtain⟨cc,e,h3,_⟩:=gQ;exact(Array.getElem?_eq_some_iff.1 h3).1;rw[jz]at hp;cases hp;have hi:i<rows.length:=(List.getElem?_eq_some_iff.1 h1).1;have hj:j<r.length:=(List.getElem?_eq_some_iff.1 h2).1;have hs:r.length=sz:=by
   simp only[bN,List.all_eq_true,beq_iff_eq]at cJ;exact cJ r (dm h1)
  have:i*sz+j<rows.length*sz:=by
   calc i*sz+j<i*sz+sz:=by omega
    _=(i+1)*sz:=by rw[Nat.succ_mul]
    _<=rows.length*sz:=Nat.mul_le_mul_right _ hi
  omega
 |raw sz rows a cap nE g8 cJ jy qI wU hc hr jz gQ ih=>exact .gone _ rfl|mK a=>exact .mK a|mu id cy v loc hp hl hv he=>exact .mu id cy v loc hp hl hv he|ptr id cy i k v loc hp hl hv he=>exact .ptr id cy i k v loc hp hl hv he|qd sz rows i k a cap hl ih=>exact .qd sz rows i k a cap hl|map id loc b hl hm hb=>exact .map id loc b hl hm hb|fn f first lK vf vc hl hm hn h k ih ik=>exact .fn f first lK vf vc hl hm hn h k
theorem kP.view{e:fq}{v:Value}(h:kP w G β e v):kP w G β e.view v:=by
 cases e with
 |none=>trivial|val a=>exact bC.view h|fp j k=>exact h
theorem FD(b:Nat)(e:fq)(v:Value):cL b e.view v=0:=by
 cases e with
 |none=>rfl|val a=>exact fz b _ _ (tY a)|fp j k=>rfl
mutual
theorem GO:∀(a b:AV),a.fG b=true->a=b
 |.undef,b,h=>by cases b<;>simp[AV.fG]at h<;>rfl|.gone,b,h=>by cases b<;>simp[AV.fG]at h<;>rfl|.fF,b,h=>by cases b<;>simp[AV.fG]at h<;>rfl|.U,b,h=>by cases b<;>simp[AV.fG]at h<;>rfl|.gn,b,h=>by cases b<;>simp[AV.fG]at h<;>rfl|.jc,b,h=>by cases b<;>simp[AV.fG]at h<;>rfl|.ke,b,h=>by cases b<;>simp[AV.fG]at h<;>rfl|.mK,b,h=>by cases b<;>simp[AV.fG]at h<;>rfl|.bool x,b,h=>by cases b<;>simp[AV.fG]at h;rw[h]|.int k x,b,h=>by cases b<;>simp[AV.fG]at h;rw[h.1,h.2]|.str x,b,h=>by cases b<;>simp[AV.fG]at h;rw[h]|.agg x,b,h=>by
  cases b<;>simp[AV.fG]at h;rw[tg _ _ h]
 |.fm x,b,h=>by
  cases b<;>simp[AV.fG]at h;rw[tg _ _ h]
 |.dL s x,b,h=>by
  cases b<;>simp[AV.fG]at h;rw[h.1,th _ _ h.2]
 |.iO s x,b,h=>by
  cases b<;>simp[AV.fG]at h;rw[h.1,th _ _ h.2]
 |.raw s x,b,h=>by
  cases b<;>simp[AV.fG]at h;rw[h.1,th _ _ h.2]
 |.mu i v,b,h=>by cases b<;>simp[AV.fG]at h;rw[h.1,h.2]|.ptr i v k l,b,h=>by cases b<;>simp[AV.fG]at h;rw[h.1.1.1,h.1.1.2,h.1.2,h.2]|.qd s x i k,b,h=>by
  cases b<;>simp[AV.fG]at h;rw[h.1.1.1,th _ _ h.1.1.2,h.1.2,h.2]
 |.map i,b,h=>by cases b<;>simp[AV.fG]at h;rw[h]|.fn f x y,b,h=>by
  cases b<;>simp[AV.fG]at h;rw[h.1.1,tg _ _ h.1.2,tg _ _ h.2]
theorem tg:∀(a b:List AV),AV.qT a b=true->a=b
 |[],b,h=>by cases b<;>simp[AV.qT]at h;rfl|x::a,b,h=>by
  cases b with
  |nil=>simp[AV.qT]at h|cons y b=>
   simp[AV.qT]at h;rw[GO x y h.1,tg a b h.2]
theorem th:∀(a b:List (List AV)),AV.qU a b=true->a=b
 |[],b,h=>by cases b<;>simp[AV.qU]at h;rfl|x::a,b,h=>by
  cases b with
  |nil=>simp[AV.qU]at h|cons y b=>
   simp[AV.qU]at h;rw[tg x y h.1,th a b h.2]
end
theorem C2(w:World)(G:bp):∀(d:Nat)(v:Value)(a:AV),wW d v=some a->bC w G a v/\a.cC=true/\a.ax=true
 |0,_,_,h=>by simp[wW]at h|d+1,v,a,h=>by
  unfold wW at h;split at h;cases h;exact⟨.bool _,rfl,rfl⟩;cases h;exact⟨.int _ _,rfl,rfl⟩;cases h;exact⟨.str _ _ rfl,rfl,rfl⟩;cases h;exact⟨.fF,rfl,rfl⟩;cases h;exact⟨.U,rfl,rfl⟩;cases h;exact⟨.gn,rfl,rfl⟩;cases h;exact⟨.jc,rfl,rfl⟩;cases h;exact⟨.ke,rfl,rfl⟩;rename_i cs;split at h;rename_i l hl;cases h;have key:∀(vs:List Value) (l:List AV),vs.mapM (wW d)=some l->vs.length=l.length/\(∀(i:Nat) c v,l[i]?=some c->vs[i]?=some v->bC w G c v/\c.cC=true/\c.ax=true):=by
   intro vs;induction vs with
   |nil=>intro l h;simp at h;subst h;exact⟨rfl,λi c v h _=>by simp at h⟩|cons x vs ih=>
    intro l h;rw[List.mapM_cons]at h;simp only[bind,Option.bind_eq_some_iff,pure,Option.some.injEq]at h;obtain⟨a1,h1,l1,h2,rfl⟩:=h;obtain⟨e1,e2⟩:=ih l1 h2;refine⟨by simp[e1],λi c v hc hv=>?_⟩;cases i with
    |zero=>simp at hc hv;subst hc;subst hv;exact C2 w G d _ _ h1|succ i=>simp at hc hv;exact e2 i c v hc hv
  obtain⟨e1,e2⟩:=key _ _ hl;have ku:∀c∈l,c.cC=true/\c.ax=true:=by
   intro c hc;obtain⟨i,hi,rfl⟩:=List.mem_iff_getElem.1 hc;have Kk:i<cs.toList.length:=(by omega);exact(e2 i l[i] cs.toList[i] (List.getElem?_eq_getElem hi) (List.getElem?_eq_getElem Kk)).2
  refine⟨.agg l cs (by rw[<-e1];simp) λi c v hc hv=>(e2 i c v hc (by simpa using hv)).1,?_,?_⟩;simp only[AV.cC];exact(de l).2 λc hc=>(ku c hc).1;simp only[AV.ax];exact(gG l).2 λc hc=>(ku c hc).2;cases h;cases h
theorem yB{v:Value}{a:AV}(h:wX v a=true)(w:World)(G:bp):bC w G a v/\a.cC=true/\a.ax=true:=by
 unfold wX at h;split at h;rename_i b hb;have:=GO _ _ h;subst this;exact C2 w G 3 v b hb;cases h
theorem zk(w:World)(G:bp):∀{vs:List Value}{as:List AV},qJ vs as=true->as.length=vs.length/\(∀(i:Nat) c v,as[i]?=some c->vs[i]?=some v->bC w G c v)/\(∀c∈as,c.cC=true/\c.ax=true)
 |[],[],_=>⟨rfl,λi c v h _=>by simp at h,λc h=>by simp at h⟩
 |v::vs,a::as,h=>by
  simp only[qJ,Bool.and_eq_true]at h;obtain⟨e1,e2,e3⟩:=zk w G h.2;obtain⟨f1,f2,f3⟩:=yB h.1 w G;refine⟨by simp[e1],λi c u hc hu=>?_,λc hc=>?_⟩;cases i with
  |zero=>simp at hc hu;subst hc;subst hu;exact f1|succ i=>simp at hc hu;exact e2 i c u hc hu
  rcases List.mem_cons.1 hc with rfl|hc;exact⟨f2,f3⟩;exact e3 c hc
 |[],_::_,h=>by simp[qJ]at h|_::_,[],h=>by simp[qJ]at h
end Ax
namespace Ax
open Go
variable {P:Program}{w:World}{G:bp}
theorem nh{t:TypeId}{n:Nat}(h:dz P t n=true):∃i,P.info? t=some i/\i.size=n/\P.cellsOf t=n:=by
 unfold dz at h;split at h;rename_i i hi;exact⟨i,hi,by simpa using h,by simp[Program.cellsOf,hi];simpa using h⟩;cases h
theorem fo{t:TypeId}{n:Nat}(h:dz P t n=true)(w:World):(Go.sizeOf t).run P w=.ok n w:=by
 obtain⟨i,hi,hs,hc⟩:=nh h;rw[run_sizeOf w hi,hc]
def cF(w:World)(G:bp)(as:List AV)(xs:List Value):Prop:=as.length=xs.length/\∀(i:Nat) c v,as[i]?=some c->xs[i]?=some v->bC w G c v
theorem T1{t:TypeId}{k:SK}{a b:AV}{x y:Value}{r:Bool}(ht:pG P t k=true)(h:AG k a b=some r)(ha:bC w G a x)(hb:bC w G b y)(D:Nat)(w':World) :
  (Op.equalIn (D+1) t x y).run P w'=.ok r w':=by
 unfold AG at h;split at h;cases h;rw[ha.jT,hb.jT];have hu:P.underlying t=some .bool:=by
  unfold pG at ht;simp only at ht;split at ht<;>simp_all
 exact run_equalIn_bool w' D t _ _ hu;split at h;rename_i k1 p k2 q hk;cases h;subst hk;rw[ha.jP,hb.jP];have hu:∃q,P.underlying t=some (.int q):=by
  unfold pG at ht;simp only at ht;split at ht;exact⟨_,by assumption⟩;cases ht
 obtain⟨q,hu⟩:=hu;exact run_equalIn_int w' D t _ q _ _ hu;cases h;cases h;obtain⟨s,rfl,rfl⟩:=ha.mT;obtain⟨s',rfl,rfl⟩:=hb.mT;have hu:P.underlying t=some .string:=by
  unfold pG at ht;simp only at ht;split at ht<;>simp_all
 rw[run_equalIn_string w' D t _ _ hu,ByteArray.toList_eq,ByteArray.toList_eq];cases h
theorem C3:∀(k1 k2:List SK)(a b:List AV)(r:Bool),AH (k1++k2) a b=some r->
  ∃r1 r2,AH k1 (a.take k1.length) (b.take k1.length)=some r1/\AH k2 (a.drop k1.length) (b.drop k1.length)=some r2/\r=(r1&&r2)
 |[],k2,a,b,r,h=>⟨true,r,by simp[AH],by simpa using h,by simp⟩
 |k::k1,k2,[],b,r,h=>by cases b<;>simp[AH]at h|k::k1,k2,a::as,[],r,h=>by simp[AH]at h|k::k1,k2,a::as,b::bs,r,h=>by
  simp only[List.cons_append,AH]at h;split at h;rename_i p q hp hq;cases h;obtain⟨r1,r2,e1,e2,rfl⟩:=C3 k1 k2 as bs q hq;exact⟨p&&r1,r2,by simp[AH,hp,e1],by simpa using e2,by simp[Bool.and_assoc]⟩;cases h
theorem C4:∀(ks:List SK)(a b:List AV)(r:Bool),AH ks a b=some r->a.length=ks.length/\b.length=ks.length
 |[],[],[],_,_=>⟨rfl,rfl⟩
 |[],[],_::_,_,h=>by simp[AH]at h|[],_::_,_,_,h=>by simp[AH]at h|_::_,[],_,_,h=>by simp[AH]at h|_::_,_::_,[],_,h=>by simp[AH]at h|k::ks,a::as,b::bs,r,h=>by
  simp only[AH]at h;split at h;rename_i p q hp hq;obtain⟨e1,e2⟩:=C4 ks as bs q hq;simp[e1,e2];cases h
theorem zl{t:TypeId}{fs:Array Field}{n off:Nat}(hu:P.underlying t=some (.struct fs))(hn:dz P t n=true)(xs:Array Value)(w:World) :
  (part t xs off).run P w=.ok (.agg (xs.extract off (off+n))) w:=by
 simp[part,isAgg,run_underlying hu,fo hn]
theorem Br{t:TypeId}{k:SK}{off:Nat}{v:Value}(hk:pG P t k=true){xs:Array Value}(hx:xs[off]?=some v)(w:World) :
  (part t xs off).run P w=.ok v w:=by
 refine run_part_plain w ?_ hx;unfold pG at hk;unfold Program.plainKey;cases k<;>simp only at hk<;>split at hk<;>simp_all
theorem cF.take{as:List AV}{xs:List Value}(h:cF w G as xs)(n:Nat):cF w G (as.take n) (xs.take n):=by
 refine⟨by simp[h.1],λi c v hc hv=>?_⟩;rw[List.getElem?_take]at hc hv;split at hc;rename_i hi;rw[if_pos hi]at hv;exact h.2 i c v hc hv;cases hc
theorem cF.drop{as:List AV}{xs:List Value}(h:cF w G as xs)(n:Nat):cF w G (as.drop n) (xs.drop n):=by
 refine⟨by simp[h.1],λi c v hc hv=>?_⟩;rw[List.getElem?_drop]at hc hv;exact h.2 _ c v hc hv
def acq(P:Program)(G:bp)(w:World)(D:Nat)(t:TypeId)(ks:List SK):Prop:=
 (∃k,ks=[k]/\pG P t k=true)\/
 (∃fs,P.underlying t=some (.struct fs))/\∀(xs ys:Array Value) (as bs:List AV) (r:Bool),cF w G as xs.toList->cF w G bs ys.toList->AH ks as bs=some r->
  (Op.equalIn D t (.agg xs) (.agg ys)).run P w=.ok r w
theorem zm(D:Nat)(xs ys:Array Value)(as bs:List AV)(hx:cF w G as xs.toList)(hy:cF w G bs ys.toList)(rec:TypeId->Option (List SK))
  (acr:∀t ks,rec t=some ks->acq P G w (D+1) t ks):∀(fs:List Field) (off:Nat) (ks:List SK) (r:Bool),CZ P rec off fs=some ks->AH ks (as.drop off) (bs.drop off)=some r->
  (Op.eqFields (D+1) xs ys fs).run P w=.ok r w
 |[],off,ks,r,h,he=>by
  simp only[CZ,Option.some.injEq]at h;subst h;cases ha:as.drop off<;>cases hb:bs.drop off<;>rw[ha,hb]at he<;>simp[AH]at he;subst he;simp[Op.eqFields]
 |f::fs,off,ks,r,h,he=>by
  unfold CZ at h;split at h;rename_i hc;simp only[Bool.and_eq_true,decide_eq_true_eq,bne_iff_ne]at hc;split at h;rename_i kf hkf;split at h;rename_i qe;split at h;rename_i kr Kz;cases h;obtain⟨r1,r2,e1,e2,rfl⟩:=C3 kf kr _ _ r he;have ih:=zm D xs ys as bs hx hy rec acr fs (off+kf.length) kr r2 Kz (by simpa [List.drop_drop] using e2);have hf : f.name ≠ "_" := hc.2
  have step:∃a b,(part f.type xs f.offset).run P w=.ok a w/\(part f.type ys f.offset).run P w=.ok b w/\(Op.equalIn (D+1) f.type a b).run P w=.ok r1 w:=by
   rw[hc.1];obtain⟨l1,l2⟩:=C4 _ _ _ _ e1;rcases acr _ _ hkf with⟨k,rfl,hk⟩|⟨⟨gs,hu⟩,ku⟩;simp only[List.length_cons,List.length_nil,Nat.zero_add]at e1 l1 l2;have ha:∃a,as[off]?=some a:=by
    cases h:as[off]? with
    |some a=>exact⟨a,rfl⟩|none=>rw[List.getElem?_eq_none_iff]at h;simp at l1;omega
   have hb:∃b,bs[off]?=some b:=by
    cases h:bs[off]? with
    |some a=>exact⟨a,rfl⟩|none=>rw[List.getElem?_eq_none_iff]at h;simp at l2;omega
   obtain⟨a,ha⟩:=ha;obtain⟨b,hb⟩:=hb;have Kj:off<xs.size:=(by have:=(List.getElem?_eq_some_iff.1 ha).1;have:=hx.1;simp at this;omega);have NK:off<ys.size:=(by have:=(List.getElem?_eq_some_iff.1 hb).1;have:=hy.1;simp at this;omega);have hxa:=hx.2 off a xs[off] ha (by simp[Kj]);have hyb:=hy.2 off b ys[off] hb (by simp[NK]);refine⟨xs[off],ys[off],Br hk (by simp[Kj]) w,Br hk (by simp[NK]) w,?_⟩;have:AG k a b=some r1:=by
    have t1:(as.drop off).take 1=[a]:=by
     rw[List.drop_eq_getElem_cons (List.getElem?_eq_some_iff.1 ha).1,(List.getElem?_eq_some_iff.1 ha).2];simp
    have t2:(bs.drop off).take 1=[b]:=by
     rw[List.drop_eq_getElem_cons (List.getElem?_eq_some_iff.1 hb).1,(List.getElem?_eq_some_iff.1 hb).2];simp
    rw[t1,t2]at e1;simp only[AH]at e1;split at e1;rename_i p q hp hq;cases hq;simpa [hp] using e1;cases e1
   exact T1 hk this hxa hyb D w;refine⟨_,_,zl hu qe xs w,zl hu qe ys w,ku _ _ _ _ _ ?_ ?_ e1⟩;have:=(hx.drop off).take kf.length;simpa [Array.toList_extract,List.extract] using this;have:=(hy.drop off).take kf.length;simpa [Array.toList_extract,List.extract] using this
  obtain⟨a,b,p1,p2,p3⟩:=step;simp only[Op.eqFields,hf,ne_eq,not_false_eq_true,if_true,Sem.run_bind,p1,p2,p3,Result.andThen_ok];cases r1;simp;simpa using ih;cases h;cases h;cases h;cases h
theorem IA:∀(d D:Nat)(t:TypeId)(ks:List SK),d<=D->C0 P d t=some ks->acq P G w (D+1) t ks
 |0,_,_,_,_,h=>by simp[C0]at h|d+1,D,t,ks,hd,h=>by
  unfold C0 at h;split at h;cases h;exact .inl ⟨.bool,rfl,by unfold pG;simp[*]⟩;cases h;exact .inl ⟨.int,rfl,by unfold pG;simp[*]⟩;cases h;exact .inl ⟨.str,rfl,by unfold pG;simp[*]⟩;rename_i fs hu;split at h;cases h;rename_i hs;refine .inr ⟨⟨fs,hu⟩,λxs ys as bs r hx hy he=>?_⟩;have hfs:P.fieldsOf t=fs:=by simp[Program.fieldsOf,hu]
  rw[run_equalIn_struct w D t xs ys (by rw[hfs];exact hu) (by simpa using hs),hfs];obtain⟨D',rfl⟩:∃D',D=D'+1:=⟨D-1,by omega⟩;exact zm D' xs ys as bs hx hy (C0 P d) (λt ks h=>IA d D' t ks (by omega) h) fs.toList 0 ks r h (by simpa using he);cases h
theorem NL{t:TypeId}(h:xR P t (.sc .bool)=true):P.underlying t=some .bool:=by
 simp only[xR]at h;split at h
 assumption
 cases h
theorem PN{t:TypeId}(h:xR P t .ptr=true):∃e,P.underlying t=some (.pointer e):=by
 simp only[xR]at h;split at h;exact⟨_,by assumption⟩;cases h
theorem Mk{t:TypeId}(h:xR P t .sl=true):∃e,P.underlying t=some (.slice e):=by
 simp only[xR]at h;split at h;exact⟨_,by assumption⟩;cases h
theorem T2{t:TypeId}(h:xR P t .fn=true):∃a b c,P.underlying t=some (.func a b c):=by
 simp only[xR]at h;split at h;exact⟨_,_,_,by assumption⟩;cases h
def Ml(x:Value):Prop:=(∀k n,x≠.int k n)/\(∀k n,x≠.float k n)/\(∀s,x≠.string s)/\(∀k r i,x≠.complex k r i)
theorem cM(t:TypeId){x y:Value}(h1:x≠.nilIface)(h2:∀cs,x≠.agg cs)(op:BinOp)(xo yo:Operand)(w:World):(eqGuard op t xo yo x y).run P w=.ok () w:=by
 cases op<;>cases x<;>simp_all [eqGuard]
theorem T4{t:TypeId}{k:EqK}{a b:AV}{x y:Value}{r:Bool}(ht:xR P t k=true)(h:Cu k a b=some r)(ha:bC w G a x)(hb:bC w G b y) :
  (Op.equal t x y).run P w=.ok r w/\(∀op (xo yo:Operand),(eqGuard op t xo yo x y).run P w=.ok () w)/\Ml x:=by
 unfold Op.equal Op.maxDepth;cases k with
 |sc k=>
  cases k with
  |bool=>
   simp only[Cu]at h;have hu:=NL ht;unfold AG at h;split at h<;>try cases h
   rw[ha.jT,hb.jT];exact⟨run_equalIn_bool w 9999 t _ _ hu,λop xo yo=>cM t (by simp) (by simp) op xo yo w,by simp,by simp,by simp,by simp⟩;all_goals simp_all
  |int=>simp[xR]at ht|str=>simp[xR]at ht
 |flat ks=>
  unfold Cu at h;split at h<;>try (cases h;done)
  all_goals try (rename_i heq;cases heq;done)
  rename_i ks' as bs heq;cases heq;cases ha with
  |agg _ xs hl hx=>
   cases hb with
   |agg _ ys sJ hy=>
    simp only[xR,Bool.and_eq_true,Bool.not_eq_true']at ht;obtain⟨⟨hu,hf⟩,hg⟩:=ht;have hfk:C0 P 20 t=some ks:=(by simpa using hf);refine⟨?_,λop xo yo=>run_eqGuard_agg w op t xo yo xs ys hg,by simp,by simp,by simp,by simp⟩;rcases IA (w:=w) (G:=G) 20 9999 t ks (by omega) hfk with⟨k,rfl,hk⟩|⟨_,ku⟩;exfalso;unfold pG at hk;cases k<;>simp only at hk<;>split at hk<;>simp_all;exact ku xs ys as bs r ⟨by simpa using hl,λi c v h1 h2=>hx i c v h1 (by simpa using h2)⟩ ⟨by simpa using sJ,λi c v h1 h2=>hy i c v h1 (by simpa using h2)⟩ h
 |ptr=>
  obtain⟨e,hu⟩:=PN ht;have key:∀(p q:Option Addr) (r:Bool),(p=none/\r=q.isNone\/q=none/\r=p.isNone)->(Op.equalIn (9999+1) t (.pointer p) (.pointer q)).run P w=.ok r w:=by
   generalize 9999=D;intro p q r h;rcases h with⟨rfl,rfl⟩|⟨rfl,rfl⟩;cases q<;>simp[Op.equalIn,run_underlying hu];cases p<;>simp[Op.equalIn,run_underlying hu]
  have inv:∀{a x},bC w G a x->(a=.fF->x=.pointer none)/\(∀i v k l,a=.ptr i v k l->∃p,x=.pointer (some p))/\(∀i v k l,a=.qd i v k l->∃p,x=.pointer (some p)):=by
   intro a x h;refine⟨λe=>by subst e;cases h;rfl,λi v k l e=>by subst e;cases h with|ptr _ _ _ _ _ loc hp=>exact hp,λi v k l e=>by subst e;cases h;exact⟨_,rfl⟩⟩
  unfold Cu at h;split at h<;>try (cases h;done)
  all_goals try (rename_i heq;cases heq;done)
  cases h;rw[(inv ha).1 rfl,(inv hb).1 rfl];exact⟨key _ _ _ (.inl ⟨rfl,rfl⟩),λop xo yo=>cM t (by simp) (by simp) op xo yo w,by simp,by simp,by simp,by simp⟩;cases h;obtain⟨p,hp⟩:=(inv hb).2.1 _ _ _ _ rfl;rw[(inv ha).1 rfl,hp];exact⟨key _ _ _ (.inl ⟨rfl,rfl⟩),λop xo yo=>cM t (by simp) (by simp) op xo yo w,by simp,by simp,by simp,by simp⟩;cases h;obtain⟨p,hp⟩:=(inv hb).2.2 _ _ _ _ rfl;rw[(inv ha).1 rfl,hp];exact⟨key _ _ _ (.inl ⟨rfl,rfl⟩),λop xo yo=>cM t (by simp) (by simp) op xo yo w,by simp,by simp,by simp,by simp⟩;cases h;obtain⟨p,hp⟩:=(inv ha).2.1 _ _ _ _ rfl;rw[(inv hb).1 rfl,hp];exact⟨key _ _ _ (.inr ⟨rfl,rfl⟩),λop xo yo=>cM t (by simp) (by simp) op xo yo w,by simp,by simp,by simp,by simp⟩;cases h;obtain⟨p,hp⟩:=(inv ha).2.2 _ _ _ _ rfl;rw[(inv hb).1 rfl,hp];exact⟨key _ _ _ (.inr ⟨rfl,rfl⟩),λop xo yo=>cM t (by simp) (by simp) op xo yo w,by simp,by simp,by simp,by simp⟩
 |sl=>
  obtain⟨e,hu⟩:=Mk ht;have T5:∀(q:Option Addr) (n c:Nat),(Op.equalIn (9999+1) t (.slice none 0 0) (.slice q n c)).run P w=.ok q.isNone w:=by
   generalize 9999=D;intro q n c;simp[Op.equalIn,run_underlying hu]
  have PO:∀(q:Option Addr) (n c:Nat),(Op.equalIn (9999+1) t (.slice q n c) (.slice none 0 0)).run P w=.ok q.isNone w:=by
   generalize 9999=D;intro q n c;cases q<;>simp[Op.equalIn,run_underlying hu]
  have inv:∀{a x},bC w G a x->(a=.U->x=.slice none 0 0)/\(∀s r,a=.dL s r->∃p n c,x=.slice (some p) n c)/\(∀s r,a=.iO s r->∃p n c,x=.slice (some p) n c)/\(a=.mK->∃p n c,x=.slice (some p) n c):=by
   intro a x h;refine⟨λe=>by subst e;cases h;rfl,λs r e=>by subst e;cases h;exact⟨_,_,_,rfl⟩,λs r e=>by subst e;cases h;exact⟨_,_,_,rfl⟩,λe=>by subst e;cases h;exact⟨_,_,_,rfl⟩⟩
  unfold Cu at h;split at h<;>try (cases h;done)
  all_goals try (rename_i heq;cases heq;done)
  cases h;rw[(inv ha).1 rfl,(inv hb).1 rfl];exact⟨T5 _ _ _,λop xo yo=>cM t (by simp) (by simp) op xo yo w,by simp,by simp,by simp,by simp⟩;cases h;obtain⟨p,n,c,hp⟩:=(inv hb).2.1 _ _ rfl;rw[(inv ha).1 rfl,hp];exact⟨T5 _ _ _,λop xo yo=>cM t (by simp) (by simp) op xo yo w,by simp,by simp,by simp,by simp⟩;cases h;obtain⟨p,n,c,hp⟩:=(inv hb).2.2.1 _ _ rfl;rw[(inv ha).1 rfl,hp];exact⟨T5 _ _ _,λop xo yo=>cM t (by simp) (by simp) op xo yo w,by simp,by simp,by simp,by simp⟩;cases h;obtain⟨p,n,c,hp⟩:=(inv hb).2.2.2 rfl;rw[(inv ha).1 rfl,hp];exact⟨T5 _ _ _,λop xo yo=>cM t (by simp) (by simp) op xo yo w,by simp,by simp,by simp,by simp⟩;cases h;obtain⟨p,n,c,hp⟩:=(inv ha).2.1 _ _ rfl;rw[(inv hb).1 rfl,hp];exact⟨PO _ _ _,λop xo yo=>cM t (by simp) (by simp) op xo yo w,by simp,by simp,by simp,by simp⟩;cases h;obtain⟨p,n,c,hp⟩:=(inv ha).2.2.1 _ _ rfl;rw[(inv hb).1 rfl,hp];exact⟨PO _ _ _,λop xo yo=>cM t (by simp) (by simp) op xo yo w,by simp,by simp,by simp,by simp⟩;cases h;obtain⟨p,n,c,hp⟩:=(inv ha).2.2.2 rfl;rw[(inv hb).1 rfl,hp];exact⟨PO _ _ _,λop xo yo=>cM t (by simp) (by simp) op xo yo w,by simp,by simp,by simp,by simp⟩
 |fn=>
  obtain⟨e1,e2,e3,hu⟩:=T2 ht;have k1:∀D,(Op.equalIn (D+1) t .nilFunc .nilFunc).run P w=.ok true w:=λD=>by simp[Op.equalIn,run_underlying hu]
  have k2:∀D f p q,(Op.equalIn (D+1) t .nilFunc (.func f p q)).run P w=.ok false w:=λD f p q=>by simp[Op.equalIn,run_underlying hu]
  have k3:∀D f p q,(Op.equalIn (D+1) t (.func f p q) .nilFunc).run P w=.ok false w:=λD f p q=>by simp[Op.equalIn,run_underlying hu]
  have inv:∀{a x},bC w G a x->(a=.jc->x=.nilFunc)/\(∀f b c,a=.fn f b c->∃p q,x=.func (.func f) p q):=by
   intro a x h;refine⟨λe=>by subst e;cases h;rfl,λs r c e=>by subst e;cases h;exact⟨_,_,rfl⟩⟩
  unfold Cu at h;split at h<;>try (cases h;done)
  all_goals try (rename_i heq;cases heq;done)
  cases h;rw[(inv ha).1 rfl,(inv hb).1 rfl];exact⟨k1 9999,λop xo yo=>cM t (by simp) (by simp) op xo yo w,by simp,by simp,by simp,by simp⟩;cases h;obtain⟨p,q,hp⟩:=(inv hb).2 _ _ _ rfl;rw[(inv ha).1 rfl,hp];exact⟨k2 9999 _ _ _,λop xo yo=>cM t (by simp) (by simp) op xo yo w,by simp,by simp,by simp,by simp⟩;cases h;obtain⟨p,q,hp⟩:=(inv ha).2 _ _ _ rfl;rw[(inv hb).1 rfl,hp];exact⟨k3 9999 _ _ _,λop xo yo=>cM t (by simp) (by simp) op xo yo w,by simp,by simp,by simp,by simp⟩
end Ax
namespace Ax
open Go
variable {P:Program}{w:World}{G:bp}{β:List m9}{ρ:Operand->Value}{o:Oper}
structure vH (w:World)(G:bp)(sz:Nat)(rows:List (List AV))(loc:mC):Prop where
 FE:bN sz rows=true
 E1:∀r∈rows,AV.bq r=true
 len:loc.len=rows.length
 size:loc.sz=sz
 tj:loc.vals.length=rows.length
 tZ:∀(i:Nat) r xs,rows[i]?=some r->loc.vals[i]?=some xs->cF w G r xs
 sK:(loc.cap=0/\rows=[]/\loc.a.isSome=true)\/∃b off c e,loc.a=some ⟨b,off,none⟩/\0<loc.cap/\w.heap[b]?=some (.cells c e (0,0))/\off+loc.cap*sz<=c.size/\rows.length<=loc.cap/\
  G.mM b=some 0/\∀(i:Nat) xs (j:Nat) x,loc.vals[i]?=some xs->xs[j]?=some x->w.cell? ⟨b,off+(i*sz+j),none⟩=some x
theorem vH.cell{sz:Nat}{rows:List (List AV)}{loc:mC}(h:vH w G sz rows loc){b off:Nat}(hc:∀(i:Nat) xs (j:Nat) x,loc.vals[i]?=some xs->xs[j]?=some x->w.cell? ⟨b,off+(i*sz+j),none⟩=some x) :
  ∀(i:Nat) r (j:Nat) x,rows[i]?=some r->r[j]?=some x->∃v,w.cell? ⟨b,off+(i*sz+j),none⟩=some v/\bC w G x v:=by
 intro i r j x h1 h2;have hi:i<loc.vals.length:=by rw[h.tj];exact(List.getElem?_eq_some_iff.1 h1).1
 have hv:=List.getElem?_eq_getElem hi;obtain⟨e1,e2⟩:=h.tZ i r _ h1 hv;have hj:j<loc.vals[i].length:=by rw[<-e1];exact(List.getElem?_eq_some_iff.1 h2).1
 exact⟨_,hc i _ j _ hv (List.getElem?_eq_getElem hj),e2 j x _ h2 (List.getElem?_eq_getElem hj)⟩
def qY(w:World)(G:bp):dy->mC->Prop
 |.rows cy sz rows,loc=>loc.mp=false/\loc.cy=cy/\vH w G sz rows loc|.map es,loc=>loc.mp=true/\loc.cap=1/\∃b vC clock,loc.a=some ⟨b,0,none⟩/\w.heap[b]?=some (.map vC clock)/\G.mM b=some 0/\vC.size=es.length/\
   ∀(i:Nat) k v e,es[i]?=some (k,v)->vC[i]?=some e->bC w G k e.key/\bC w G v e.val/\v.cC=true/\k.cC=true
structure jQ (w:World)(G:bp)(st:aj):Prop where
 len:G.ls.length=st.length
 aT:∀(id:Nat) ob loc,st[id]?=some ob->G.ls[id]?=some loc->qY w G ob loc
 nO:∀b p,G.mM b=some p->b<w.heap.size
theorem jQ.loc{st:aj}(h:jQ w G st){id:Nat}{ob:dy}(hs:st[id]?=some ob):∃loc,G.ls[id]?=some loc/\qY w G ob loc:=by
 have hi:id<st.length:=(List.getElem?_eq_some_iff.1 hs).1;have:id<G.ls.length:=by rw[h.len];exact hi
 exact⟨G.ls[id],List.getElem?_eq_getElem this,h.aT id ob _ hs (List.getElem?_eq_getElem this)⟩
theorem PT{st:aj}(hI:jQ w G st){a:AV}{v:Value}{rows:List (List AV)}(h:bC w G a v)(hr:fJ st a=some rows) :
  ∃p n c,v=.slice p n c/\n=rows.length:=by
 unfold fJ at hr;split at hr;cases hr;cases h;exact⟨_,_,_,rfl,rfl⟩;cases hr;cases h;exact⟨_,_,_,rfl,rfl⟩;cases hr;cases h;exact⟨_,_,_,rfl,rfl⟩;cases hr;cases h;exact⟨_,_,_,rfl,rfl⟩;rename_i id cy;split at hr;rename_i v' sz eS iu;split at hr;rename_i hv;cases hr;obtain⟨loc,hl,ho⟩:=hI.loc iu;cases h with
 |mu _ _ _ loc' hp sJ FC he=>
  rw[hl]at sJ;cases sJ;obtain⟨h1,h2,h3⟩:=ho;refine⟨_,_,_,he (by omega),h3.len⟩
 cases hr;cases hr;cases hr
theorem acs{op:BinOp}{t yt:TypeId}{x y:Operand}(ho:o.op=.binOp op t x y yt){a b v:AV}(hv:B7 op a b=some v)(ha:bC w G a (ρ x))(hb:bC w G b (ρ y)) :
  ∃u,(execOp ρ o).run P w=.ok (.value u) w/\bC w G v u/\v.cC=true:=by
 unfold B7 at hv;split at hv
 ·rename_i k p l q;split at hv
  ·rename_i hk;subst hk;have hx:=ha.jP;have hy:=hb.jP;simp only[execOp,ho,hx,hy];have hg:∀op (w:World),(eqGuard op t x y (.int k p) (.int k q)).run P w=.ok () w:=λop w=>cM t (by simp) (by simp) op x y w;cases op<;>simp only[lM]at hv<;>(try (cases hv;done))<;>(try (split at hv;· cases hv))<;>cases hv;all_goals first
    |(refine⟨_,?_,.int _ _,rfl⟩;simp[binOp,Op.intArith,Op.intBits,hg];done)
    |(refine⟨_,?_,.bool _,rfl⟩;simp[binOp,Op.intCmp,hg];done)
    |(rename_i h0;refine⟨_,?_,.int _ _,rfl⟩;simp[binOp,Op.intDiv,hg,if_neg h0];done)
  cases hv
 rename_i p q;obtain⟨s,hx,rfl⟩:=ha.mT;obtain⟨s',hy,rfl⟩:=hb.mT;simp only[execOp,ho,hx,hy];have hg:∀op (w:World),(eqGuard op t x y (.string s) (.string s')).run P w=.ok () w:=λop w=>cM t (by simp) (by simp) op x y w;have h1:s.data.toList.length=s.size:=by simp
 have h2:s'.data.toList.length=s'.size:=by simp
 split at hv;split at hv;rename_i hle;cases hv;refine⟨.string (s++s'),?_,.str _ _ (by simp),rfl⟩;have:¬(((s.size+s'.size:Nat):Int) > IntKind.i64.max):=by
  rw[h1,h2]at hle;have:IntKind.i64.max=9223372036854775807:=rfl;omega
 simp only[binOp,Op.stringOp,Sem.run_bind,hg,Result.andThen_ok,if_neg this,Sem.run_pure];cases hv;cases hv;exact⟨_,by simp[binOp,Op.stringOp,hg,ByteArray.toList_eq],.bool _,rfl⟩;cases hv;exact⟨_,by simp[binOp,Op.stringOp,hg,ByteArray.toList_eq],.bool _,rfl⟩;cases hv;cases hv
theorem binOp_eql{x:Value}(h:Ml x)(t:TypeId)(y:Value):binOp .eql t x y=(do pure (.bool (<-Op.equal t x y))):=by
 obtain⟨h1,h2,h3,h4⟩:=h;cases x<;>first|rfl|(cases y<;>first|rfl|simp_all)
theorem binOp_neq{x:Value}(h:Ml x)(t:TypeId)(y:Value):binOp .neq t x y=(do pure (.bool (!(<-Op.equal t x y)))):=by
 obtain⟨h1,h2,h3,h4⟩:=h;cases x<;>first|rfl|(cases y<;>first|rfl|simp_all)
theorem acu{t yt:TypeId}{x y:Operand}{k:EqK}{neg:Bool}(ho:o.op=.binOp (if neg then .neq else .eql) t x y yt)(ht:xR P t k=true){a b:AV}{r:Bool}(hr:Cu k a b=some r)
  (ha:bC w G a (ρ x))(hb:bC w G b (ρ y)):∃u,(execOp ρ o).run P w=.ok (.value u) w/\bC w G (.bool (if neg then !r else r)) u:=by
 obtain⟨h1,h2,h3⟩:=T4 ht hr ha hb;refine⟨_,?_,.bool _⟩;simp only[execOp,ho];cases neg;simp[h2,binOp_eql h3,h1];simp[h2,binOp_neq h3,h1]
theorem T6{t yt:TypeId}{x y:Operand}{neg:Bool}(ho:o.op=.binOp (if neg then .neq else .eql) t x y yt)(ht:xR P t .sl=true){st:aj}(hI:jQ w G st){id cy v sz:Nat}{rows:List (List AV)}(iu:st[id]?=some (.rows v sz rows))(hv:v=cy)
  (ha:bC w G (.mu id cy) (ρ x))(hb:bC w G .U (ρ y)):(execOp ρ o).run P w=.ok (.value (.bool neg)) w:=by
 obtain⟨loc,hl,T7⟩:=hI.loc iu;obtain⟨e,hu⟩:=Mk ht;have hy:ρ y=.slice none 0 0:=by
  generalize ρ y=z at hb;cases hb;rfl
 obtain⟨p,n,c,hx⟩:∃p n c,ρ x=.slice (some p) n c:=by
  generalize ρ x=z at ha;cases ha with
  |mu _ _ _ loc' hp sJ FC he=>
   rw[hl]at sJ;cases sJ;obtain⟨h1,h2,h3⟩:=T7;have hz:=he (by omega);rcases h3.sK with⟨_,_,h4⟩|⟨b,off,c,e,h4,_⟩;obtain⟨a,ha⟩:=Option.isSome_iff_exists.1 h4;rw[ha]at hz;exact⟨_,_,_,hz⟩;rw[h4]at hz;exact⟨_,_,_,hz⟩
 have h1:(Op.equal t (ρ x) (ρ y)).run P w=.ok false w:=by
  have PO:∀(q:Option Addr) (n c:Nat),(Op.equalIn (9999+1) t (.slice q n c) (.slice none 0 0)).run P w=.ok q.isNone w:=by
   generalize 9999=D;intro q n c;cases q<;>simp[Op.equalIn,run_underlying hu]
  rw[hx,hy];unfold Op.equal Op.maxDepth;exact PO (some p) n c
 have h2:∀op (xo yo:Operand),(eqGuard op t xo yo (ρ x) (ρ y)).run P w=.ok () w:=by
  rw[hx,hy];exact λop xo yo=>cM t (by simp) (by simp) op xo yo w
 have h3:Ml (ρ x):=by
  rw[hx];exact⟨by simp,by simp,by simp,by simp⟩
 simp only[execOp,ho];cases neg;simp[h2,binOp_eql h3,h1];simp[h2,binOp_neq h3,h1]
theorem agO{op:UnOp}{t:TypeId}{x:Operand}(ho:o.op=.unOp op t x){a v:AV}(hv:Ya op a=some v)(ha:bC w G a (ρ x)) :
  ∃u,(execOp ρ o).run P w=.ok (.value u) w/\bC w G v u/\v.cC=true:=by
 unfold Ya at hv;split at hv;rename_i k p;split at hv;cases hv;refine⟨_,?_,.int _ _,rfl⟩;simp only[execOp,ho,ha.jP];simp[Op.unary,Op.intArith];cases hv;rename_i b;split at hv;cases hv;refine⟨_,?_,.bool _,rfl⟩;simp only[execOp,ho,ha.jT];simp[Op.unary];cases hv;cases hv
theorem Yd{s d:TypeId}{x:Operand}{k k':IntKind}(ho:o.op=.convert s d x)(hs:P.underlying s=some (.int k'))(hd:P.underlying d=some (.int k)){l:IntKind}{n:Int}(ha:bC w G (.int l n) (ρ x)) :
  (execOp ρ o).run P w=.ok (.value (.int k (k.wrap n))) w:=by
 simp only[execOp,ho,ha.jP];simp[convert,run_underlying hs,run_underlying hd,Conv.intToInt]
theorem acv{c:Call}(ho:o.op=.call c)(hc:c.callee=.builtin .len){x:Operand}{t:TypeId}(hx:c.args.toList=[x])(ht:c.argTypes[0]?=some t){k:LK}
  (hu:match k with|.sl=>∃e,P.underlying t=some (.slice e)|.str=>P.underlying t=some .string|.mp=>∃k e,P.underlying t=some (.map k e))
  {st:aj} (hI:jQ w G st) {a:AV} {n:Nat} (hn:ov st k a=some n) (ha:bC w G a (ρ x)) :
  (execOp ρ o).run P w=.ok (.value (.int .i64 n)) w:=by
 have ya:c.args = #[x]:=by
  have:=congrArg List.toArray hx;simpa using this
 simp only[execOp,ho,resolve,hc,Sem.run_bind,Sem.run_pure,Result.andThen_ok,invoke,builtin,ya];simp only[Builtin.len_];unfold ov at hn;split at hn;obtain⟨s',WX,rfl⟩:=ha.mT;cases hn;simp[ht,run_underlying hu,WX,goInt];cases hn;obtain⟨km,em,hu⟩:=hu;cases h:ρ x<;>rw[h]at ha<;>cases ha;simp[ht,run_underlying hu,goInt,h];obtain⟨km,em,hu⟩:=hu;split at hn;rename_i es iu;cases hn;obtain⟨loc,hl,T7⟩:=hI.loc iu;generalize KA:ρ x=xv at ha;cases ha with
 |map _ loc' b sJ hm hb=>
  rw[hl]at sJ;cases sJ;obtain⟨h1,h2,b',vC,clock,h3,h4,h5,h6,h7⟩:=T7;rw[hb]at h3;cases h3;simp[ht,run_underlying hu,KA,goInt,getObj,Sem.run,h4,h6]
 cases hn;obtain⟨e,hu⟩:=hu;split at hn;rename_i rows hr;cases hn;obtain⟨p,m,cc,WX,rfl⟩:=PT hI ha hr;simp[ht,run_underlying hu,WX,goInt];cases hn;cases hn
end Ax
namespace Ax
open Go
theorem eU{α:Type}:∀(cs:List α)(k:Nat)(vs:List α),(ag cs k vs).length=cs.length
 |[],0,[]=>rfl|[],0,_::_=>rfl|[],_+1,_=>rfl|_::_,0,[]=>rfl|_::cs,0,_::vs=>by simp[ag,eU cs 0 vs]|_::cs,k+1,vs=>by simp[ag,eU cs k vs]
theorem ju{α:Type}:∀(cs:List α)(k:Nat)(vs:List α)(i:Nat),k+vs.length<=cs.length->
  (ag cs k vs)[i]?=if k<=i/\i<k+vs.length then vs[i-k]? else cs[i]?
 |[],0,[],i,_=>by simp[ag]|[],0,_::_,i,h=>by simp at h|[],k+1,vs,i,h=>by simp at h|c::cs,0,[],i,_=>by simp[ag]|c::cs,0,v::vs,0,_=>by simp[ag]|c::cs,0,v::vs,i+1,h=>by
  have:=ju cs 0 vs i (by simp at h ⊢;omega);simp only[ag,List.getElem?_cons_succ,this,List.length_cons,Nat.zero_add,Nat.sub_zero,Nat.zero_le,true_and];by_cases hi:i<vs.length;simp[hi];simp[hi]
 |c::cs,k+1,vs,0,h=>by simp[ag]|c::cs,k+1,vs,i+1,h=>by
  have:=ju cs k vs i (by simp at h;omega);simp only[ag,List.getElem?_cons_succ,this];by_cases hi:k<=i/\i<k+vs.length;rw[if_pos hi,if_pos (by omega),show i+1-(k+1)=i-k by omega];rw[if_neg hi,if_neg (by omega)]
theorem jU{α:Type}(cs:List α)(k:Nat)(vs:List α)(h:k+vs.length<=cs.length):ag cs k vs=cs.take k++vs++cs.drop (k+vs.length):=by
 apply List.ext_getElem?;intro i;rw[ju cs k vs i h];by_cases h1:i<k;rw[if_neg (by omega),List.getElem?_append_left (by simp;omega),List.getElem?_append_left (by simp;omega),List.getElem?_take,if_pos h1];by_cases h2:i<k+vs.length;rw[if_pos (by omega),List.getElem?_append_left (by simp;omega),List.getElem?_append_right (by simp;omega)];simp only[List.length_take];rw[Nat.min_eq_left (by omega)];rw[if_neg (by omega),List.getElem?_append_right (by simp;omega)];simp only[List.length_append,List.length_take,List.getElem?_drop];rw[Nat.min_eq_left (by omega)];congr 1;omega
theorem C5(b:Nat)(xs:List Value):cu b [] xs=0:=by cases xs<;>rfl
theorem gH(b:Nat):∀(as bs:List AV)(xs ys:List Value),as.length=xs.length->cu b (as++bs) (xs++ys)=cu b as xs+cu b bs ys
 |[],bs,[],ys,_=>by simp[cu]|[],_,_::_,_,h=>by simp at h|_::_,_,[],_,h=>by simp at h|a::as,bs,x::xs,ys,h=>by
  simp only[List.cons_append,cu];rw[gH b as bs xs ys (by simpa using h)];omega
theorem lP(b n:Nat)(as:List AV)(xs:List Value)(h:as.length=xs.length):cu b as xs=cu b (as.take n) (xs.take n)+cu b (as.drop n) (xs.drop n):=by
 rw[<-gH b _ _ _ _ (by simp[h]),List.take_append_drop,List.take_append_drop]
theorem FF(b n:Nat)(as:List AV)(xs:List Value)(h:as.length=xs.length):cu b (as.drop n) (xs.drop n)<=cu b as xs:=by
 have:=lP b n as xs h;omega
theorem NN(b n:Nat)(as:List AV)(xs:List Value)(h:as.length=xs.length):cu b (as.take n) (xs.take n)<=cu b as xs:=by
 have:=lP b n as xs h;omega
theorem qZ(b:Nat)(as vs:List AV)(xs ys:List Value)(k:Nat)(h1:as.length=xs.length)(h2:vs.length=ys.length)(h:k+vs.length<=as.length) :
  cu b (ag as k vs) (ag xs k ys)<=cu b as xs+cu b vs ys:=by
 rw[jU _ _ _ h,jU _ _ _ (by omega)];rw[gH b _ _ _ _ (by simp;omega),gH b _ _ _ _ (by simp;omega)];have e1:=lP b k as xs h1;have e2:=FF b vs.length (as.drop k) (xs.drop k) (by simp;omega);rw[List.drop_drop,List.drop_drop]at e2;rw[h2]at *;omega
section
variable {w:World}{G:bp}
theorem cF.ag{as vs:List AV}{xs ys:List Value}(h:cF w G as xs)(k:cF w G vs ys){n:Nat}(hn:n+vs.length<=as.length):cF w G (Ax.ag as n vs) (Ax.ag xs n ys):=by
 refine⟨by rw[eU,eU];exact h.1,λi c v hc hv=>?_⟩;have h1:=h.1;have h2:=k.1;rw[ju _ _ _ _ hn]at hc;rw[ju _ _ _ _ (by omega)]at hv;rw[<-h2]at hv;split at hc;rename_i hi;rw[if_pos hi]at hv;exact k.2 _ c v hc hv;rename_i hi;rw[if_neg hi]at hv;exact h.2 _ c v hc hv
theorem bC.cells{a:AV}{v:Value}(h:bC w G a v):cF w G a.cells v.cells.toList/\∀b,cu b a.cells v.cells.toList=gu b a v:=by
 have one:∀{a:AV} {v:Value},bC w G a v->(∀cs,a≠.agg cs)->(∀cs,v≠.agg cs)->cF w G a.cells v.cells.toList/\∀b,cu b a.cells v.cells.toList=gu b a v:=by
  intro a v h h1 h2;have e1:a.cells=[a]:=by cases a<;>first|rfl|exact absurd rfl (h1 _)
  have e2:v.cells = #[v]:=by cases v<;>first|rfl|exact absurd rfl (h2 _)
  rw[e1,e2];refine⟨⟨rfl,λi c x hc hx=>?_⟩,λb=>by simp[cu]⟩;cases i with
  |zero=>simp at hc hx;subst hc;subst hx;exact h|succ i=>simp at hc
 cases a with
 |agg cs=>
  cases h with
  |agg _ vs hl hh=>exact⟨⟨by simpa [AV.cells,Value.cells] using hl,λi c x hc hx=>hh i c x hc (by simpa [Value.cells] using hx)⟩,λb=>by simp[AV.cells,Value.cells,gu]⟩
 |gone=>
  refine one h (by simp) λcs e=>?_;subst e;cases h with|gone _ h=>simp[Value.oneCell']at h
 |mu id cy=>
  refine one h (by simp) λcs e=>?_;subst e;cases h with|mu _ _ _ _ hp=>obtain⟨p,n,c,hp⟩:=hp;cases hp
 |ptr id cy i k=>
  refine one h (by simp) λcs e=>?_;subst e;cases h with|ptr _ _ _ _ _ _ hp=>obtain⟨p,hp⟩:=hp;cases hp
 |undef=>refine one h (by simp) λcs e=>?_;subst e;generalize hx:Value.agg cs=x at h;cases h;cases hx|bool _|int _ _|str _|fF|U|gn|jc|ke|fm _|dL _ _|iO _ _|raw _ _|mK|qd _ _ _ _|map _|fn _ _ _=>
  refine one h (by simp) λcs e=>?_;subst e;cases h
theorem PU{a:AV}{v:Value}(h:bC w G a v)(hc:a.cx=true):v.oneCell'=true:=by
 cases h with
 |agg _ _ _ _=>simp[AV.cx]at hc|fm _ _ _ _=>simp[AV.cx]at hc|undef=>simp[AV.cx]at hc|gone _ h=>exact h|mu _ _ _ _ hp=>obtain⟨p,n,c,rfl⟩:=hp;rfl|ptr _ _ _ _ _ _ hp=>obtain⟨p,rfl⟩:=hp;rfl|_=>rfl
theorem cF.Ye{as:List AV}{xs:List Value}(h:cF w G as xs)(hc:AV.bq as=true):∀v∈xs,v.oneCell'=true:=by
 intro v hv;obtain⟨i,hi,rfl⟩:=List.mem_iff_getElem.1 hv;have rV:i<as.length:=by have:=h.1;omega
 refine PU (h.2 i as[i] xs[i] (List.getElem?_eq_getElem rV) (List.getElem?_eq_getElem hi)) ?_;simp only[AV.bq,List.all_eq_true]at hc;exact hc _ (List.getElem_mem rV)
theorem cF.mono{as:List AV}{xs:List Value}{w':World}{G':bp}(h:cF w G as xs)(hs:sH w G w' G')(ho:∀b,0<cu b as xs->G'.mM b=G.mM b/\w'.heap[b]?=w.heap[b]?):cF w' G' as xs:=
 ⟨h.1,λi c v hc hv=>(h.2 i c v hc hv).jK hs λb hb=>ho b (by have:=vG b as xs i c v hc hv;omega)⟩
end
theorem KB(off:Nat)(l:List Value)(cs:Array Value)(h:off+l.length<=cs.size) :
  (l.toArray.zipIdx.foldl (λcs (c,j)=>cs.setIfInBounds (off+j) c) cs).toList=ag cs.toList off l:=by
 have key:∀(l:List Value) (s:Nat) (cs:Array Value),off+s+l.length<=cs.size->
   ((l.zipIdx s).foldl (λ(cs:Array Value) (x:Value×Nat)=>cs.setIfInBounds (off+x.2) x.1) cs).toList=ag cs.toList (off+s) l:=by
  intro l;induction l with
  |nil=>intro s cs h;simp;rw[jU _ _ _ (by simpa using h)];simp|cons v l ih=>
   intro s cs h;simp only[List.length_cons]at h;rw[List.zipIdx_cons,List.foldl_cons,ih (s+1) _ (by simp;omega)];simp only[Array.toList_setIfInBounds];apply List.ext_getElem?;intro i;rw[ju _ _ _ _ (by simp;omega),ju _ _ _ _ (by simp;omega)];simp only[List.length_cons];by_cases hi:i=off+s;subst hi;rw[if_neg (by omega),if_pos (by omega),List.getElem?_set_self (by simp;omega)];simp;by_cases h2:off+s<=i/\i<off+s+(l.length+1);rw[if_pos (by omega),if_pos h2];have:i-(off+s)=(i-(off+(s+1)))+1:=by omega
   rw[this,List.getElem?_cons_succ];rw[if_neg (by omega),if_neg h2,List.getElem?_set,if_neg (by omega)]
 have:=key l 0 cs (by simpa using h);simp only[Nat.add_zero]at this;rw[<-this,<-Array.foldl_toList];simp
end Ax
