/- Part of a proof. -/
import Derived.Calls
import Derived.Laws.Sem
import Derived.Laws.Entries
import Derived.ChangeKeysEq
import Derived.Laws.StructEq
import Derived.Laws.Pointers
import Derived.Great.FillDense

namespace Ax
open Go
inductive AV where
 |undef|gone
 |bool (b:Bool)|int (k:IntKind) (n:Int)|str (s:List UInt8)
 |fF|U|gn|jc|kg
 |agg (cs:List AV)|fm (vs:List AV)
 |dM (sz:Nat) (rows:List (List AV))
 |iO (sz:Nat) (rows:List (List AV))
 |raw (sz:Nat) (rows:List (List AV))
 |mL
 |mu (id cz:Nat)
 |ptr (id cz i k:Nat)
 |qg (sz:Nat) (rows:List (List AV)) (i k:Nat)
 |map (id:Nat)
 |fn (f:Nat) (first lK:List AV)
 deriving Inhabited
mutual
def AV.ax:AV->Bool
 |.mu _ _|.ptr _ _ _ _|.map _=>false|.agg cs|.fm cs=>AV.ai cs|.fn _ a b=>AV.ai a&&AV.ai b|_=>true
def AV.ai:List AV->Bool
 |[]=>true|v::r=>v.ax&&AV.ai r
end
mutual
def AV.view:AV->AV
 |.iO sz rows=>.dM sz rows|.raw _ _=>.gone|.agg cs=>.agg (AV.cq cs)|.fm cs=>.fm (AV.cq cs)|v=>v
def AV.cq:List AV->List AV
 |[]=>[]
 |v::r=>v.view::AV.cq r
end
mutual
def AV.fG:AV->AV->Bool
 |.undef,.undef|.gone,.gone|.fF,.fF|.U,.U|.gn,.gn|.jc,.jc|.kg,.kg|.mL,.mL=>true|.bool a,.bool b=>a==b|.int k a,.int l b=>k==l&&a==b|.str a,.str b=>a==b|.agg a,.agg b|.fm a,.fm b=>AV.pG a b|.dM s a,.dM t b|.iO s a,.iO t b|.raw s a,.raw t b=>s==t&&AV.oE a b|.mu i v,.mu j w=>i==j&&v==w|.ptr a b c d,.ptr a' b' c' d'=>a==a'&&b==b'&&c==c'&&d==d'|.qg s a i k,.qg t b j l=>s==t&&AV.oE a b&&i==j&&k==l|.map i,.map j=>i==j|.fn f a b,.fn g c d=>f==g&&AV.pG a c&&AV.pG b d|_,_=>false
def AV.pG:List AV->List AV->Bool
 |[],[]=>true|a::x,b::y=>a.fG b&&AV.pG x y|_,_=>false
def AV.oE:List (List AV)->List (List AV)->Bool
 |[],[]=>true|a::x,b::y=>AV.pG a b&&AV.oE x y|_,_=>false
end
def AV.cells:AV->List AV
 |.agg cs=>cs|v=>[v]
def AV.cy:AV->Bool
 |.agg _|.fm _|.undef=>false|_=>true
def AV.bq(cs:List AV):Bool:=cs.all AV.cy
def AV.di:AV->AV
 |.iO _ _=>.gone|.raw _ _=>.gone|v=>v
inductive fq where
 |none
 |val (v:AV)
 |fp (j k:Nat)
 deriving Inhabited
def fq.view:fq->fq
 |.val v=>.val v.view|e=>e
def fq.fG:fq->fq->Bool
 |.none,.none=>true|.val a,.val b=>a.fG b|.fp j k,.fp l m=>j==l&&k==m|_,_=>false
def fq.pH(j:Nat):fq->Bool
 |.fp j' _=>j' != j|_=>true
inductive dz where
 |rows (cz sz:Nat) (rows:List (List AV))
 |map (es:List (AV×AV))
 deriving Inhabited
abbrev aj:=List dz
abbrev bF:=List (List AV)
inductive Src where
 |tmp (t:Nat) (mv:Bool)
 |const (a:AV)
 deriving Inhabited
abbrev p0:=List (Nat×fq)
def dj:p0->Nat->fq
 |[],_=>.none|(k,e)::r,t=>if k=t then e else dj r t
def zh:p0->Nat->fq->p0
 |[],t,e=>[(t,e)]
 |(k,x)::r,t,e=>if t<k then (t,e)::(k,x)::r else if t=k then (t,e)::r else (k,x)::zh r t e
def IC:p0->Nat->p0
 |[],_=>[]
 |(k,x)::r,t=>if k=t then IC r t else (k,x)::IC r t
def Kz(env:p0):Src->fq
 |.tmp t true=>dj env t|.tmp t false=>(dj env t).view|.const a=>.val a
def oB:p0->Src->p0
 |env,.tmp t true=>IC env t|env,_=>env
structure St where
 env:p0
 bx:bF
 st:aj
 deriving Inhabited
inductive Mode where
 |pure|kh|zi
 deriving DecidableEq,Inhabited
inductive SK where
 |bool|int|str
 deriving DecidableEq,Inhabited
inductive LK where
 |str|sl|mp
 deriving DecidableEq,Inhabited
inductive EqK where
 |sc (k:SK)
 |ptr|sl|fn
 |flat (ks:List SK)
 deriving DecidableEq,Inhabited
inductive eE where
 |move
 |pick
 |rV (op:BinOp)
 |qn (k:EqK) (neg:Bool)
 |Mm (neg:Bool)
 |un (op:UnOp)
 |conv (k:IntKind)
 |W0
 |len (k:LK)
 |KA (mx:Bool)
 |nilCheck
 |extract (i:Nat)
 |field (off n:Nat) (agg:Bool)
 |build (zero:List AV) (parts:List (Nat×Nat))
 |lit (sz n:Nat) (zero:List AV) (parts:List Nat)
 |Ye (sz n:Nat) (zero:List AV) (parts:List Nat)
 |fieldAddr (off:Nat)
 |indexAddr (sz:Nat)
 |index
 |slice (wV lo hi mx:Bool) (sz:Nat)
 |CX (sz:Nat)
 |load (agg:Bool) (n:Nat) (take:Bool)
 |fD (j:Nat) (agg:Bool) (n:Nat) (take:Bool)
 |store (n:Nat)
 |jH (j n:Nat)
 |alloc (zero:List AV)
 |bT (j:Nat) (zero:List AV)
 |box (n:Nat)
 |qW (j n:Nat)
 |append (sz bytes:Nat)
 |jx (sz bytes:Nat)
 |sH (sz bytes:Nat) (zero:List AV) (mt:Bool)
 |GQ (sz bytes:Nat) (zero:List AV)
 |Cw (sz bytes:Nat) (zero:List AV)
 |Yf
 |makeMap
 |mapUpdate (kk:SK)
 |lookup (kk:SK) (zero:AV) (ok:Bool)
 |makeFunc (f agT:Nat)
 |call (f:Nat)
 |qX
 |copy (sz:Nat)
 deriving Inhabited
structure aK where
 dst:Option Nat
 op:eE
 args:List Src
 guard:Option (Nat×Bool)
 deriving Inhabited
inductive bw where
 |skip
 |region (dJ:List aK) (draw:Option (List (Nat×Nat))) (dm:List Nat)
 |seq (a b:bw)
 |cond (c:Src) (alG:List Nat) (thn:bw) (alH:List Nat) (PT:bw)
 |block (id:Nat) (body:bw)
 |loop (body:bw)
 |exit (id:Nat)
 |ret
 |TR (t:Nat)
 |Ff (j k:Nat)
 |vg (t off:Nat)
 deriving Inhabited
inductive iE where
 |tmp (t:Nat) (mv:Bool)
 |box (t j n:Nat) (agg:Bool)
 |cell (t:Nat) (n:Nat) (agg:Bool)
 deriving Inhabited
structure aH where
 eO:Nat
 mode:Mode
 aF:Nat
 aP:Nat
 dm:List Nat
 results:List iE
 body:bw
 deriving Inhabited
inductive Ex where
 |normal
 |exit (id:Nat)
 |ret (v:AV)
 deriving Inhabited
structure lE where
 call:Nat->Nat->Nat->List AV->aj->Option (AV×aj)
 loop:Nat->Nat->List iE->bw->St->Option (Ex×St)
def cT:Nat:=140737488355328
def AI:SK->AV->AV->Option Bool
 |.bool,.bool a,.bool b=>some (a==b)|.int,.int k a,.int l b=>if k=l then some (a==b) else none
 |.str,.str a,.str b=>some (a==b)|_,_,_=>none
def AJ:List SK->List AV->List AV->Option Bool
 |[],[],[]=>some true|k::ks,a::as,b::bs=>match AI k a b,AJ ks as bs with
  |some p,some q=>some (p&&q)|_,_=>none
 |_,_,_=>none
def Cx:EqK->AV->AV->Option Bool
 |.sc k,a,b=>AI k a b|.flat ks,.agg a,.agg b=>AJ ks a b|.ptr,.fF,.fF=>some true|.ptr,.fF,.ptr _ _ _ _|.ptr,.fF,.qg _ _ _ _|.ptr,.ptr _ _ _ _,.fF|.ptr,.qg _ _ _ _,.fF=>some false|.fn,.jc,.jc=>some true|.fn,.jc,.fn _ _ _|.fn,.fn _ _ _,.jc=>some false|.sl,.U,.U=>some true|.sl,.U,.dM _ _|.sl,.U,.iO _ _|.sl,.U,.mL|.sl,.dM _ _,.U|.sl,.iO _ _,.U|.sl,.mL,.U=>some false|_,_,_=>none
def lM(op:BinOp)(k:IntKind)(a b:Int):Option AV:=
 match op with
 |.add=>some (.int k (k.wrap (a+b)))|.sub=>some (.int k (k.wrap (a-b)))|.mul=>some (.int k (k.wrap (a*b)))|.quo=>if b=0 then none else some (.int k (k.wrap (a.tdiv b)))
 |.rem=>if b=0 then none else some (.int k (a.tmod b))
 |.and=>some (.int k (k.wrap ((BitVec.ofInt k.bits a &&& BitVec.ofInt k.bits b).toNat)))|.eql=>some (.bool (a==b))|.neq=>some (.bool (a != b))|.lss=>some (.bool (decide (a<b)))|.leq=>some (.bool (decide (a<=b)))|.gtr=>some (.bool (decide (a > b)))|.geq=>some (.bool (decide (a ≥ b)))|_=>none
def Ca(op:BinOp):AV->AV->Option AV
 |.int k a,.int l b=>if k=l then lM op k a b else none
 |.str a,.str b=>
  match op with
  |.add=>if a.length+b.length<=4611686018427387904 then some (.str (a++b)) else none
  |.eql=>some (.bool (a==b))|.neq=>some (.bool (!(a==b)))|_=>none
 |_,_=>none
def Yg(op:UnOp):AV->Option AV
 |.int k a=>match op with|.neg=>some (.int k (k.wrap (0-a)))|_=>none
 |.bool b=>match op with|.not=>some (.bool (!b))|_=>none
 |_=>none
def fJ(st:aj):AV->Option (List (List AV))
 |.U|.mL=>some []|.dM _ rows|.iO _ rows=>some rows|.mu id cz=>match st[id]? with
  |some (.rows v _ rows)=>if v=cz then some rows else none
  |_=>none
 |_=>none
def nw(s:List UInt8):List (List AV):=s.map λb=>[.int .u8 b.toNat]
def dZ(st:aj):AV->Option (List (List AV))
 |.str s=>some (nw s)|.mu id cz=>match fJ st (.mu id cz) with|some rows=>some (rows.map AV.cq)|none=>none
 |v=>fJ st v
def bL(sz:Nat)(rows:List (List AV)):Bool:=rows.all λr=>r.length==sz
def ov(st:aj):LK->AV->Option Nat
 |.str,.str s=>some s.length|.mp,.gn=>some 0|.mp,.map id=>match st[id]? with|some (.map es)=>some es.length|_=>none
 |.sl,v=>match fJ st v with|some rows=>some rows.length|none=>none
 |_,_=>none
def cut(cs:List AV)(k n:Nat):Option (List AV):=if k+n<=cs.length then some ((cs.drop k).take n) else none
def dA(st:aj):AV->Nat->Option (List AV)
 |.ptr id cz i k,n=>match st[id]? with
  |some (.rows v _ rows)=>if v=cz then match rows[i]? with|some r=>cut r k n|none=>none else none
  |_=>none
 |.qg _ rows i k,n=>match rows[i]? with|some r=>cut r k n|none=>none
 |_,_=>none
def ag{α:Type}:List α->Nat->List α->List α
 |cs,0,[]=>cs|_::cs,0,v::vs=>v::ag cs 0 vs|c::cs,k+1,vs=>c::ag cs k vs|[],_,_=>[]
def aQ(wl af id:Nat)(cells:List AV):Bool:=decide (wl<=id)&&(decide (af<=id)||AV.ai cells)
def cu(wl af:Nat)(st:aj):AV->List AV->Option aj
 |.ptr id cz i k,cells=>match st[id]? with
  |some (.rows v sz rows)=>
   if v=cz&&aQ wl af id cells then
    match rows[i]? with
    |some r=>if k+cells.length<=r.length then some (st.set id (.rows v sz (rows.set i (ag r k cells)))) else none
    |none=>none
   else none
  |_=>none
 |_,_=>none
def bM(agg:Bool)(cells:List AV):Option AV:=
 if agg then some (.agg cells) else match cells with | [v]=>some v|_=>none
def iV:List AV->List (Nat×Nat)->List AV->Option (List AV)
 |cs,[],[]=>some cs|cs,(off,n)::ps,v::vs=>
  if v.cells.length=n&&off+n<=cs.length then iV (ag cs off v.cells) ps vs else none
 |_,_,_=>none
def gv(sz:Nat):List (List AV)->List Nat->List AV->Option (List (List AV))
 |rows,[],[]=>some rows|rows,i::ps,v::vs=>if v.cells.length=sz&&i<rows.length then gv sz (rows.set i v.cells) ps vs else none
 |_,_,_=>none
def sj(kk:SK)(k:AV):List (AV×AV)->Option (Option AV)
 |[]=>some none|(a,v)::r=>match AI kk k a with|some true=>some (some v)|some false=>sj kk k r|none=>none
def Fg(kk:SK)(k v:AV):List (AV×AV)->Option (List (AV×AV))
 |[]=>some [(k,v)]|(a,u)::r=>match AI kk k a with
  |some true=>some ((k,v)::r)|some false=>match Fg kk k v r with|some r'=>some ((a,u)::r')|none=>none
  |none=>none
def FD:SK->AV->Bool
 |.int,.int _ _|.str,.str _|.bool,.bool _=>true|_,_=>false
def jt:List fq->Option (List AV)
 |[]=>some []|.val v::r=>match jt r with|some vs=>some (v::vs)|none=>none
 |_::_=>none
def Cy:List (List AV)->Option (List UInt8)
 |[]=>some []|[.int .u8 n]::r=>if 0<=n/\n<256 then match Cy r with|some l=>some (UInt8.ofNat n.toNat::l)|none=>none else none
 |_=>none
def sq(bP:Bool)(Yh:Int)(l:List fq):Option (Int×List fq):=
 if bP then match l with|.val (.int .i64 n)::r=>some (n,r)|_=>none else some (Yh,l)
def kq(wV:Bool)(sz:Nat)(x:AV)(lo hi:Int)(mx:Option Int):Option AV:=
 match wV,x with
 |true,.str s=>if mx.isNone&&decide (0<=lo)&&decide (lo<=hi)&&decide (hi<=s.length) then some (.str ((s.take hi.toNat).drop lo.toNat)) else none
 |false,.U=>if lo=0&&hi=0&&(match mx with|some m=>m==0|none=>true) then some .U else none
 |false,.mL=>if lo=0&&hi=0&&(match mx with|some m=>m==0|none=>true) then some .mL else none
 |false,.dM s rows|false,.iO s rows=>
  match mx with
  |none=>if s=sz&&decide (0<=lo)&&decide (lo<=hi)&&decide (hi<=rows.length) then some (.dM sz ((rows.take hi.toNat).drop lo.toNat)) else none
  |some m=>if lo=0&&hi=0&&m=0 then some .mL else none
 |_,_=>none
def vD(wl af sz bytes:Nat)(s:AV)(new:List (List AV))(st:aj)(bx:bF):Option (fq×aj×bF):=
 if bL sz new then match s with
  |.U=>if new.isEmpty then some (.val .U,st,bx) else if new.length*bytes<=cT then some (.val (.mu st.length 0),st++[.rows 0 sz new],bx) else none
  |.mL=>if new.length*bytes<=cT then some (.val (.mu st.length 0),st++[.rows 0 sz new],bx) else none
  |.mu id cz=>match st[id]? with
   |some (.rows v lF kL)=>
    if v=cz&&lF=sz&&decide ((kL.length+new.length)*bytes<=cT)&&decide (wl<=id)&&(decide (af<=id)||new.all AV.ai) then
     some (.val (.mu id (v+1)),st.set id (.rows (v+1) sz (kL++new)),bx) else none
   |_=>none
  |_=>none else none
def aW(wl af:Nat)(op:eE)(vals:List fq)(st:aj)(bx:bF):Option (fq×aj×bF):=
 match op with
 |.move=>match vals with
  |[e]=>some (e,st,bx)|_=>none
 |.pick=>match vals with
  |[.val (.bool b),x,y]=>some (if b then x else y,st,bx)|_=>none
 |.rV op=>match vals with
  |[.val x,.val y]=>match Ca op x y with|some v=>some (.val v,st,bx)|none=>none
  |_=>none
 |.qn k neg=>match vals with
  |[.val x,.val y]=>match Cx k x y with|some b=>some (.val (.bool (if neg then !b else b)),st,bx)|none=>none
  |_=>none
 |.Mm neg=>match vals with
  |[.val (.mu id cz),.val .U]=>match st[id]? with
   |some (.rows v _ _)=>if v=cz then some (.val (.bool neg),st,bx) else none
   |_=>none
  |_=>none
 |.un op=>match vals with
  |[.val x]=>match Yg op x with|some v=>some (.val v,st,bx)|none=>none
  |_=>none
 |.conv k=>match vals with
  |[.val (.int _ n)]=>some (.val (.int k (k.wrap n)),st,bx)|_=>none
 |.W0=>match vals with
  |[.val x]=>match fJ st x with
   |some rows=>match Cy rows with|some s=>some (.val (.str s),st,bx)|none=>none
   |none=>none
  |_=>none
 |.len k=>match vals with
  |[.val x]=>match ov st k x with|some n=>some (.val (.int .i64 n),st,bx)|none=>none
  |_=>none
 |.KA mx=>match vals with
  |[.val (.int k a),.val (.int l b)]=>
   if k=l then some (.val (.int k (if mx then (if b > a then b else a) else (if b<a then b else a))),st,bx) else none
  |_=>none
 |.nilCheck=>match vals with
  |[.fp j k]=>some (.fp j k,st,bx)|[.val x]=>match x with
   |.ptr .. | .qg ..=>some (.val x,st,bx)|_=>none
  |_=>none
 |.extract i=>match vals with
  |[.val (.fm vs)]=>match vs[i]? with|some v=>some (.val v,st,bx)|none=>none
  |_=>none
 |.field off n agg=>match vals with
  |[.val (.agg cs)]=>match cut cs off n with
   |some r=>match bM agg r with|some v=>some (.val v,st,bx)|none=>none
   |none=>none
  |_=>none
 |.build zero parts=>match vals with
  |l=>match jt l with
   |some vs=>match iV zero parts vs with|some cs=>some (.val (.agg cs),st,bx)|none=>none
   |none=>none
 |.lit sz n zero parts=>match vals with
  |l=>match jt l with
   |some vs=>match gv sz (List.replicate n zero) parts (AV.cq vs) with
    |some rows=>if rows.all AV.ai&&rows.all AV.bq then some (.val (if n=0 then .mL else .dM sz rows),st,bx) else none
    |none=>none
   |none=>none
 |.Ye sz n zero parts=>match vals with
  |l=>match jt l with
   |some vs=>match gv sz (List.replicate n zero) parts vs with
    |some rows=>if rows.all AV.bq&&decide (0<n) then some (.val (.mu st.length 0),st++[.rows 0 sz rows],bx) else none
    |none=>none
   |none=>none
 |.fieldAddr off=>match vals with
  |[.fp j k]=>some (.fp j (k+off),st,bx)|[.val (.ptr id cz i k)]=>some (.val (.ptr id cz i (k+off)),st,bx)|[.val (.qg sz rows i k)]=>some (.val (.qg sz rows i (k+off)),st,bx)|_=>none
 |.indexAddr sz=>match vals with
  |[.val x,.val (.int .i64 i)]=>match x with
   |.dM s rows|.iO s rows=>if s=sz&&decide (0<=i)&&decide (i<rows.length) then some (.val (.qg sz rows i.toNat 0),st,bx) else none
   |.mu id cz=>match st[id]? with
    |some (.rows v s rows)=>if v=cz&&s=sz&&decide (0<=i)&&decide (i<rows.length) then some (.val (.ptr id cz i.toNat 0),st,bx) else none
    |_=>none
   |_=>none
  |_=>none
 |.index=>match vals with
  |[.val (.str s),.val (.int .i64 i)]=>
   if 0<=i then match s[i.toNat]? with|some b=>some (.val (.int .u8 b.toNat),st,bx)|none=>none else none
  |_=>none
 |.slice wV lo hi mx sz=>match vals with
  |.val x::l=>match ov st (if wV then .str else .sl) x with
   |none=>none|some n=>match sq lo 0 l with
    |none=>none|some (a,l)=>match sq hi n l with
     |none=>none|some (b,l)=>match mx,l with
      |false,[]=>match kq wV sz x a b none with|some v=>some (.val v,st,bx)|none=>none
      |true,[.val (.int .i64 m)]=>match kq wV sz x a b (some m) with|some v=>some (.val v,st,bx)|none=>none
      |_,_=>none
  |_=>none
 |.CX sz=>match vals with
  |[.val (.mu id cz),.val (.int .i64 hi)]=>match st[id]? with
   |some (.rows v s rows)=>if v=cz&&s=sz&&decide (0<=hi)&&decide (hi<=rows.length)&&decide (wl<=id) then
     some (.val (.mu id (v+1)),st.set id (.rows (v+1) s (rows.take hi.toNat)),bx) else none
   |_=>none
  |_=>none
 |.load agg n take=>match vals with
  |[.val p]=>match dA st p n with
   |some cs=>
    if take then
     match cu wl af st p (cs.map AV.di),bM agg cs with
     |some bV,some v=>some (.val v,bV,bx)|_,_=>none
    else match bM agg (AV.cq cs) with|some v=>some (.val v,st,bx)|none=>none
   |none=>none
  |_=>none
 |.fD j agg n take=>match vals with
  |[.fp j' k]=>if j=j' then match bx[j]? with
    |some row=>match cut row k n with
     |some cs=>
      if take then match bM agg cs with|some v=>some (.val v,st,bx.set j (ag row k (cs.map AV.di)))|none=>none
      else match bM agg (AV.cq cs) with|some v=>some (.val v,st,bx)|none=>none
     |none=>none
    |none=>none
   else none
  |_=>none
 |.store n=>match vals with
  |[.val p,.val v]=>if v.cells.length=n&&AV.bq v.cells then
    match cu wl af st p v.cells with|some bV=>some (.none,bV,bx)|none=>none else none
  |_=>none
 |.jH j n=>match vals with
  |[.fp j' k,.val v]=>if j=j'&&v.cells.length=n&&AV.bq v.cells then match bx[j]? with
    |some row=>if k+n<=row.length then some (.none,st,bx.set j (ag row k v.cells)) else none
    |none=>none
   else none
  |_=>none
 |.alloc zero=>match vals with
  |[]=>some (.val (.ptr st.length 0 0 0),st++[.rows 0 zero.length [zero]],bx)|_=>none
 |.bT j zero=>match vals with
  |[]=>if j<bx.length then some (.fp j 0,st,bx.set j zero) else none
  |_=>none
 |.box n=>match vals with
  |[.val v]=>if v.cells.length=n&&AV.bq v.cells then some (.val (.ptr st.length 0 0 0),st++[.rows 0 n [v.cells]],bx) else none
  |_=>none
 |.qW j n=>match vals with
  |[.val v]=>if j<bx.length&&v.cells.length=n&&AV.bq v.cells then some (.fp j 0,st,bx.set j v.cells) else none
  |_=>none
 |.append sz bytes=>match vals with
  |[.val s,.val x]=>match dZ [] x with
   |none=>none|some new=>if bL sz new then match s with
    |.U|.mL=>if new.isEmpty then some (.val s,st,bx) else if new.length*bytes<=cT then some (.val (.iO sz new),st,bx) else none
    |.iO lF kL=>if lF=sz&&decide ((kL.length+new.length)*bytes<=cT) then some (.val (.iO sz (kL++new)),st,bx) else none
    |_=>none else none
  |_=>none
 |.jx sz bytes=>match vals with
  |[.val s,.val x]=>match dZ st x with
   |none=>none|some new=>vD wl af sz bytes s new st bx
  |_=>none
 |.sH sz bytes zero mt=>match vals with
  |[.val (.int .i64 n),.val (.int .i64 c)]=>
   if 0<=n/\n<=c/\c*bytes<=cT/\zero.length=sz then
    if mt then some (.val (.mu st.length 0),st++[.rows 0 sz (List.replicate n.toNat zero)],bx)
    else if AV.ai zero then some (.val (.iO sz (List.replicate n.toNat zero)),st,bx) else none
   else none
  |_=>none
 |.GQ sz bytes zero=>match vals with
  |[.val (.int .i64 n),.val (.int .i64 c)]=>
   if 0<=n/\n<=c/\c*bytes<=cT/\zero.length=sz/\AV.ai zero=true then some (.val (.raw sz (List.replicate n.toNat zero)),st,bx) else none
  |_=>none
 |.Cw sz bytes zero=>match vals with
  |[.val s,.val (.int .i64 n)]=>
   if 0<=n/\n*bytes<=cT/\zero.length=sz/\AV.ai zero=true then vD wl af sz bytes s (List.replicate n.toNat zero) st bx else none
  |_=>none
 |.Yf=>match vals with
  |[.val .U]=>some (.val (.int .i64 0),st,bx)|_=>none
 |.makeMap=>match vals with
  |[]=>some (.val (.map st.length),st++[.map []],bx)|_=>none
 |.mapUpdate kk=>match vals with
  |[.val (.map id),.val k,.val v]=>match st[id]? with
   |some (.map es)=>if FD kk k&&aQ wl af id [v] then match Fg kk k v.view es with|some vE=>some (.none,st.set id (.map vE),bx)|none=>none else none
   |_=>none
  |_=>none
 |.lookup kk zero ok=>match vals with
  |[.val m,.val k]=>
   match (match m with|.gn=>some []|.map id=>(match st[id]? with|some (.map es)=>some es|_=>none)|_=>none) with
   |none=>none|some es=>if FD kk k then match sj kk k es with
    |none=>none|some r=>let v:=r.getD zero
     some (.val (if ok then .fm [v,.bool r.isSome] else v),st,bx)
    else none
  |_=>none
 |.makeFunc f n=>match vals with
  |l=>match jt l with
   |some vs=>some (.val (.fn f (AV.cq (vs.take n)) (AV.cq (vs.drop n))),st,bx)|none=>none
 |.copy sz=>match vals with
  |[.val (.mu id cz),.val x]=>match st[id]?,dZ st x with
   |some (.rows v lF kL),some new=>
    if v=cz&&lF=sz&&bL sz new&&decide (new.length<=kL.length)&&decide (wl<=id)&&(decide (af<=id)||new.all AV.ai) then
     some (.val (.int .i64 new.length),st.set id (.rows v sz (new++kL.drop new.length)),bx) else none
   |_,_=>none
  |_=>none
 |.call _|.qX=>none
def mM:eE->List fq->Option (Nat×List AV)
 |.call f,l=>match jt l with
  |some vs=>some (f,vs)|none=>none
 |.qX,.val (.fn f first lK)::l=>match jt l with
  |some vs=>some (f,first++vs++lK)|none=>none
 |_,_=>none
def gm(O:lE)(wl af:Nat)(x:Option (Nat×List AV))(st:aj)(bx:bF):Option (fq×aj×bF):=
 match x with
 |some (f,vs)=>match O.call wl af f vs st with|some (v,bV)=>some (.val v,bV,bx)|none=>none
 |none=>none
def tV(O:lE)(wl af:Nat)(op:eE)(vals:List fq)(st:aj)(bx:bF):Option (fq×aj×bF):=
 match op with
 |.call f=>gm O wl af (mM (.call f) vals) st bx|.qX=>gm O wl af (mM .qX vals) st bx|op=>aW wl af op vals st bx
def eE.bg:eE->Option Nat
 |.bT j _|.qW j _=>some j|_=>none
def zj(env:p0)(dst:Option Nat)(e:fq):p0:=
 match dst with
 |some d=>zh env d e|none=>env
def o8(env:p0):Option (Nat×Bool)->Option Bool
 |none=>some true|some (t,b)=>match dj env t with
  |.val (.bool c)=>some (c==b)|.val .undef=>some false|_=>none
def mc(j:Nat)(env:p0):Bool:=env.all λx=>x.2.pH j
def jd(O:lE)(wl af:Nat)(o:aK)(s:St):Option St:=
 match o8 s.env o.guard with
 |none=>none|some false=>some { s with env:=zj s.env o.dst (.val .undef) }|some true=>
  match tV O wl af o.op (o.args.map (Kz s.env)) s.st s.bx with
  |none=>none|some (e,bV,gD)=>
   match o.op.bg with
   |none=>some ⟨zj (o.args.foldl oB s.env) o.dst e,gD,bV⟩|some j=>if mc j (zj (o.args.foldl oB s.env) o.dst .none) then some ⟨zj (o.args.foldl oB s.env) o.dst e,gD,bV⟩ else none
def gw(O:lE)(wl af:Nat):List aK->St->Option St
 |[],s=>some s|o::l,s=>match jd O wl af o s with|some s'=>gw O wl af l s'|none=>none
def dS(O:lE)(wl af:Nat):List aK->St->Option (St×List St)
 |[],s=>some (s,[s])|o::l,s=>match jd O wl af o s with
  |some s'=>match dS O wl af l s' with|some (e,l')=>some (e,s::l')|none=>none
  |none=>none
def cW(O:lE)(wl af:Nat)(o:aK)(s t:St)(st:aj):Bool:=
 match o8 s.env o.guard with
 |none=>false|some false=>true|some true=>
  match tV O wl af o.op (o.args.map (Kz s.env)) st s.bx with
  |some (e,_,_)=>(match o.dst with|some d=>(dj t.env d).fG e|none=>false)
  |none=>false
def Yi(wl af:Nat)(dJ:List aK)(ga:List St)(p q:Nat):Option aj:=
 match dJ[p]?,ga[p]?,dJ[q]?,ga[q]? with
 |some a,some s,some b,some t=>
  match a.op,a.args.map (Kz s.env),b.op,b.args.map (Kz t.env) with
  |.store _,[.val (.ptr i _ _ _),.val _],.store m,[.val (.ptr j v x y),.val u]=>
   if i=j then none else match aW wl af (.store m) [.val (.ptr j v x y),.val u] s.st [] with
   |some (_,X,_)=>some X|none=>none
  |_,_,_,_=>none
 |_,_,_,_=>none
def gQ(O:lE)(wl af:Nat)(dJ:List aK)(ga:List St):Nat×Nat->Bool
 |(q,w)=>if q<100000 then match dJ[q]?,ga[q]?,ga[q+1]?,ga[w]?,ga[w+1]? with
   |some o,some s,some t,some a,some b=>cW O wl af o s t a.st&&cW O wl af o s t b.st|_,_,_,_,_=>false
  else match Yi wl af dJ ga (q % 100000) w with
   |none=>false|some X=>if q<200000 then true else match dJ[q / 100000-2]?,ga[q / 100000-2]?,ga[q / 100000-2+1]? with
    |some o,some s,some t=>cW O wl af o s t X|_,_,_=>false
def bG(env:p0)(o:aK):Bool:=match o.op.bg with|some j=>mc j env|none=>true
def iB(O:lE)(wl af:Nat)(dJ:List aK)(cn:List (Nat×Nat))(s:St):Option St:=
 match dS O wl af dJ s with
 |none=>none|some (e,ga)=>
  if cn.all (gQ O wl af dJ ga)&&dJ.all (bG s.env) then some e else none
def jI:List Nat->p0->p0
 |[],env=>env|t::l,env=>jI l (IC env t)
def vF(env:p0)(c:Src):Option Bool:=
 match Kz env c with
 |.val (.bool b)=>some b|_=>none
def me(wl:Nat)(v:AV)(st:aj):Option (AV×aj):=
 match v with
 |.mu id cz=>match st[id]? with
  |some (.rows v sz rows)=>if v=cz&&rows.all AV.ai && !rows.isEmpty&&decide (wl<=id) then some (.dM sz (rows.map AV.cq),st.set id (.rows (v+1) sz [])) else none
  |_=>none
 |v=>if v.ax&&v.cy then some (v.view,st) else none
def ku(wl:Nat):List AV->aj->Option (List AV×aj)
 |[],st=>some ([],st)|v::l,st=>match me wl v st with
  |some (v',bV)=>match ku wl l bV with
   |some (l',NO)=>some (v'::l',NO)|none=>none
  |none=>none
def kO(wl:Nat):List (List AV)->aj->Option (List (List AV)×aj)
 |[],st=>some ([],st)|r::l,st=>match ku wl r st with
  |some (r',bV)=>match kO wl l bV with
   |some (l',NO)=>some (r'::l',NO)|none=>none
  |none=>none
def jm(wl:Nat)(v:AV)(st:aj):Option (AV×aj):=
 match v with
 |.mu id cz=>match st[id]? with
  |some (.rows v sz rows)=>if v=cz && !rows.isEmpty&&decide (wl<=id) then
    match kO wl rows (st.set id (.rows (v+1) sz [])) with
    |some (eU,bV)=>some (.dM sz eU,bV)|none=>none
   else none
  |_=>none
 |.U=>some (.U,st)|_=>none
def o9(wl:Nat)(v:AV)(st:aj):Option (AV×aj):=
 match v with
 |.raw sz rows=>some (.mu st.length 0,st++[.rows 0 sz rows])|v=>jm wl v st
def CY(s:St):iE->Option AV
 |.tmp t mv=>match Kz s.env (.tmp t mv) with|.val v=>some v|_=>none
 |.box t j n agg=>match dj s.env t,s.bx[j]? with|.fp i 0,some row=>if i=j&&row.length=n then bM agg row else none|_,_=>none
 |.cell t n agg=>match dj s.env t with
  |.val p=>match dA s.st p n with|some cs=>bM agg (AV.cq cs)|none=>none
  |_=>none
def yC(s:St):List iE->Option (List AV)
 |[]=>some []|r::l=>match CY s r,yC s l with
  |some v,some vs=>some (v::vs)|_,_=>none
def xS(s:St)(l:List iE):Option AV:=
 match yC s l with
 |some [v]=>some v|some vs=>some (.fm vs)|none=>none
def iW(O:lE)(wl af:Nat)(rs:List iE):bw->St->Option (Ex×St)
 |.skip,s=>some (.normal,s)|.region dJ draw dm,s=>
  match (match draw with|none=>gw O wl af dJ s|some cn=>iB O wl af dJ cn s) with
  |some s'=>some (.normal,{ s' with env:=jI dm s'.env })|none=>none
 |.seq a b,s=>match iW O wl af rs a s with
  |some (.normal,s')=>iW O wl af rs b s'|r=>r
 |.cond c ca a cb b,s=>match vF s.env c with
  |some true=>iW O wl af rs a { s with env:=jI ca (oB s.env c) }|some false=>iW O wl af rs b { s with env:=jI cb (oB s.env c) }|none=>none
 |.block id c,s=>match iW O wl af rs c s with
  |some (.exit id',s')=>if id'=id then some (.normal,s') else some (.exit id',s')
  |r=>r
 |.loop c,s=>O.loop wl af rs c s|.exit id,s=>some (.exit id,s)|.ret,s=>match xS s rs with|some v=>some (.ret v,⟨[],[],s.st⟩)|none=>none
 |.TR t,s=>match dj s.env t with
  |.val v=>match jm wl v s.st with
   |some (v',bV)=>some (.normal,⟨zh s.env t (.val v'),s.bx,bV⟩)|none=>none
  |_=>none
 |.Ff j k,s=>match s.bx[j]? with
  |some row=>match row[k]? with
   |some v=>match jm wl v s.st with
    |some (v',bV)=>some (.normal,⟨s.env,s.bx.set j (ag row k [v']),bV⟩)|none=>none
   |none=>none
  |none=>none
 |.vg t off,s=>match dj s.env t with
  |.val (.ptr id cz i k)=>match dA s.st (.ptr id cz i (k+off)) 1 with
   |some [v]=>match o9 wl v s.st with
    |some (v',bV)=>match cu wl af bV (.ptr id cz i (k+off)) [v'] with
     |some kP=>some (.normal,⟨s.env,s.bx,kP⟩)|none=>none
    |none=>none
   |_=>none
  |_=>none
def FE:Nat->List AV->p0
 |_,[]=>[]
 |k,v::r=>(k,.val v)::FE (k+1) r
def Mode.vh:Mode->Nat->Nat->Nat
 |.pure,n,_=>n|_,_,wl=>wl
def Mode.oC:Mode->Nat->Nat->Nat
 |.zi,_,af=>af|_,n,_=>n
def Mode.lG(m:Mode)(st:aj)(v:AV)(bV:aj):Option (AV×aj):=
 match m with
 |.pure=>if v.ax then some (v,st) else none
 |.kh=>if v.ax then some (v,bV.take st.length) else none
 |.zi=>some (v,bV)
def Fh(rs:List iE):Ex->St->Option AV
 |.exit _,_=>none|.ret v,_=>some v|.normal,s=>xS s rs
def pI(sf:aH)(args:List AV)(st:aj):St:=⟨jI sf.dm (FE 0 args),List.replicate sf.aP [],st⟩
def ff(O:lE)(wl af:Nat)(sf:aH)(args:List AV)(st:aj):Option (AV×aj):=
 if args.length=sf.aF then
  match iW O (sf.mode.vh st.length wl) (sf.mode.oC st.length af) sf.results sf.body (pI sf args st) with
  |some (x,s)=>match Fh sf.results x s with
   |some v=>sf.mode.lG st v s.st|none=>none
  |none=>none
 else none
def zk(sf:aH)(args:List AV):Bool:=decide (sf.mode=.pure)&&AV.ai args
def fQ(O:lE)(wl af:Nat)(sf:aH)(args:List AV)(st:aj):Option (AV×aj):=
 if zk sf args then (ff O 0 0 sf args []).map λr=>(r.1,st) else ff O wl af sf args st
def qo(S:Nat->Option aH):Nat->lE
 |0=>⟨λ_ _ _ _ _=>none,λ_ _ _ _ _=>none⟩
 |n+1=>
  ⟨λwl af f args st=>match S f with
   |some sf=>fQ (qo S n) wl af sf args st|none=>none,
   λwl af rs c s=>match iW (qo S n) wl af rs c s with
   |some (.normal,s')=>(qo S n).loop wl af rs c s'|r=>r⟩
def PU(T5 GR:List (Option aH))(n:Nat):Option aH:=if n<100000 then (T5[n]?).getD none else (GR[n-100000]?).getD none
end Ax
namespace Ax
open Go
structure lE.le (A B:lE):Prop where
 call:∀wl af f args st r,A.call wl af f args st=some r->B.call wl af f args st=some r
 loop:∀wl af rs c s r,A.loop wl af rs c s=some r->B.loop wl af rs c s=some r
theorem lE.le_refl(A:lE):A.le A:=⟨λ_ _ _ _ _ _ h=>h,λ_ _ _ _ _ _ h=>h⟩
theorem lE.le_trans{A B C:lE}(h:A.le B)(k:B.le C):A.le C:=
 ⟨λ_ _ _ _ _ _ x=>k.call _ _ _ _ _ _ (h.call _ _ _ _ _ _ x),λ_ _ _ _ _ _ x=>k.loop _ _ _ _ _ _ (h.loop _ _ _ _ _ _ x)⟩
structure Sup (o:Nat->lE)(L:lE):Prop where
 mono:∀n,(o n).le (o (n+1))
 call:∀wl af f args st r,L.call wl af f args st=some r->∃n,(o n).call wl af f args st=some r
 loop:∀wl af rs c s r,L.loop wl af rs c s=some r->∃n,(o n).loop wl af rs c s=some r
theorem Sup.le{o:Nat->lE}{L:lE}(h:Sup o L)(n k:Nat):(o n).le (o (n+k)):=by
 induction k with
 |zero=>exact lE.le_refl _|succ k ih=>exact lE.le_trans ih (h.mono (n+k))
theorem ID(A B:lE)(wl af:Nat)(op:eE)(vals:List fq)(st:aj)(bx:bF)(h1:∀f,op≠.call f)(h2:op≠.qX) :
  tV A wl af op vals st bx=tV B wl af op vals st bx:=by
 cases op<;>first|rfl|exact absurd rfl (h1 _)|exact absurd rfl h2
theorem zl{A B:lE}(vG:A.le B){wl af:Nat}{x:Option (Nat×List AV)}{st:aj}{bx:bF}{r:fq×aj×bF}
  (h:gm A wl af x st bx=some r):gm B wl af x st bx=some r:=by
 unfold gm at h ⊢;split at h;rename_i f vs;cases hc:A.call wl af f vs st with
 |none=>simp[hc]at h|some x=>rw[hc]at h;rw[vG.call _ _ _ _ _ _ hc];exact h
 cases h
theorem IE{A B:lE}(vG:A.le B){wl af:Nat}{op:eE}{vals:List fq}{st:aj}{bx:bF}{r:fq×aj×bF}
  (h:tV A wl af op vals st bx=some r):tV B wl af op vals st bx=some r:=by
 by_cases h1:∃f,op=.call f;obtain⟨f,rfl⟩:=h1;exact zl vG h;by_cases h2:op=.qX;subst h2;exact zl vG h;rw[<-ID A B wl af op vals st bx (λf e=>h1 ⟨f,e⟩) h2];exact h
theorem sw{A B:lE}(vG:A.le B){wl af:Nat}{o:aK}{s r:St}(h:jd A wl af o s=some r):jd B wl af o s=some r:=by
 unfold jd at h ⊢;split at h;cases h;exact h;split at h;cases h;rename_i e bV gD ha;rw[IE vG ha];exact h
theorem tY{A B:lE}(vG:A.le B){wl af:Nat}:∀{l:List aK}{s r:St},gw A wl af l s=some r->gw B wl af l s=some r
 |[],_,_,h=>h|o::l,s,r,h=>by
  unfold gw at h ⊢;split at h;rename_i s' hs;rw[sw vG hs];exact tY vG h;cases h
theorem qp{A B:lE}(vG:A.le B){wl af:Nat}:∀{l:List aK}{s:St} {r},dS A wl af l s=some r->dS B wl af l s=some r
 |[],_,_,h=>h|o::l,s,r,h=>by
  unfold dS at h ⊢;split at h;rename_i s' hs;rw[sw vG hs];split at h;rename_i e l' hr;simp only[qp vG hr];exact h;cases h;cases h
theorem lN{A B:lE}(vG:A.le B){wl af:Nat}{o:aK}{s t:St}{st:aj}(h:cW A wl af o s t st=true):cW B wl af o s t st=true:=by
 unfold cW at h ⊢;split at h;cases h
 rfl
 split at h;rename_i e _ _ ha;rw[IE vG ha];exact h;cases h
theorem sx{A B:lE}(vG:A.le B){wl af:Nat}{dJ:List aK}{ga:List St}{x:Nat×Nat}(h:gQ A wl af dJ ga x=true):gQ B wl af dJ ga x=true:=by
 obtain⟨q,w⟩:=x;unfold gQ at h ⊢;by_cases h1:q<100000;simp only[h1,if_true]at h ⊢;split at h;simp only[Bool.and_eq_true]at h ⊢;exact⟨lN vG h.1,lN vG h.2⟩;cases h;simp only[h1,if_false]at h ⊢;split at h;cases h;by_cases h2:q<200000;simp only[h2,if_true];simp only[h2,if_false]at h ⊢;split at h;exact lN vG h;cases h
theorem Fi{A B:lE}(vG:A.le B){wl af:Nat}{dJ:List aK}{cn:List (Nat×Nat)}{s r:St}(h:iB A wl af dJ cn s=some r):iB B wl af dJ cn s=some r:=by
 unfold iB at h ⊢;split at h;cases h;rename_i e ga hr;split at h;rename_i hc;cases h;rw[qp vG hr];simp only[Bool.and_eq_true,List.all_eq_true]at hc;have h1:cn.all (gQ B wl af dJ ga)=true:=by
  rw[List.all_eq_true];exact λx hx=>sx vG (hc.1 x hx)
 have h2:dJ.all (bG s.env)=true:=by
  rw[List.all_eq_true];exact hc.2
 simp only[h1,h2,Bool.and_self,if_true];cases h
theorem lO{A B:lE}(vG:A.le B){wl af:Nat}{rs:List iE}:∀{c:bw}{s:St} {r},iW A wl af rs c s=some r->iW B wl af rs c s=some r
 |.skip,_,_,h=>h|.region dJ draw dm,s,r,h=>by
  unfold iW at h ⊢;cases draw with
  |none=>
   simp only at h ⊢;split at h;rename_i s' hs;rw[tY vG hs];exact h;cases h
  |some cn=>
   simp only at h ⊢;split at h;rename_i s' hs;rw[Fi vG hs];exact h;cases h
 |.seq a b,s,r,h=>by
  unfold iW at h ⊢;cases ha:iW A wl af rs a s with
  |none=>rw[ha]at h;cases h|some x=>
   rw[ha]at h;rw[lO vG ha];obtain⟨e,s'⟩:=x;cases e with
   |normal=>exact lO vG h|exit id=>exact h|ret v=>exact h
 |.cond c ca a cb b,s,r,h=>by
  unfold iW at h ⊢;split at h;exact lO vG h;exact lO vG h;cases h
 |.block id c,s,r,h=>by
  unfold iW at h ⊢;cases ha:iW A wl af rs c s with
  |none=>rw[ha]at h;cases h|some x=>rw[ha]at h;rw[lO vG ha];exact h
 |.loop c,s,r,h=>vG.loop _ _ _ _ _ _ h|.exit id,s,r,h=>h|.ret,s,r,h=>h|.TR t,s,r,h=>h|.Ff j k,s,r,h=>h|.vg t off,s,r,h=>h
theorem vH{A B:lE}(vG:A.le B){wl af:Nat}{sf:aH}{args:List AV}{st:aj} {r}(h:ff A wl af sf args st=some r):ff B wl af sf args st=some r:=by
 unfold ff at h ⊢;split at h;rename_i hl;rw[if_pos hl];cases hs:iW A (sf.mode.vh st.length wl) (sf.mode.oC st.length af) sf.results sf.body (pI sf args st) with
 |none=>rw[hs]at h;cases h|some x=>rw[hs]at h;rw[lO vG hs];exact h
 cases h
theorem ya{A B:lE}(vG:A.le B){wl af:Nat}{sf:aH}{args:List AV}{st:aj} {r}(h:fQ A wl af sf args st=some r):fQ B wl af sf args st=some r:=by
 unfold fQ at h ⊢;split at h;rename_i Kn;rw[if_pos Kn];cases hc:ff A 0 0 sf args [] with
 |none=>rw[hc]at h;cases h|some x=>rw[hc]at h;rw[vH vG hc];exact h
 rename_i Kn;rw[if_neg Kn];exact vH vG h
theorem CZ(S:Nat->Option aH):∀n,(qo S n).le (qo S (n+1))
 |0=>⟨λ_ _ _ _ _ _ h=>(nomatch h),λ_ _ _ _ _ _ h=>(nomatch h)⟩
 |n+1=>by
  have ih:=CZ S n;constructor;intro wl af f args st r h;show (match S f with|some sf=>fQ (qo S (n+1)) wl af sf args st|none=>none)=some r;change (match S f with|some sf=>fQ (qo S n) wl af sf args st|none=>none)=some r at h;cases hf:S f with
  |none=>rw[hf]at h;cases h|some sf=>rw[hf]at h;exact ya ih h
  intro wl af rs c s r h;show (match iW (qo S (n+1)) wl af rs c s with|some (.normal,s')=>(qo S (n+1)).loop wl af rs c s'|r=>r)=some r;change (match iW (qo S n) wl af rs c s with|some (.normal,s')=>(qo S n).loop wl af rs c s'|r=>r)=some r at h;cases hs:iW (qo S n) wl af rs c s with
  |none=>rw[hs]at h;cases h|some x=>
   rw[hs]at h;rw[lO ih hs];obtain⟨e,s'⟩:=x;cases e with
   |normal=>exact ih.loop _ _ _ _ _ _ h|exit id=>exact h|ret v=>exact h
open Classical in
noncomputable def bh (S:Nat->Option aH):lE:=
 ⟨λwl af f args st=>if h:∃n r,(qo S n).call wl af f args st=some r then some h.choose_spec.choose else none,
  λwl af rs c s=>if h:∃n r,(qo S n).loop wl af rs c s=some r then some h.choose_spec.choose else none⟩
theorem AM(S:Nat->Option aH)(n k:Nat):(qo S n).le (qo S (n+k)):=by
 induction k with
 |zero=>exact lE.le_refl _|succ k ih=>exact lE.le_trans ih (CZ S (n+k))
theorem th(S:Nat->Option aH):Sup (qo S) (bh S) where
 mono:=CZ S
 call:=λwl af f args st r h=>by
  unfold bh at h;simp only at h;split at h;rename_i hx;cases h;exact⟨_,hx.choose_spec.choose_spec⟩;cases h
 loop:=λwl af rs c s r h=>by
  unfold bh at h;simp only at h;split at h;rename_i hx;cases h;exact⟨_,hx.choose_spec.choose_spec⟩;cases h
theorem sy(S:Nat->Option aH)(n:Nat):(qo S n).le (bh S) where
 call:=λwl af f args st r h=>by
  have hx:∃n r,(qo S n).call wl af f args st=some r:=⟨n,r,h⟩;have:(bh S).call wl af f args st=some hx.choose_spec.choose:=by unfold bh;simp only;rw[dif_pos hx]
  have h2:=hx.choose_spec.choose_spec;have a:=(AM S n hx.choose).call _ _ _ _ _ _ h;have b:=(AM S hx.choose n).call _ _ _ _ _ _ h2;rw[Nat.add_comm]at b;exact this.trans (b.symm.trans a)
 loop:=λwl af rs c s r h=>by
  have hx:∃n r,(qo S n).loop wl af rs c s=some r:=⟨n,r,h⟩;have:(bh S).loop wl af rs c s=some hx.choose_spec.choose:=by unfold bh;simp only;rw[dif_pos hx]
  have h2:=hx.choose_spec.choose_spec;have a:=(AM S n hx.choose).loop _ _ _ _ _ _ h;have b:=(AM S hx.choose n).loop _ _ _ _ _ _ h2;rw[Nat.add_comm]at b;exact this.trans (b.symm.trans a)
section
variable {o:Nat->lE}{L:lE}(hs:Sup o L){wl af:Nat}
include hs
theorem Bq{x:Option (Nat×List AV)}{st:aj}{bx:bF}{r:fq×aj×bF}
  (h:gm L wl af x st bx=some r):∃n,gm (o n) wl af x st bx=some r:=by
 unfold gm at h;split at h;rename_i f vs;cases hc:L.call wl af f vs st with
 |none=>simp[hc]at h|some x=>
  obtain⟨n,hn⟩:=hs.call _ _ _ _ _ _ hc;refine⟨n,?_⟩;rw[hc]at h;unfold gm;simp only;rw[hn];exact h
 cases h
theorem Mn{op:eE}{vals:List fq}{st:aj}{bx:bF}{r:fq×aj×bF}
  (h:tV L wl af op vals st bx=some r):∃n,tV (o n) wl af op vals st bx=some r:=by
 by_cases h1:∃f,op=.call f;obtain⟨f,rfl⟩:=h1;exact Bq hs h;by_cases h2:op=.qX;subst h2;exact Bq hs h;exact⟨0,by rw[<-ID L (o 0) wl af op vals st bx (λf e=>h1 ⟨f,e⟩) h2];exact h⟩
theorem C0{p:aK}{s r:St}(h:jd L wl af p s=some r):∃n,jd (o n) wl af p s=some r:=by
 unfold jd at h;split at h;cases h;rename_i hw;exact⟨0,by unfold jd;rw[hw];exact h⟩;rename_i hw;split at h;cases h;rename_i e bV gD ha;obtain⟨n,hn⟩:=Mn hs ha;exact⟨n,by unfold jd;rw[hw];simp only;rw[hn];exact h⟩
theorem Br:∀{l:List aK}{s r:St},gw L wl af l s=some r->∃n,gw (o n) wl af l s=some r
 |[],_,_,h=>⟨0,h⟩
 |p::l,s,r,h=>by
  unfold gw at h;split at h;rename_i s' hp;obtain⟨n,hn⟩:=C0 hs hp;obtain⟨m,hm⟩:=Br h;refine⟨n+m,?_⟩;unfold gw;rw[sw (hs.le n m) hn];simp only;exact tY (by rw[Nat.add_comm];exact hs.le m n) hm;cases h
theorem Bs:∀{l:List aK}{s:St} {r},dS L wl af l s=some r->∃n,dS (o n) wl af l s=some r
 |[],_,_,h=>⟨0,h⟩
 |p::l,s,r,h=>by
  unfold dS at h;split at h;rename_i s' hp;split at h;rename_i e l' hr;obtain⟨n,hn⟩:=C0 hs hp;obtain⟨m,hm⟩:=Bs hr;refine⟨n+m,?_⟩;unfold dS;rw[sw (hs.le n m) hn];simp only;rw[qp (by rw[Nat.add_comm];exact hs.le m n) hm];exact h;cases h;cases h
theorem sI{p:aK}{s t:St}{st:aj}(h:cW L wl af p s t st=true):∃n,cW (o n) wl af p s t st=true:=by
 unfold cW at h;split at h;cases h;rename_i hw;exact⟨0,by unfold cW;rw[hw]⟩;rename_i hw;split at h;rename_i e a b ha;obtain⟨n,hn⟩:=Mn hs ha;exact⟨n,by unfold cW;rw[hw];simp only;rw[hn];exact h⟩;cases h
theorem KB{dJ:List aK}{ga:List St}{x:Nat×Nat}(h:gQ L wl af dJ ga x=true):∃n,gQ (o n) wl af dJ ga x=true:=by
 obtain⟨q,w⟩:=x;unfold gQ at h ⊢;by_cases h1:q<100000;simp only[h1,if_true]at h ⊢;split at h;simp only[Bool.and_eq_true]at h ⊢;obtain⟨n,hn⟩:=sI hs h.1;obtain⟨m,hm⟩:=sI hs h.2;exact⟨n+m,lN (hs.le n m) hn,lN (by rw[Nat.add_comm];exact hs.le m n) hm⟩;cases h;simp only[h1,if_false]at h ⊢;split at h;cases h;by_cases h2:q<200000;simp only[h2,if_true,exists_const];simp only[h2,if_false]at h ⊢;split at h;exact sI hs h;cases h
theorem FF{dJ:List aK}{ga:List St}:∀{l:List (Nat×Nat)},l.all (gQ L wl af dJ ga)=true->∃n,l.all (gQ (o n) wl af dJ ga)=true
 |[],_=>⟨0,rfl⟩
 |x::l,h=>by
  simp only[List.all_cons,Bool.and_eq_true]at h;obtain⟨n,hn⟩:=KB hs h.1;obtain⟨m,hm⟩:=FF h.2;refine⟨n+m,?_⟩;simp only[List.all_cons,Bool.and_eq_true];refine⟨sx (hs.le n m) hn,?_⟩;rw[List.all_eq_true]at hm ⊢;exact λx hx=>sx (by rw[Nat.add_comm];exact hs.le m n) (hm x hx)
theorem GS{dJ:List aK}{cn:List (Nat×Nat)}{s r:St}(h:iB L wl af dJ cn s=some r):∃n,iB (o n) wl af dJ cn s=some r:=by
 unfold iB at h;split at h;cases h;rename_i e ga hr;split at h;rename_i hc;cases h;simp only[Bool.and_eq_true]at hc;obtain⟨n,hn⟩:=Bs hs hr;obtain⟨m,hm⟩:=FF hs hc.1;refine⟨n+m,?_⟩;unfold iB;rw[qp (hs.le n m) hn];have:cn.all (gQ (o (n+m)) wl af dJ ga)=true:=by
  rw[List.all_eq_true]at hm ⊢;exact λx hx=>sx (by rw[Nat.add_comm];exact hs.le m n) (hm x hx)
 simp only[this,hc.2,Bool.and_self,if_true];cases h
theorem tZ{rs:List iE}:∀{c:bw}{s:St} {r},iW L wl af rs c s=some r->∃n,iW (o n) wl af rs c s=some r
 |.skip,_,_,h=>⟨0,h⟩
 |.region dJ draw dm,s,r,h=>by
  unfold iW at h;cases draw with
  |none=>
   simp only at h;split at h;rename_i s' hp;obtain⟨n,hn⟩:=Br hs hp;exact⟨n,by unfold iW;simp only;rw[hn];exact h⟩;cases h
  |some cn=>
   simp only at h;split at h;rename_i s' hp;obtain⟨n,hn⟩:=GS hs hp;exact⟨n,by unfold iW;simp only;rw[hn];exact h⟩;cases h
 |.seq a b,s,r,h=>by
  unfold iW at h;cases ha:iW L wl af rs a s with
  |none=>rw[ha]at h;cases h|some x=>
   rw[ha]at h;obtain⟨n,hn⟩:=tZ ha;obtain⟨e,s'⟩:=x;cases e with
   |normal=>
    obtain⟨m,hm⟩:=tZ h;refine⟨n+m,?_⟩;unfold iW;rw[lO (hs.le n m) hn];exact lO (by rw[Nat.add_comm];exact hs.le m n) hm
   |exit id=>exact⟨n,by unfold iW;rw[hn];exact h⟩|ret v=>exact⟨n,by unfold iW;rw[hn];exact h⟩
 |.cond c ca a cb b,s,r,h=>by
  unfold iW at h;split at h;rename_i hb;obtain⟨n,hn⟩:=tZ h;exact⟨n,by unfold iW;rw[hb];exact hn⟩;rename_i hb;obtain⟨n,hn⟩:=tZ h;exact⟨n,by unfold iW;rw[hb];exact hn⟩;cases h
 |.block id c,s,r,h=>by
  unfold iW at h;cases ha:iW L wl af rs c s with
  |none=>rw[ha]at h;cases h|some x=>
   rw[ha]at h;obtain⟨n,hn⟩:=tZ ha;exact⟨n,by unfold iW;rw[hn];exact h⟩
 |.loop c,s,r,h=>hs.loop _ _ _ _ _ _ h|.exit id,s,r,h=>⟨0,h⟩
 |.ret,s,r,h=>⟨0,h⟩
 |.TR t,s,r,h=>⟨0,h⟩
 |.Ff j k,s,r,h=>⟨0,h⟩
 |.vg t off,s,r,h=>⟨0,h⟩
theorem yb{sf:aH}{args:List AV}{st:aj} {r}(h:ff L wl af sf args st=some r):∃n,ff (o n) wl af sf args st=some r:=by
 unfold ff at h;split at h;rename_i hl;cases hx:iW L (sf.mode.vh st.length wl) (sf.mode.oC st.length af) sf.results sf.body (pI sf args st) with
 |none=>rw[hx]at h;cases h|some x=>
  rw[hx]at h;obtain⟨n,hn⟩:=tZ hs hx;exact⟨n,by unfold ff;rw[if_pos hl,hn];exact h⟩
 cases h
theorem GU{sf:aH}{args:List AV}{st:aj} {r}(h:fQ L wl af sf args st=some r):∃n,fQ (o n) wl af sf args st=some r:=by
 unfold fQ at h;split at h;rename_i Kn;cases hc:ff L 0 0 sf args [] with
 |none=>rw[hc]at h;cases h|some x=>
  rw[hc]at h;obtain⟨n,hn⟩:=yb hs hc;exact⟨n,by unfold fQ;rw[if_pos Kn,hn];exact h⟩
 rename_i Kn;obtain⟨n,hn⟩:=yb hs h;exact⟨n,by unfold fQ;rw[if_neg Kn];exact hn⟩
end
theorem Mo{α:Type}{a b:Option α}(h:∀r,a=some r↔b=some r):a=b:=by
 cases a with
 |none=>cases b with
  |none=>rfl|some y=>exact absurd ((h y).2 rfl) (by simp)
 |some x=>exact((h x).1 rfl).symm
theorem FG(S:Nat->Option aH)(wl af f:Nat)(args:List AV)(st:aj) :
  (bh S).call wl af f args st=match S f with
   |some sf=>fQ (bh S) wl af sf args st|none=>none:=by
 refine Mo λr=>⟨λh=>?_,λh=>?_⟩;obtain⟨n,hn⟩:=(th S).call _ _ _ _ _ _ h;cases n with
 |zero=>cases hn|succ n=>
  change (match S f with|some sf=>fQ (qo S n) wl af sf args st|none=>none)=some r at hn;cases hf:S f with
  |none=>rw[hf]at hn;cases hn|some sf=>rw[hf]at hn;exact ya (sy S n) hn
 cases hf:S f with
 |none=>rw[hf]at h;cases h|some sf=>
  rw[hf]at h;obtain⟨n,hn⟩:=GU (th S) h;refine(sy S (n+1)).call _ _ _ _ _ _ ?_;show (match S f with|some sf=>fQ (qo S n) wl af sf args st|none=>none)=some r;rw[hf];exact hn
theorem NP(S:Nat->Option aH)(wl af:Nat)(rs:List iE)(c:bw)(s:St) :
  (bh S).loop wl af rs c s=match iW (bh S) wl af rs c s with
   |some (.normal,s')=>(bh S).loop wl af rs c s'|r=>r:=by
 refine Mo λr=>⟨λh=>?_,λh=>?_⟩;obtain⟨n,hn⟩:=(th S).loop _ _ _ _ _ _ h;cases n with
 |zero=>cases hn|succ n=>
  change (match iW (qo S n) wl af rs c s with|some (.normal,s')=>(qo S n).loop wl af rs c s'|r=>r)=some r at hn;cases hx:iW (qo S n) wl af rs c s with
  |none=>rw[hx]at hn;cases hn|some x=>
   rw[hx]at hn;rw[lO (sy S n) hx];obtain⟨e,s'⟩:=x;cases e with
   |normal=>exact(sy S n).loop _ _ _ _ _ _ hn|exit id=>exact hn|ret v=>exact hn
 cases hx:iW (bh S) wl af rs c s with
 |none=>rw[hx]at h;cases h|some x=>
  rw[hx]at h;obtain⟨n,hn⟩:=tZ (th S) hx;obtain⟨e,s'⟩:=x;have key:∀m,(qo S m).le (bh S):=sy S;cases e with
  |normal=>
   obtain⟨m,hm⟩:=(th S).loop _ _ _ _ _ _ h;refine(sy S (n+m+1)).loop _ _ _ _ _ _ ?_;show (match iW (qo S (n+m)) wl af rs c s with|some (.normal,s')=>(qo S (n+m)).loop wl af rs c s'|r=>r)=some r;rw[lO (AM S n m) hn];exact(by rw[Nat.add_comm];exact AM S m n:(qo S m).le (qo S (n+m))).loop _ _ _ _ _ _ hm
  |exit id=>
   refine(sy S (n+1)).loop _ _ _ _ _ _ ?_;show (match iW (qo S n) wl af rs c s with|some (.normal,s')=>(qo S n).loop wl af rs c s'|r=>r)=some r;rw[hn];exact h
  |ret v=>
   refine(sy S (n+1)).loop _ _ _ _ _ _ ?_;show (match iW (qo S n) wl af rs c s with|some (.normal,s')=>(qo S n).loop wl af rs c s'|r=>r)=some r;rw[hn];exact h
end Ax
namespace Ax
theorem C1{O:lE}{wl af:Nat}{rs:List iE}{t off:Nat}{s s':St}{x:Ex}(h:iW O wl af rs (.vg t off) s=some (x,s')) :
  x=.normal/\∃id cz i k v v' kM kP,dj s.env t=.val (.ptr id cz i k)/\dA s.st (.ptr id cz i (k+off)) 1=some [v]/\o9 wl v s.st=some (v',kM)/\cu wl af kM (.ptr id cz i (k+off)) [v']=some kP/\s'=⟨s.env,s.bx,kP⟩:=by
 unfold iW at h;split at h;rename_i id cz i k h1;split at h;rename_i v h2;split at h;rename_i v' kM h3;split at h;rename_i kP h4;cases h;exact⟨rfl,id,cz,i,k,v,v',kM,kP,h1,h2,h3,h4,rfl⟩;cases h;cases h;cases h;cases h
end Ax
namespace Ax
open Go
mutual
def AV.cD:AV->Bool
 |.iO _ _|.raw _ _=>false|.agg cs|.fm cs=>AV.eZ cs|_=>true
def AV.eZ:List AV->Bool
 |[]=>true|v::r=>v.cD&&AV.eZ r
end
structure mC where
 a:Option Addr
 cap:Nat
 len:Nat
 sz:Nat
 cz:Nat
 mp:Bool
 vals:List (List Value)
def mC.hd(l:mC):Option Addr×Nat×Nat×Nat×Bool:=(l.a,l.cap,l.len,l.sz,l.mp)
structure bp where
 ls:List mC
 mN:Nat->Option Nat
def Imm(w:World)(G:bp)(b o:Nat):Prop:=b<w.heap.size/\∀p,G.mN b=some p->o<p
inductive bC (w:World) (G:bp):AV->Value->Prop
 |undef:bC w G .undef Go.undef
 |gone (v:Value) (h:v.oneCell'=true):bC w G .gone v
 |bool (b:Bool):bC w G (.bool b) (.bool b)
 |int (k:IntKind) (n:Int):bC w G (.int k n) (.int k n)
 |str (l:List UInt8) (s:ByteArray) (h:s.data.toList=l):bC w G (.str l) (.string s)
 |fF:bC w G .fF (.pointer none)
 |U:bC w G .U (.slice none 0 0)
 |gn:bC w G .gn (.map none)
 |jc:bC w G .jc .nilFunc
 |kg:bC w G .kg .nilIface
 |agg (cs:List AV) (vs:Array Value) (hl:cs.length=vs.size) (h:∀(i:Nat) c v,cs[i]?=some c->vs[i]?=some v->bC w G c v):bC w G (.agg cs) (.agg vs)
 |fm (cs:List AV) (vs:Array Value) (hl:cs.length=vs.size) (h:∀(i:Nat) c v,cs[i]?=some c->vs[i]?=some v->bC w G c v):bC w G (.fm cs) (.tuple vs)
 |dM (sz:Nat) (rows:List (List AV)) (a:Addr) (cap:Nat) (nF:a.spot=none) (g8:rows.length<=cap) (cL:bL sz rows=true)
   (jy:∀r∈rows,AV.eZ r=true) (qL:∀r∈rows,AV.ai r=true) (wW:∀r∈rows,AV.bq r=true)
   (hc:∀(i:Nat) r (j:Nat) c,rows[i]?=some r->r[j]?=some c->Imm w G a.block (a.off+(i*sz+j))/\∃v,w.cell? ⟨a.block,a.off+(i*sz+j),none⟩=some v)
   (hr:∀(i:Nat) r (j:Nat) c v,rows[i]?=some r->r[j]?=some c->w.cell? ⟨a.block,a.off+(i*sz+j),none⟩=some v->bC w G c v) :
   bC w G (.dM sz rows) (.slice (some a) rows.length cap)
 |iO (sz:Nat) (rows:List (List AV)) (a:Addr) (cap:Nat) (nF:a.spot=none) (g8:rows.length<=cap) (cL:bL sz rows=true)
   (jy:∀r∈rows,AV.eZ r=true) (qL:∀r∈rows,AV.ai r=true) (wW:∀r∈rows,AV.bq r=true)
   (hc:∀(i:Nat) r (j:Nat) c,rows[i]?=some r->r[j]?=some c->∃v,w.cell? ⟨a.block,a.off+(i*sz+j),none⟩=some v)
   (hr:∀(i:Nat) r (j:Nat) c v,rows[i]?=some r->r[j]?=some c->w.cell? ⟨a.block,a.off+(i*sz+j),none⟩=some v->bC w G c v)
   (jz:G.mN a.block=some (a.off+rows.length*sz))
   (gT:∃c e,w.heap[a.block]?=some (.cells c e (0,0))/\a.off+cap*sz<=c.size) :
   bC w G (.iO sz rows) (.slice (some a) rows.length cap)
 |raw (sz:Nat) (rows:List (List AV)) (a:Addr) (cap:Nat) (nF:a.spot=none) (g8:rows.length<=cap) (cL:bL sz rows=true)
   (jy:∀r∈rows,AV.eZ r=true) (qL:∀r∈rows,AV.ai r=true) (wW:∀r∈rows,AV.bq r=true)
   (hc:∀(i:Nat) r (j:Nat) c,rows[i]?=some r->r[j]?=some c->∃v,w.cell? ⟨a.block,a.off+(i*sz+j),none⟩=some v)
   (hr:∀(i:Nat) r (j:Nat) c v,rows[i]?=some r->r[j]?=some c->w.cell? ⟨a.block,a.off+(i*sz+j),none⟩=some v->bC w G c v)
   (jz:G.mN a.block=some 0)
   (gT:∃c e,w.heap[a.block]?=some (.cells c e (0,0))/\a.off+cap*sz<=c.size) :
   bC w G (.raw sz rows) (.slice (some a) rows.length cap)
 |mL (a:Addr):bC w G .mL (.slice (some a) 0 0)
 |mu (id cz:Nat) (v:Value) (loc:mC) (hp:∃p n c,v=.slice p n c) (hl:G.ls[id]?=some loc) (hv:cz<=loc.cz) (he:cz=loc.cz->v=.slice loc.a loc.len loc.cap):bC w G (.mu id cz) v
 |ptr (id cz i k:Nat) (v:Value) (loc:mC) (hp:∃a,v=.pointer (some a)) (hl:G.ls[id]?=some loc) (hv:cz<=loc.cz)
   (he:cz=loc.cz->∃a,loc.a=some a/\v=.pointer (some ⟨a.block,a.off+(i*loc.sz+k),none⟩)):bC w G (.ptr id cz i k) v
 |qg (sz:Nat) (rows:List (List AV)) (i k:Nat) (a:Addr) (cap:Nat) (hs:bC w G (.dM sz rows) (.slice (some a) rows.length cap)) :
   bC w G (.qg sz rows i k) (.pointer (some ⟨a.block,a.off+(i*sz+k),none⟩))
 |map (id:Nat) (loc:mC) (b:Nat) (hl:G.ls[id]?=some loc) (hm:loc.mp=true) (hb:loc.a=some ⟨b,0,none⟩):bC w G (.map id) (.map (some b))
 |fn (f:Nat) (first lK:List AV) (vf vc:Array Value) (hl:first.length=vf.size) (hm:lK.length=vc.size)
   (hn:AV.eZ first=true/\AV.eZ lK=true/\f<100000)
   (h:∀(i:Nat) c v,first[i]?=some c->vf[i]?=some v->bC w G c v) (k:∀(i:Nat) c v,lK[i]?=some c->vc[i]?=some v->bC w G c v) :
   bC w G (.fn f first lK) (.func (.func f) vf vc)
mutual
def gu(b:Nat):AV->Value->Nat
 |.iO _ _,.slice (some a) _ _=>if a.block=b then 1 else 0
 |.raw _ _,.slice (some a) _ _=>if a.block=b then 1 else 0
 |.agg cs,.agg vs=>cv b cs vs.toList|.fm cs,.tuple vs=>cv b cs vs.toList|_,_=>0
def cv(b:Nat):List AV->List Value->Nat
 |c::cs,v::vs=>gu b c v+cv b cs vs|_,_=>0
end
theorem vI(b:Nat):∀(cs:List AV)(vs:List Value)(i:Nat)(c:AV)(v:Value),cs[i]?=some c->vs[i]?=some v->gu b c v<=cv b cs vs
 |[],_,_,_,_,h,_=>by simp at h|_::_,[],_,_,_,_,h=>by simp at h|c::cs,v::vs,0,c',v',h,k=>by
  simp at h k;subst h;subst k;simp only[cv];omega
 |c::cs,v::vs,i+1,c',v',h,k=>by
  simp at h k;have:=vI b cs vs i c' v' h k;simp only[cv];omega
mutual
theorem fz(b:Nat):∀(a:AV)(v:Value),a.cD=true->gu b a v=0
 |.iO _ _,_,h=>by simp[AV.cD]at h|.raw _ _,_,h=>by simp[AV.cD]at h|.agg cs,.agg vs,h=>by simp only[gu];exact eF b cs vs.toList (by simpa [AV.cD] using h)|.fm cs,.tuple vs,h=>by simp only[gu];exact eF b cs vs.toList (by simpa [AV.cD] using h)
 |.undef,_,_|.gone,_,_|.bool _,_,_|.int _ _,_,_|.str _,_,_|.fF,_,_|.U,_,_|.gn,_,_|.jc,_,_|.kg,_,_
 |.dM _ _,_,_|.mL,_,_|.mu _ _,_,_|.ptr _ _ _ _,_,_|.qg _ _ _ _,_,_|.map _,_,_|.fn _ _ _,_,_=>by simp[gu]
 |.agg cs,.bool _,_|.agg cs,.int _ _,_|.agg cs,.float _ _,_|.agg cs,.complex _ _ _,_|.agg cs,.string _,_|.agg cs,.pointer _,_|.agg cs,.slice _ _ _,_
 |.agg cs,.map _,_|.agg cs,.chan _,_|.agg cs,.func _ _ _,_|.agg cs,.nilFunc,_|.agg cs,.iface _ _,_|.agg cs,.nilIface,_|.agg cs,.tuple _,_=>by simp[gu]
 |.fm cs,.bool _,_|.fm cs,.int _ _,_|.fm cs,.float _ _,_|.fm cs,.complex _ _ _,_|.fm cs,.string _,_|.fm cs,.pointer _,_|.fm cs,.slice _ _ _,_
 |.fm cs,.map _,_|.fm cs,.chan _,_|.fm cs,.func _ _ _,_|.fm cs,.nilFunc,_|.fm cs,.iface _ _,_|.fm cs,.nilIface,_|.fm cs,.agg _,_=>by simp[gu]
theorem eF(b:Nat):∀(cs:List AV)(vs:List Value),AV.eZ cs=true->cv b cs vs=0
 |[],_,_=>by simp[cv]|_::_,[],_=>by simp[cv]|c::cs,v::vs,h=>by
  simp[AV.eZ]at h;simp only[cv,fz b c v h.1,eF b cs vs h.2]
end
mutual
theorem ua:∀a:AV,a.view.cD=true
 |.iO _ _=>by simp[AV.view,AV.cD]|.raw _ _=>by simp[AV.view,AV.cD]|.agg cs=>by simp only[AV.view,AV.cD];exact gG cs|.fm cs=>by simp only[AV.view,AV.cD];exact gG cs|.undef|.gone|.bool _|.int _ _|.str _|.fF|.U|.gn|.jc|.kg|.dM _ _|.mL|.mu _ _|.ptr _ _ _ _|.qg _ _ _ _|.map _|.fn _ _ _=>by simp[AV.view,AV.cD]
theorem gG:∀cs:List AV,AV.eZ (AV.cq cs)=true
 |[]=>rfl|c::cs=>by simp only[AV.cq,AV.eZ,ua c,gG cs,Bool.and_self]
end
theorem wX:∀(cs:List AV)(i:Nat),(AV.cq cs)[i]?=(cs[i]?).map AV.view
 |[],i=>by simp[AV.cq]|c::cs,0=>by simp[AV.cq]|c::cs,i+1=>by simp[AV.cq,wX cs i]
theorem nM:∀(cs:List AV),(AV.cq cs).length=cs.length
 |[]=>rfl|c::cs=>by simp[AV.cq,nM cs]
theorem de:∀(cs:List AV),AV.eZ cs=true↔∀c∈cs,c.cD=true
 |[]=>by simp[AV.eZ]|c::cs=>by simp[AV.eZ,de cs]
theorem gH:∀(cs:List AV),AV.ai cs=true↔∀c∈cs,c.ax=true
 |[]=>by simp[AV.ai]|c::cs=>by simp[AV.ai,gH cs]
theorem dn{α:Type}{l:List α}{i:Nat}{x:α}(h:l[i]?=some x):x∈l:=List.mem_of_getElem? h
structure sJ (w:World)(G:bp)(w':World)(G':bp):Prop where
 PW:∀b o,Imm w G b o->w'.cell? ⟨b,o,none⟩=w.cell? ⟨b,o,none⟩/\Imm w' G' b o
 Mp:∀(id:Nat) loc,G.ls[id]?=some loc->∃loc',G'.ls[id]?=some loc'/\loc.cz<=loc'.cz/\(loc.cz=loc'.cz\/loc.mp=true->loc'.hd=loc.hd)
theorem sJ.refl(w:World)(G:bp):sJ w G w G:=⟨λ_ _ h=>⟨rfl,h⟩,λ_ loc h=>⟨loc,h,Nat.le_refl _,λ_=>rfl⟩⟩
theorem sJ.trans{w G w' G' w'' G''}(h:sJ w G w' G')(k:sJ w' G' w'' G''):sJ w G w'' G'' where
 PW:=λb o hi=>by
  obtain⟨a1,a2⟩:=h.PW b o hi;obtain⟨b1,b2⟩:=k.PW b o a2;exact⟨b1.trans a1,b2⟩
 Mp:=λid loc hl=>by
  obtain⟨l1,a1,a2,a3⟩:=h.Mp id loc hl;obtain⟨l2,b1,b2,b3⟩:=k.Mp id l1 a1;refine⟨l2,b1,by omega,λe=>?_⟩;rcases e with e|e;have e1:loc.cz=l1.cz:=by omega
  have e2:l1.cz=l2.cz:=by omega
  rw[b3 (.inl e2),a3 (.inl e1)];have h1:=a3 (.inr e);have h2:l1.mp=loc.mp:=congrArg (·.2.2.2.2) h1;exact(b3 (.inr (h2.trans e))).trans h1
theorem bC.jK{w:World}{G:bp}{w':World}{G':bp}{a:AV}{v:Value}(h:bC w G a v)(hs:sJ w G w' G') :
  (∀b,0<gu b a v->G'.mN b=G.mN b/\w'.heap[b]?=w.heap[b]?)->bC w' G' a v:=by
 induction h with
 |undef=>exact λ_=>.undef|gone v h=>exact λ_=>.gone v h|bool b=>exact λ_=>.bool b|int k n=>exact λ_=>.int k n|str l s h=>exact λ_=>.str l s h|fF=>exact λ_=>.fF|U=>exact λ_=>.U|gn=>exact λ_=>.gn|jc=>exact λ_=>.jc|kg=>exact λ_=>.kg|agg cs vs hl h ih=>
  intro ho;refine .agg cs vs hl λi c v hc hv=>ih i c v hc hv λb hb=>ho b ?_;have:=vI b cs vs.toList i c v hc (by simpa using hv);simp only[gu];omega
 |fm cs vs hl h ih=>
  intro ho;refine .fm cs vs hl λi c v hc hv=>ih i c v hc hv λb hb=>ho b ?_;have:=vI b cs vs.toList i c v hc (by simpa using hv);simp only[gu];omega
 |dM sz rows a cap nF g8 cL jy qL wW hc hr ih=>
  intro _;refine .dM sz rows a cap nF g8 cL jy qL wW (λi r j c h1 h2=>?_) (λi r j c v h1 h2 h3=>?_);obtain⟨hi,v,hv⟩:=hc i r j c h1 h2;obtain⟨e,rW⟩:=hs.PW _ _ hi;exact⟨rW,v,e.trans hv⟩;obtain⟨hi,v',FH⟩:=hc i r j c h1 h2;obtain⟨e,rW⟩:=hs.PW _ _ hi;rw[e]at h3;refine ih i r j c v h1 h2 h3 λb hb=>?_;rw[fz b c v ((de r).1 (jy r (dn h1)) c (dn h2))]at hb;omega
 |iO sz rows a cap nF g8 cL jy qL wW hc hr jz gT ih=>
  intro ho;obtain⟨ht,hh⟩:=ho a.block (by simp[gu]);have qh:∀o,w'.cell? ⟨a.block,o,none⟩=w.cell? ⟨a.block,o,none⟩:=λo=>by simp[World.cell?,hh]
  refine .iO sz rows a cap nF g8 cL jy qL wW (λi r j c h1 h2=>?_) (λi r j c v h1 h2 h3=>?_) (ht.trans jz) ?_;obtain⟨v,hv⟩:=hc i r j c h1 h2;exact⟨v,(qh _).trans hv⟩;rw[qh]at h3;refine ih i r j c v h1 h2 h3 λb hb=>?_;rw[fz b c v ((de r).1 (jy r (dn h1)) c (dn h2))]at hb;omega;obtain⟨c,e,h1,h2⟩:=gT;exact⟨c,e,hh.trans h1,h2⟩
 |raw sz rows a cap nF g8 cL jy qL wW hc hr jz gT ih=>
  intro ho;obtain⟨ht,hh⟩:=ho a.block (by simp[gu]);have qh:∀o,w'.cell? ⟨a.block,o,none⟩=w.cell? ⟨a.block,o,none⟩:=λo=>by simp[World.cell?,hh]
  refine .raw sz rows a cap nF g8 cL jy qL wW (λi r j c h1 h2=>?_) (λi r j c v h1 h2 h3=>?_) (ht.trans jz) ?_;obtain⟨v,hv⟩:=hc i r j c h1 h2;exact⟨v,(qh _).trans hv⟩;rw[qh]at h3;refine ih i r j c v h1 h2 h3 λb hb=>?_;rw[fz b c v ((de r).1 (jy r (dn h1)) c (dn h2))]at hb;omega;obtain⟨c,e,h1,h2⟩:=gT;exact⟨c,e,hh.trans h1,h2⟩
 |mL a=>exact λ_=>.mL a|mu id cz v loc hp hl hv he=>
  intro _;obtain⟨loc',a1,a2,a3⟩:=hs.Mp id loc hl;refine .mu id cz v loc' hp a1 (by omega) λe=>?_;have e1:cz=loc.cz:=by omega
  have e2:=a3 (.inl (by omega));rw[show loc'.a=loc.a from congrArg (·.1) e2,show loc'.len=loc.len from congrArg (·.2.2.1) e2,show loc'.cap=loc.cap from congrArg (·.2.1) e2];exact he e1
 |ptr id cz i k v loc hp hl hv he=>
  intro _;obtain⟨loc',a1,a2,a3⟩:=hs.Mp id loc hl;refine .ptr id cz i k v loc' hp a1 (by omega) λe=>?_;have e1:cz=loc.cz:=by omega
  have e2:=a3 (.inl (by omega));rw[show loc'.a=loc.a from congrArg (·.1) e2,show loc'.sz=loc.sz from congrArg (·.2.2.2.1) e2];exact he e1
 |qg sz rows i k a cap hl ih=>exact λ_=>.qg sz rows i k a cap (ih λb hb=>by simp[gu]at hb)|map id loc b hl hm hb=>
  intro _;obtain⟨loc',a1,a2,a3⟩:=hs.Mp id loc hl;have e2:=a3 (.inr hm);exact .map id loc' b a1 ((congrArg (·.2.2.2.2) e2:loc'.mp=loc.mp).trans hm) ((congrArg (·.1) e2:loc'.a=loc.a).trans hb)
 |fn f first lK vf vc hl hm hn h k ih ik=>
  intro _;refine .fn f first lK vf vc hl hm hn (λi c v h1 h2=>ih i c v h1 h2 λb hb=>?_) (λi c v h1 h2=>ik i c v h1 h2 λb hb=>?_)
  rw[fz b c v ((de first).1 hn.1 c (dn h1))]at hb;omega;rw[fz b c v ((de lK).1 hn.2.1 c (dn h1))]at hb;omega
end Ax
namespace Ax
open Go
def wY:Nat->Value->Option AV
 |0,_=>none|d+1,v=>match v with
  |.bool b=>some (.bool b)|.int k n=>some (.int k n)|.string s=>some (.str s.data.toList)|.pointer none=>some .fF|.slice none 0 0=>some .U|.map none=>some .gn|.nilFunc=>some .jc|.nilIface=>some .kg|.agg cs=>match cs.toList.mapM (wY d) with|some l=>some (.agg l)|none=>none
  |_=>none
def wZ(v:Value)(a:AV):Bool:=match wY 3 v with|some b=>b.fG a|none=>false
def qM:List Value->List AV->Bool
 |[],[]=>true|v::vs,a::as=>wZ v a&&qM vs as|_,_=>false
def KC:Operand->Src->Bool
 |.tmp t,.tmp u _=>t==u|.const v,.const a=>wZ v a|.func f,.const (.fn g [] [])=>f==g&&decide (f<100000)|_,_=>false
def iF:List Operand->List Src->Bool
 |[],[]=>true|x::xs,s::ss=>KC x s&&iF xs ss|_,_=>false
def nN(P:Program)(t:TypeId):Option Bool:=match P.underlying t with
 |some (.struct _)|some (.array _ _)=>some true|some _=>some false|none=>none
def dD(P:Program)(t:TypeId)(n:Nat):Bool:=match P.info? t with|some i=>i.size==n|none=>false
def w6(P:Program)(t:TypeId)(n:Nat):Bool:=match P.info? t with|some i=>i.bytes==n|none=>false
def C2(P:Program)(rec:TypeId->Option (List SK)):Nat->List Field->Option (List SK)
 |_,[]=>some []|off,f::fs=>
  if f.offset = off && f.name != "_" then
   match rec f.type with
   |some ks=>if dD P f.type ks.length then (match C2 P rec (off+ks.length) fs with|some r=>some (ks++r)|none=>none) else none
   |none=>none
  else none
def C3(P:Program):Nat->TypeId->Option (List SK)
 |0,_=>none|d+1,t=>match P.underlying t with
  |some .bool=>some [.bool]|some (.int _)=>some [.int]|some .string=>some [.str]|some (.struct fs)=>if P.stoodInHeld t then none else C2 P (C3 P d) 0 fs.toList
  |_=>none
def xT(P:Program)(t:TypeId):EqK->Bool
 |.sc .bool=>match P.underlying t with|some .bool=>true|_=>false
 |.sc _=>false|.ptr=>match P.underlying t with|some (.pointer _)=>true|_=>false
 |.sl=>match P.underlying t with|some (.slice _)=>true|_=>false
 |.fn=>match P.underlying t with|some (.func _ _ _)=>true|_=>false
 |.flat ks=>(match P.underlying t with|some (.struct _)=>true|_=>false)&&C3 P 20 t==some ks && !P.eqGuardType P.depth t
def pJ(P:Program)(t:TypeId):SK->Bool
 |.bool=>match P.underlying t with|some .bool=>true|_=>false
 |.int=>match P.underlying t with|some (.int _)=>true|_=>false
 |.str=>match P.underlying t with|some .string=>true|_=>false
def sK(P:Program)(t:TypeId)(zero:List AV):Bool:=match P.info? t with
 |some i=>(match i.zero with|some z=>qM z.cells.toList zero&&AV.bq zero|none=>false)
 |none=>false
def qY(P:Program)(fs:Array Field):List (Nat×Operand)->List (Nat×Nat)->Bool
 |[],[]=>true|(i,_)::ps,(off,n)::qs=>(match fs[i]? with|some f=>f.offset==off&&dD P f.type n|none=>false)&&qY P fs ps qs|_,_=>false
def w7(x:Operand)(lo hi mx:Option Operand):List Operand:=x::(lo.toList++hi.toList++mx.toList)
def mOp(S:Nat->Option aH)(P:Program)(o:Oper)(so:aK):Bool:=
 (match o.dst,so.dst with|some a,some b=>a==b|none,none=>true|_,_=>false) &&
 match o.op,so.op with
 |.move x,.move|.assign x,.move=>iF [x] so.args|.pick c a b,.pick=>iF [c,a,b] so.args|.binOp op _ x y _,.rV op'=>op==op'&&iF [x,y] so.args|.binOp op t x y _,.qn k neg=>op==(if neg then .neq else .eql)&&iF [x,y] so.args&&xT P t k|.binOp op t x y _,.Mm neg=>op==(if neg then .neq else .eql)&&iF [x,y] so.args&&xT P t .sl|.unOp op _ x,.un op'=>op==op'&&iF [x] so.args|.convert s d x,.conv k=>iF [x] so.args&&(match P.underlying s,P.underlying d with|some (.int _),some (.int k')=>k==k'|_,_=>false)|.nilCheck x,.nilCheck=>iF [x] so.args|.extract x i,.extract j=>i==j&&iF [x] so.args|.field t x f,.field off n agg=>iF [x] so.args&&(match P.underlying t with
  |some (.struct fs)=>(match fs[f]? with|some fd=>fd.offset==off&&dD P fd.type n&&nN P fd.type==some agg|none=>false)
  |_=>false)
 |.build t parts,.build zero qs=>iF (parts.toList.map (·.2)) so.args&&sK P t zero&&(match P.underlying t with
  |some (.struct fs)=>(match fs.toList.mapM (λf=>P.info? f.type) with|some _=>qY P fs parts.toList qs|none=>false)
  |_=>false)
 |.buildSlice t n parts,.lit sz n' zero qs=>n==n'&&iF (parts.toList.map (·.2)) so.args&&(match P.underlying t with
  |some (.slice e)=>dD P e sz&&decide (n*sz<=16777216)&&sK P e zero&&decide (0<sz)&&(zero.length==sz)&&parts.toList.map (·.1)==qs|_=>false)
 |.fieldAddr t x f,.fieldAddr off=>iF [x] so.args&&(match P.underlying t with
  |some (.struct fs)=>(match fs[f]? with
   |some fd=>fd.offset==off&&(match P.info? fd.type with|some i=>i.size != 0|none=>false)|none=>false)
  |_=>false)
 |.indexAddr t x i,.indexAddr sz=>iF [x,i] so.args&&(match P.underlying t with|some (.slice e)=>dD P e sz|_=>false)|.index t x i,.index=>iF [x,i] so.args&&(match P.underlying t with|some .string=>true|_=>false)|.slice t x lo hi mx,.slice wV l h m sz=>iF (w7 x lo hi mx) so.args&&lo.isSome==l&&hi.isSome==h&&mx.isSome==m&&(!m||h)&&(match P.underlying t with
  |some (.slice e)=>!wV&&dD P e sz|some .string=>wV && !m|_=>false)
 |.load t a,.load agg n _|.load t a,.fD _ agg n _=>iF [a] so.args&&dD P t n&&nN P t==some agg&&(agg||n==1)|.store t a v,.store n|.store t a v,.jH _ n=>iF [a,v] so.args&&dD P t n|.alloc t,.alloc zero|.alloc t,.bT _ zero=>so.args.isEmpty&&sK P t zero|.box _ v,.box _|.box _ v,.qW _ _=>iF [v] so.args|.makeSlice t l c,.sH sz bytes zero _=>iF [l,c] so.args&&(match P.underlying t with
  |some (.slice e)=>dD P e sz&&w6 P e bytes&&sK P e zero&&decide (0<sz)&&decide (0<bytes)|_=>false)
 |.makeMap t none,.makeMap=>so.args.isEmpty&&(match P.underlying t with|some (.map _ _)=>true|_=>false)|.mapUpdate t m k v,.mapUpdate kk|.insert t m k v,.mapUpdate kk=>iF [m,k,v] so.args&&(match P.underlying t with
  |some (.map kt _)=>pJ P kt kk|_=>false)
 |.lookup t m k ok,.lookup kk zero ok'=>ok==ok'&&iF [m,k] so.args&&(match P.underlying t with
  |some (.map kt et)=>pJ P kt kk &&
   (match P.info? et with|some i=>(match i.zero with|some z=>wZ z zero|none=>false)|none=>false)
  |_=>false)
 |.makeFunc (.func f) first lK,.makeFunc f' n=>f==f'&&iF (first.toList++lK.toList) so.args&&first.size==n&&decide (f<100000)
 |.call c,.len k=>iF c.args.toList so.args&&c.args.size==1&&(match c.callee,c.argTypes[0]? with
  |.builtin .len,some t=>(match P.underlying t,k with|some .string,.str|some (.slice _),.sl|some (.map _ _),.mp=>true|_,_=>false)
  |_,_=>false)
 |.call c,.append sz bytes|.call c,.jx sz bytes=>iF c.args.toList so.args&&c.args.size==2&&c.argTypes.size==2&&(match c.callee,c.argTypes[0]?,c.argTypes[1]? with
  |.builtin .append,some t,some u=>(match P.underlying t with|some (.slice e)=>dD P e sz&&w6 P e bytes&&decide (0<sz)&&decide (0<bytes)&&(match P.info? e with|some i=>(match i.zero with|some z=>z.cells.size==sz|none=>false)|none=>false)|_=>false) &&
   (match P.underlying u with|some (.slice _)|some .string=>true|_=>false)
  |_,_,_=>false)
 |.call c,.call i=>(match c.callee with
  |.value (.func f)=>iF c.args.toList so.args&&(match S i with|some sf=>sf.eO==f|none=>false)|_=>false)
 |.call c,.qX=>(match c.callee with
  |.value x=>iF (x::c.args.toList) so.args|_=>false)
 |_,.CX 0=>so.args.isEmpty|_,_=>false
end Ax
namespace Ax
open Go
structure nh where
 jF:Option Nat
 vals:List Value
def kQ(w:World)(G:bp)(β:List nh):fq->Value->Prop
 |.none,_=>True|.val a,v=>bC w G a v|.fp j k,v=>∃g b,β[j]?=some g/\g.jF=some b/\v=.pointer (some ⟨b,k,none⟩)
def cM(b:Nat):fq->Value->Nat
 |.val a,v=>gu b a v|_,_=>0
def lg(w:World)(G:bp)(β:List nh):List fq->List Value->Prop
 |[],[]=>True|e::es,v::vs=>kQ w G β e v/\lg w G β es vs|_,_=>False
def mD(b:Nat):List fq->List Value->Nat
 |e::es,v::vs=>cM b e v+mD b es vs|_,_=>0
variable {w:World}{G:bp}{β:List nh}
theorem lg.one{e:fq}{xs:List Value}(h:lg w G β [e] xs):∃v,xs=[v]/\kQ w G β e v:=by
 match xs,h with
 |[v],h=>exact⟨v,rfl,h.1⟩
theorem lg.two{e f:fq}{xs:List Value}(h:lg w G β [e,f] xs):∃v u,xs=[v,u]/\kQ w G β e v/\kQ w G β f u:=by
 match xs,h with
 |[v,u],h=>exact⟨v,u,rfl,h.1,h.2.1⟩
theorem lg.cons{e:fq}{es:List fq}{xs:List Value}(h:lg w G β (e::es) xs):∃v vs,xs=v::vs/\kQ w G β e v/\lg w G β es vs:=by
 match xs,h with
 |v::vs,h=>exact⟨v,vs,rfl,h.1,h.2⟩
theorem lg.vals:∀{es:List fq}{xs:List Value}{vs:List AV},lg w G β es xs->jt es=some vs->
  es=vs.map .val/\vs.length=xs.length/\∀(i:Nat) c v,vs[i]?=some c->xs[i]?=some v->bC w G c v
 |[],[],vs,_,h=>by simp[jt]at h;subst h;exact⟨rfl,rfl,λi c v h _=>by simp at h⟩|.val a::es,x::xs,vs,h,hv=>by
  simp only[jt]at hv;split at hv;rename_i vs' Cb;cases hv;obtain⟨e1,e2,e3⟩:=lg.vals h.2 Cb;refine⟨by rw[e1];rfl,by simp[e2],λi c v h1 h2=>?_⟩;cases i with
  |zero=>simp at h1 h2;subst h1;subst h2;exact h.1|succ i=>simp at h1 h2;exact e3 i c v h1 h2
  cases hv
 |.none::es,_::_,vs,_,hv=>by simp[jt]at hv|.fp _ _::es,_::_,vs,_,hv=>by simp[jt]at hv|[],_::_,_,h,_=>h.elim|_::_,[],_,h,_=>h.elim
theorem C4:∀(b:Nat)(vs:List AV)(xs:List Value),mD b (vs.map .val) xs=cv b vs xs
 |_,[],[]=>rfl|_,[],_::_=>rfl|_,_::_,[]=>rfl|b,a::vs,x::xs=>by simp[mD,cv,cM,C4 b vs xs]
theorem bC.jP{k:IntKind}{n:Int}{v:Value}(h:bC w G (.int k n) v):v=.int k n:=by cases h;rfl
theorem bC.jT{b:Bool}{v:Value}(h:bC w G (.bool b) v):v=.bool b:=by cases h;rfl
theorem bC.mU{l:List UInt8}{v:Value}(h:bC w G (.str l) v):∃s,v=.string s/\s.data.toList=l:=by
 cases h with|str _ s h=>exact⟨s,rfl,h⟩
theorem bC.view{a:AV}{v:Value}(h:bC w G a v):bC w G a.view v:=by
 induction h with
 |undef=>exact .undef|gone v h=>exact .gone v h|bool b=>exact .bool b|int k n=>exact .int k n|str l s h=>exact .str l s h|fF=>exact .fF|U=>exact .U|gn=>exact .gn|jc=>exact .jc|kg=>exact .kg|agg cs vs hl h ih=>
  refine .agg _ vs (by rw[nM];exact hl) λi c v hc hv=>?_;rw[wX]at hc;simp only[Option.map_eq_some_iff]at hc;obtain⟨c',h1,rfl⟩:=hc;exact ih i c' v h1 hv
 |fm cs vs hl h ih=>
  refine .fm _ vs (by rw[nM];exact hl) λi c v hc hv=>?_;rw[wX]at hc;simp only[Option.map_eq_some_iff]at hc;obtain⟨c',h1,rfl⟩:=hc;exact ih i c' v h1 hv
 |dM sz rows a cap nF g8 cL jy qL wW hc hr ih=>exact .dM sz rows a cap nF g8 cL jy qL wW hc hr|iO sz rows a cap nF g8 cL jy qL wW hc hr jz gT ih=>
  refine .dM sz rows a cap nF g8 cL jy qL wW (λi r j c h1 h2=>⟨⟨?_,λp hp=>?_⟩,hc i r j c h1 h2⟩) hr;obtain⟨cc,e,h3,_⟩:=gT;exact(Array.getElem?_eq_some_iff.1 h3).1;rw[jz]at hp;cases hp;have hi:i<rows.length:=(List.getElem?_eq_some_iff.1 h1).1;have hj:j<r.length:=(List.getElem?_eq_some_iff.1 h2).1;have hs:r.length=sz:=by
   simp only[bL,List.all_eq_true,beq_iff_eq]at cL;exact cL r (dn h1)
  have:i*sz+j<rows.length*sz:=by
   calc i*sz+j<i*sz+sz:=by omega
    _=(i+1)*sz:=by rw[Nat.succ_mul]
    _<=rows.length*sz:=Nat.mul_le_mul_right _ hi
  omega
 |raw sz rows a cap nF g8 cL jy qL wW hc hr jz gT ih=>exact .gone _ rfl|mL a=>exact .mL a|mu id cz v loc hp hl hv he=>exact .mu id cz v loc hp hl hv he|ptr id cz i k v loc hp hl hv he=>exact .ptr id cz i k v loc hp hl hv he|qg sz rows i k a cap hl ih=>exact .qg sz rows i k a cap hl|map id loc b hl hm hb=>exact .map id loc b hl hm hb|fn f first lK vf vc hl hm hn h k ih ik=>exact .fn f first lK vf vc hl hm hn h k
theorem kQ.view{e:fq}{v:Value}(h:kQ w G β e v):kQ w G β e.view v:=by
 cases e with
 |none=>trivial|val a=>exact bC.view h|fp j k=>exact h
theorem FI(b:Nat)(e:fq)(v:Value):cM b e.view v=0:=by
 cases e with
 |none=>rfl|val a=>exact fz b _ _ (ua a)|fp j k=>rfl
mutual
theorem GW:∀(a b:AV),a.fG b=true->a=b
 |.undef,b,h=>by cases b<;>simp[AV.fG]at h<;>rfl|.gone,b,h=>by cases b<;>simp[AV.fG]at h<;>rfl|.fF,b,h=>by cases b<;>simp[AV.fG]at h<;>rfl|.U,b,h=>by cases b<;>simp[AV.fG]at h<;>rfl|.gn,b,h=>by cases b<;>simp[AV.fG]at h<;>rfl|.jc,b,h=>by cases b<;>simp[AV.fG]at h<;>rfl|.kg,b,h=>by cases b<;>simp[AV.fG]at h<;>rfl|.mL,b,h=>by cases b<;>simp[AV.fG]at h<;>rfl|.bool x,b,h=>by cases b<;>simp[AV.fG]at h;rw[h]|.int k x,b,h=>by cases b<;>simp[AV.fG]at h;rw[h.1,h.2]|.str x,b,h=>by cases b<;>simp[AV.fG]at h;rw[h]|.agg x,b,h=>by
  cases b<;>simp[AV.fG]at h;rw[tj _ _ h]
 |.fm x,b,h=>by
  cases b<;>simp[AV.fG]at h;rw[tj _ _ h]
 |.dM s x,b,h=>by
  cases b<;>simp[AV.fG]at h;rw[h.1,tn _ _ h.2]
 |.iO s x,b,h=>by
  cases b<;>simp[AV.fG]at h;rw[h.1,tn _ _ h.2]
 |.raw s x,b,h=>by
  cases b<;>simp[AV.fG]at h;rw[h.1,tn _ _ h.2]
 |.mu i v,b,h=>by cases b<;>simp[AV.fG]at h;rw[h.1,h.2]|.ptr i v k l,b,h=>by cases b<;>simp[AV.fG]at h;rw[h.1.1.1,h.1.1.2,h.1.2,h.2]|.qg s x i k,b,h=>by
  cases b<;>simp[AV.fG]at h;rw[h.1.1.1,tn _ _ h.1.1.2,h.1.2,h.2]
 |.map i,b,h=>by cases b<;>simp[AV.fG]at h;rw[h]|.fn f x y,b,h=>by
  cases b<;>simp[AV.fG]at h;rw[h.1.1,tj _ _ h.1.2,tj _ _ h.2]
theorem tj:∀(a b:List AV),AV.pG a b=true->a=b
 |[],b,h=>by cases b<;>simp[AV.pG]at h;rfl|x::a,b,h=>by
  cases b with
  |nil=>simp[AV.pG]at h|cons y b=>
   simp[AV.pG]at h;rw[GW x y h.1,tj a b h.2]
theorem tn:∀(a b:List (List AV)),AV.oE a b=true->a=b
 |[],b,h=>by cases b<;>simp[AV.oE]at h;rfl|x::a,b,h=>by
  cases b with
  |nil=>simp[AV.oE]at h|cons y b=>
   simp[AV.oE]at h;rw[tj x y h.1,tn a b h.2]
end
theorem C5(w:World)(G:bp):∀(d:Nat)(v:Value)(a:AV),wY d v=some a->bC w G a v/\a.cD=true/\a.ax=true
 |0,_,_,h=>by simp[wY]at h|d+1,v,a,h=>by
  unfold wY at h;split at h;cases h;exact⟨.bool _,rfl,rfl⟩;cases h;exact⟨.int _ _,rfl,rfl⟩;cases h;exact⟨.str _ _ rfl,rfl,rfl⟩;cases h;exact⟨.fF,rfl,rfl⟩;cases h;exact⟨.U,rfl,rfl⟩;cases h;exact⟨.gn,rfl,rfl⟩;cases h;exact⟨.jc,rfl,rfl⟩;cases h;exact⟨.kg,rfl,rfl⟩;rename_i cs;split at h;rename_i l hl;cases h;have key:∀(vs:List Value) (l:List AV),vs.mapM (wY d)=some l->vs.length=l.length/\(∀(i:Nat) c v,l[i]?=some c->vs[i]?=some v->bC w G c v/\c.cD=true/\c.ax=true):=by
   intro vs;induction vs with
   |nil=>intro l h;simp at h;subst h;exact⟨rfl,λi c v h _=>by simp at h⟩|cons x vs ih=>
    intro l h;rw[List.mapM_cons]at h;simp only[bind,Option.bind_eq_some_iff,pure,Option.some.injEq]at h;obtain⟨a1,h1,l1,h2,rfl⟩:=h;obtain⟨e1,e2⟩:=ih l1 h2;refine⟨by simp[e1],λi c v hc hv=>?_⟩;cases i with
    |zero=>simp at hc hv;subst hc;subst hv;exact C5 w G d _ _ h1|succ i=>simp at hc hv;exact e2 i c v hc hv
  obtain⟨e1,e2⟩:=key _ _ hl;have kA:∀c∈l,c.cD=true/\c.ax=true:=by
   intro c hc;obtain⟨i,hi,rfl⟩:=List.mem_iff_getElem.1 hc;have Ko:i<cs.toList.length:=(by omega);exact(e2 i l[i] cs.toList[i] (List.getElem?_eq_getElem hi) (List.getElem?_eq_getElem Ko)).2
  refine⟨.agg l cs (by rw[<-e1];simp) λi c v hc hv=>(e2 i c v hc (by simpa using hv)).1,?_,?_⟩;simp only[AV.cD];exact(de l).2 λc hc=>(kA c hc).1;simp only[AV.ax];exact(gH l).2 λc hc=>(kA c hc).2;cases h;cases h
theorem yD{v:Value}{a:AV}(h:wZ v a=true)(w:World)(G:bp):bC w G a v/\a.cD=true/\a.ax=true:=by
 unfold wZ at h;split at h;rename_i b hb;have:=GW _ _ h;subst this;exact C5 w G 3 v b hb;cases h
theorem zm(w:World)(G:bp):∀{vs:List Value}{as:List AV},qM vs as=true->as.length=vs.length/\(∀(i:Nat) c v,as[i]?=some c->vs[i]?=some v->bC w G c v)/\(∀c∈as,c.cD=true/\c.ax=true)
 |[],[],_=>⟨rfl,λi c v h _=>by simp at h,λc h=>by simp at h⟩
 |v::vs,a::as,h=>by
  simp only[qM,Bool.and_eq_true]at h;obtain⟨e1,e2,e3⟩:=zm w G h.2;obtain⟨f1,f2,f3⟩:=yD h.1 w G;refine⟨by simp[e1],λi c u hc hu=>?_,λc hc=>?_⟩;cases i with
  |zero=>simp at hc hu;subst hc;subst hu;exact f1|succ i=>simp at hc hu;exact e2 i c u hc hu
  rcases List.mem_cons.1 hc with rfl|hc;exact⟨f2,f3⟩;exact e3 c hc
 |[],_::_,h=>by simp[qM]at h|_::_,[],h=>by simp[qM]at h
end Ax
namespace Ax
open Go
variable {P:Program}{w:World}{G:bp}
theorem ni{t:TypeId}{n:Nat}(h:dD P t n=true):∃i,P.info? t=some i/\i.size=n/\P.cellsOf t=n:=by
 unfold dD at h;split at h;rename_i i hi;exact⟨i,hi,by simpa using h,by simp[Program.cellsOf,hi];simpa using h⟩;cases h
theorem fo{t:TypeId}{n:Nat}(h:dD P t n=true)(w:World):(Go.sizeOf t).run P w=.ok n w:=by
 obtain⟨i,hi,hs,hc⟩:=ni h;rw[run_sizeOf w hi,hc]
def cG(w:World)(G:bp)(as:List AV)(xs:List Value):Prop:=as.length=xs.length/\∀(i:Nat) c v,as[i]?=some c->xs[i]?=some v->bC w G c v
theorem T6{t:TypeId}{k:SK}{a b:AV}{x y:Value}{r:Bool}(ht:pJ P t k=true)(h:AI k a b=some r)(ha:bC w G a x)(hb:bC w G b y)(D:Nat)(w':World) :
  (Op.equalIn (D+1) t x y).run P w'=.ok r w':=by
 unfold AI at h;split at h;cases h;rw[ha.jT,hb.jT];have hu:P.underlying t=some .bool:=by
  unfold pJ at ht;simp only at ht;split at ht<;>simp_all
 exact run_equalIn_bool w' D t _ _ hu;split at h;rename_i k1 p k2 q hk;cases h;subst hk;rw[ha.jP,hb.jP];have hu:∃q,P.underlying t=some (.int q):=by
  unfold pJ at ht;simp only at ht;split at ht;exact⟨_,by assumption⟩;cases ht
 obtain⟨q,hu⟩:=hu;exact run_equalIn_int w' D t _ q _ _ hu;cases h;cases h;obtain⟨s,rfl,rfl⟩:=ha.mU;obtain⟨s',rfl,rfl⟩:=hb.mU;have hu:P.underlying t=some .string:=by
  unfold pJ at ht;simp only at ht;split at ht<;>simp_all
 rw[run_equalIn_string w' D t _ _ hu,ByteArray.toList_eq,ByteArray.toList_eq];cases h
theorem C6:∀(k1 k2:List SK)(a b:List AV)(r:Bool),AJ (k1++k2) a b=some r->
  ∃r1 r2,AJ k1 (a.take k1.length) (b.take k1.length)=some r1/\AJ k2 (a.drop k1.length) (b.drop k1.length)=some r2/\r=(r1&&r2)
 |[],k2,a,b,r,h=>⟨true,r,by simp[AJ],by simpa using h,by simp⟩
 |k::k1,k2,[],b,r,h=>by cases b<;>simp[AJ]at h|k::k1,k2,a::as,[],r,h=>by simp[AJ]at h|k::k1,k2,a::as,b::bs,r,h=>by
  simp only[List.cons_append,AJ]at h;split at h;rename_i p q hp hq;cases h;obtain⟨r1,r2,e1,e2,rfl⟩:=C6 k1 k2 as bs q hq;exact⟨p&&r1,r2,by simp[AJ,hp,e1],by simpa using e2,by simp[Bool.and_assoc]⟩;cases h
theorem C7:∀(ks:List SK)(a b:List AV)(r:Bool),AJ ks a b=some r->a.length=ks.length/\b.length=ks.length
 |[],[],[],_,_=>⟨rfl,rfl⟩
 |[],[],_::_,_,h=>by simp[AJ]at h|[],_::_,_,_,h=>by simp[AJ]at h|_::_,[],_,_,h=>by simp[AJ]at h|_::_,_::_,[],_,h=>by simp[AJ]at h|k::ks,a::as,b::bs,r,h=>by
  simp only[AJ]at h;split at h;rename_i p q hp hq;obtain⟨e1,e2⟩:=C7 ks as bs q hq;simp[e1,e2];cases h
theorem zn{t:TypeId}{fs:Array Field}{n off:Nat}(hu:P.underlying t=some (.struct fs))(hn:dD P t n=true)(xs:Array Value)(w:World) :
  (part t xs off).run P w=.ok (.agg (xs.extract off (off+n))) w:=by
 simp[part,isAgg,run_underlying hu,fo hn]
theorem Bt{t:TypeId}{k:SK}{off:Nat}{v:Value}(hk:pJ P t k=true){xs:Array Value}(hx:xs[off]?=some v)(w:World) :
  (part t xs off).run P w=.ok v w:=by
 refine run_part_plain w ?_ hx;unfold pJ at hk;unfold Program.plainKey;cases k<;>simp only at hk<;>split at hk<;>simp_all
theorem cG.take{as:List AV}{xs:List Value}(h:cG w G as xs)(n:Nat):cG w G (as.take n) (xs.take n):=by
 refine⟨by simp[h.1],λi c v hc hv=>?_⟩;rw[List.getElem?_take]at hc hv;split at hc;rename_i hi;rw[if_pos hi]at hv;exact h.2 i c v hc hv;cases hc
theorem cG.drop{as:List AV}{xs:List Value}(h:cG w G as xs)(n:Nat):cG w G (as.drop n) (xs.drop n):=by
 refine⟨by simp[h.1],λi c v hc hv=>?_⟩;rw[List.getElem?_drop]at hc hv;exact h.2 _ c v hc hv
def acw(P:Program)(G:bp)(w:World)(D:Nat)(t:TypeId)(ks:List SK):Prop:=
 (∃k,ks=[k]/\pJ P t k=true)\/
 (∃fs,P.underlying t=some (.struct fs))/\∀(xs ys:Array Value) (as bs:List AV) (r:Bool),cG w G as xs.toList->cG w G bs ys.toList->AJ ks as bs=some r->
  (Op.equalIn D t (.agg xs) (.agg ys)).run P w=.ok r w
theorem zo(D:Nat)(xs ys:Array Value)(as bs:List AV)(hx:cG w G as xs.toList)(hy:cG w G bs ys.toList)(rec:TypeId->Option (List SK))
  (acy:∀t ks,rec t=some ks->acw P G w (D+1) t ks):∀(fs:List Field) (off:Nat) (ks:List SK) (r:Bool),C2 P rec off fs=some ks->AJ ks (as.drop off) (bs.drop off)=some r->
  (Op.eqFields (D+1) xs ys fs).run P w=.ok r w
 |[],off,ks,r,h,he=>by
  simp only[C2,Option.some.injEq]at h;subst h;cases ha:as.drop off<;>cases hb:bs.drop off<;>rw[ha,hb]at he<;>simp[AJ]at he;subst he;simp[Op.eqFields]
 |f::fs,off,ks,r,h,he=>by
  unfold C2 at h;split at h;rename_i hc;simp only[Bool.and_eq_true,decide_eq_true_eq,bne_iff_ne]at hc;split at h;rename_i kf hkf;split at h;rename_i qh;split at h;rename_i kr KD;cases h;obtain⟨r1,r2,e1,e2,rfl⟩:=C6 kf kr _ _ r he;have ih:=zo D xs ys as bs hx hy rec acy fs (off+kf.length) kr r2 KD (by simpa [List.drop_drop] using e2);have hf : f.name ≠ "_" := hc.2
  have step:∃a b,(part f.type xs f.offset).run P w=.ok a w/\(part f.type ys f.offset).run P w=.ok b w/\(Op.equalIn (D+1) f.type a b).run P w=.ok r1 w:=by
   rw[hc.1];obtain⟨l1,l2⟩:=C7 _ _ _ _ e1;rcases acy _ _ hkf with⟨k,rfl,hk⟩|⟨⟨gs,hu⟩,kA⟩;simp only[List.length_cons,List.length_nil,Nat.zero_add]at e1 l1 l2;have ha:∃a,as[off]?=some a:=by
    cases h:as[off]? with
    |some a=>exact⟨a,rfl⟩|none=>rw[List.getElem?_eq_none_iff]at h;simp at l1;omega
   have hb:∃b,bs[off]?=some b:=by
    cases h:bs[off]? with
    |some a=>exact⟨a,rfl⟩|none=>rw[List.getElem?_eq_none_iff]at h;simp at l2;omega
   obtain⟨a,ha⟩:=ha;obtain⟨b,hb⟩:=hb;have Kn:off<xs.size:=(by have:=(List.getElem?_eq_some_iff.1 ha).1;have:=hx.1;simp at this;omega);have NQ:off<ys.size:=(by have:=(List.getElem?_eq_some_iff.1 hb).1;have:=hy.1;simp at this;omega);have hxa:=hx.2 off a xs[off] ha (by simp[Kn]);have hyb:=hy.2 off b ys[off] hb (by simp[NQ]);refine⟨xs[off],ys[off],Bt hk (by simp[Kn]) w,Bt hk (by simp[NQ]) w,?_⟩;have:AI k a b=some r1:=by
    have t1:(as.drop off).take 1=[a]:=by
     rw[List.drop_eq_getElem_cons (List.getElem?_eq_some_iff.1 ha).1,(List.getElem?_eq_some_iff.1 ha).2];simp
    have t2:(bs.drop off).take 1=[b]:=by
     rw[List.drop_eq_getElem_cons (List.getElem?_eq_some_iff.1 hb).1,(List.getElem?_eq_some_iff.1 hb).2];simp
    rw[t1,t2]at e1;simp only[AJ]at e1;split at e1;rename_i p q hp hq;cases hq;simpa [hp] using e1;cases e1
   exact T6 hk this hxa hyb D w;refine⟨_,_,zn hu qh xs w,zn hu qh ys w,kA _ _ _ _ _ ?_ ?_ e1⟩;have:=(hx.drop off).take kf.length;simpa [Array.toList_extract,List.extract] using this;have:=(hy.drop off).take kf.length;simpa [Array.toList_extract,List.extract] using this
  obtain⟨a,b,p1,p2,p3⟩:=step;simp only[Op.eqFields,hf,ne_eq,not_false_eq_true,if_true,Sem.run_bind,p1,p2,p3,Result.andThen_ok];cases r1;simp;simpa using ih;cases h;cases h;cases h;cases h
theorem IF:∀(d D:Nat)(t:TypeId)(ks:List SK),d<=D->C3 P d t=some ks->acw P G w (D+1) t ks
 |0,_,_,_,_,h=>by simp[C3]at h|d+1,D,t,ks,hd,h=>by
  unfold C3 at h;split at h;cases h;exact .inl ⟨.bool,rfl,by unfold pJ;simp[*]⟩;cases h;exact .inl ⟨.int,rfl,by unfold pJ;simp[*]⟩;cases h;exact .inl ⟨.str,rfl,by unfold pJ;simp[*]⟩;rename_i fs hu;split at h;cases h;rename_i hs;refine .inr ⟨⟨fs,hu⟩,λxs ys as bs r hx hy he=>?_⟩;have hfs:P.fieldsOf t=fs:=by simp[Program.fieldsOf,hu]
  rw[run_equalIn_struct w D t xs ys (by rw[hfs];exact hu) (by simpa using hs),hfs];obtain⟨D',rfl⟩:∃D',D=D'+1:=⟨D-1,by omega⟩;exact zo D' xs ys as bs hx hy (C3 P d) (λt ks h=>IF d D' t ks (by omega) h) fs.toList 0 ks r h (by simpa using he);cases h
theorem NR{t:TypeId}(h:xT P t (.sc .bool)=true):P.underlying t=some .bool:=by
 simp only[xT]at h;split at h
 assumption
 cases h
theorem PX{t:TypeId}(h:xT P t .ptr=true):∃e,P.underlying t=some (.pointer e):=by
 simp only[xT]at h;split at h;exact⟨_,by assumption⟩;cases h
theorem Mq{t:TypeId}(h:xT P t .sl=true):∃e,P.underlying t=some (.slice e):=by
 simp only[xT]at h;split at h;exact⟨_,by assumption⟩;cases h
theorem T7{t:TypeId}(h:xT P t .fn=true):∃a b c,P.underlying t=some (.func a b c):=by
 simp only[xT]at h;split at h;exact⟨_,_,_,by assumption⟩;cases h
def Mr(x:Value):Prop:=(∀k n,x≠.int k n)/\(∀k n,x≠.float k n)/\(∀s,x≠.string s)/\(∀k r i,x≠.complex k r i)
theorem cN(t:TypeId){x y:Value}(h1:x≠.nilIface)(h2:∀cs,x≠.agg cs)(op:BinOp)(xo yo:Operand)(w:World):(eqGuard op t xo yo x y).run P w=.ok () w:=by
 cases op<;>cases x<;>simp_all [eqGuard]
theorem T8{t:TypeId}{k:EqK}{a b:AV}{x y:Value}{r:Bool}(ht:xT P t k=true)(h:Cx k a b=some r)(ha:bC w G a x)(hb:bC w G b y) :
  (Op.equal t x y).run P w=.ok r w/\(∀op (xo yo:Operand),(eqGuard op t xo yo x y).run P w=.ok () w)/\Mr x:=by
 unfold Op.equal Op.maxDepth;cases k with
 |sc k=>
  cases k with
  |bool=>
   simp only[Cx]at h;have hu:=NR ht;unfold AI at h;split at h<;>try cases h
   rw[ha.jT,hb.jT];exact⟨run_equalIn_bool w 9999 t _ _ hu,λop xo yo=>cN t (by simp) (by simp) op xo yo w,by simp,by simp,by simp,by simp⟩;all_goals simp_all
  |int=>simp[xT]at ht|str=>simp[xT]at ht
 |flat ks=>
  unfold Cx at h;split at h<;>try (cases h;done)
  all_goals try (rename_i heq;cases heq;done)
  rename_i ks' as bs heq;cases heq;cases ha with
  |agg _ xs hl hx=>
   cases hb with
   |agg _ ys sL hy=>
    simp only[xT,Bool.and_eq_true,Bool.not_eq_true']at ht;obtain⟨⟨hu,hf⟩,hg⟩:=ht;have hfk:C3 P 20 t=some ks:=(by simpa using hf);refine⟨?_,λop xo yo=>run_eqGuard_agg w op t xo yo xs ys hg,by simp,by simp,by simp,by simp⟩;rcases IF (w:=w) (G:=G) 20 9999 t ks (by omega) hfk with⟨k,rfl,hk⟩|⟨_,kA⟩;exfalso;unfold pJ at hk;cases k<;>simp only at hk<;>split at hk<;>simp_all;exact kA xs ys as bs r ⟨by simpa using hl,λi c v h1 h2=>hx i c v h1 (by simpa using h2)⟩ ⟨by simpa using sL,λi c v h1 h2=>hy i c v h1 (by simpa using h2)⟩ h
 |ptr=>
  obtain⟨e,hu⟩:=PX ht;have key:∀(p q:Option Addr) (r:Bool),(p=none/\r=q.isNone\/q=none/\r=p.isNone)->(Op.equalIn (9999+1) t (.pointer p) (.pointer q)).run P w=.ok r w:=by
   generalize 9999=D;intro p q r h;rcases h with⟨rfl,rfl⟩|⟨rfl,rfl⟩;cases q<;>simp[Op.equalIn,run_underlying hu];cases p<;>simp[Op.equalIn,run_underlying hu]
  have inv:∀{a x},bC w G a x->(a=.fF->x=.pointer none)/\(∀i v k l,a=.ptr i v k l->∃p,x=.pointer (some p))/\(∀i v k l,a=.qg i v k l->∃p,x=.pointer (some p)):=by
   intro a x h;refine⟨λe=>by subst e;cases h;rfl,λi v k l e=>by subst e;cases h with|ptr _ _ _ _ _ loc hp=>exact hp,λi v k l e=>by subst e;cases h;exact⟨_,rfl⟩⟩
  unfold Cx at h;split at h<;>try (cases h;done)
  all_goals try (rename_i heq;cases heq;done)
  cases h;rw[(inv ha).1 rfl,(inv hb).1 rfl];exact⟨key _ _ _ (.inl ⟨rfl,rfl⟩),λop xo yo=>cN t (by simp) (by simp) op xo yo w,by simp,by simp,by simp,by simp⟩;cases h;obtain⟨p,hp⟩:=(inv hb).2.1 _ _ _ _ rfl;rw[(inv ha).1 rfl,hp];exact⟨key _ _ _ (.inl ⟨rfl,rfl⟩),λop xo yo=>cN t (by simp) (by simp) op xo yo w,by simp,by simp,by simp,by simp⟩;cases h;obtain⟨p,hp⟩:=(inv hb).2.2 _ _ _ _ rfl;rw[(inv ha).1 rfl,hp];exact⟨key _ _ _ (.inl ⟨rfl,rfl⟩),λop xo yo=>cN t (by simp) (by simp) op xo yo w,by simp,by simp,by simp,by simp⟩;cases h;obtain⟨p,hp⟩:=(inv ha).2.1 _ _ _ _ rfl;rw[(inv hb).1 rfl,hp];exact⟨key _ _ _ (.inr ⟨rfl,rfl⟩),λop xo yo=>cN t (by simp) (by simp) op xo yo w,by simp,by simp,by simp,by simp⟩;cases h;obtain⟨p,hp⟩:=(inv ha).2.2 _ _ _ _ rfl;rw[(inv hb).1 rfl,hp];exact⟨key _ _ _ (.inr ⟨rfl,rfl⟩),λop xo yo=>cN t (by simp) (by simp) op xo yo w,by simp,by simp,by simp,by simp⟩
 |sl=>
  obtain⟨e,hu⟩:=Mq ht;have T9:∀(q:Option Addr) (n c:Nat),(Op.equalIn (9999+1) t (.slice none 0 0) (.slice q n c)).run P w=.ok q.isNone w:=by
   generalize 9999=D;intro q n c;simp[Op.equalIn,run_underlying hu]
  have PY:∀(q:Option Addr) (n c:Nat),(Op.equalIn (9999+1) t (.slice q n c) (.slice none 0 0)).run P w=.ok q.isNone w:=by
   generalize 9999=D;intro q n c;cases q<;>simp[Op.equalIn,run_underlying hu]
  have inv:∀{a x},bC w G a x->(a=.U->x=.slice none 0 0)/\(∀s r,a=.dM s r->∃p n c,x=.slice (some p) n c)/\(∀s r,a=.iO s r->∃p n c,x=.slice (some p) n c)/\(a=.mL->∃p n c,x=.slice (some p) n c):=by
   intro a x h;refine⟨λe=>by subst e;cases h;rfl,λs r e=>by subst e;cases h;exact⟨_,_,_,rfl⟩,λs r e=>by subst e;cases h;exact⟨_,_,_,rfl⟩,λe=>by subst e;cases h;exact⟨_,_,_,rfl⟩⟩
  unfold Cx at h;split at h<;>try (cases h;done)
  all_goals try (rename_i heq;cases heq;done)
  cases h;rw[(inv ha).1 rfl,(inv hb).1 rfl];exact⟨T9 _ _ _,λop xo yo=>cN t (by simp) (by simp) op xo yo w,by simp,by simp,by simp,by simp⟩;cases h;obtain⟨p,n,c,hp⟩:=(inv hb).2.1 _ _ rfl;rw[(inv ha).1 rfl,hp];exact⟨T9 _ _ _,λop xo yo=>cN t (by simp) (by simp) op xo yo w,by simp,by simp,by simp,by simp⟩;cases h;obtain⟨p,n,c,hp⟩:=(inv hb).2.2.1 _ _ rfl;rw[(inv ha).1 rfl,hp];exact⟨T9 _ _ _,λop xo yo=>cN t (by simp) (by simp) op xo yo w,by simp,by simp,by simp,by simp⟩;cases h;obtain⟨p,n,c,hp⟩:=(inv hb).2.2.2 rfl;rw[(inv ha).1 rfl,hp];exact⟨T9 _ _ _,λop xo yo=>cN t (by simp) (by simp) op xo yo w,by simp,by simp,by simp,by simp⟩;cases h;obtain⟨p,n,c,hp⟩:=(inv ha).2.1 _ _ rfl;rw[(inv hb).1 rfl,hp];exact⟨PY _ _ _,λop xo yo=>cN t (by simp) (by simp) op xo yo w,by simp,by simp,by simp,by simp⟩;cases h;obtain⟨p,n,c,hp⟩:=(inv ha).2.2.1 _ _ rfl;rw[(inv hb).1 rfl,hp];exact⟨PY _ _ _,λop xo yo=>cN t (by simp) (by simp) op xo yo w,by simp,by simp,by simp,by simp⟩;cases h;obtain⟨p,n,c,hp⟩:=(inv ha).2.2.2 rfl;rw[(inv hb).1 rfl,hp];exact⟨PY _ _ _,λop xo yo=>cN t (by simp) (by simp) op xo yo w,by simp,by simp,by simp,by simp⟩
 |fn=>
  obtain⟨e1,e2,e3,hu⟩:=T7 ht;have k1:∀D,(Op.equalIn (D+1) t .nilFunc .nilFunc).run P w=.ok true w:=λD=>by simp[Op.equalIn,run_underlying hu]
  have k2:∀D f p q,(Op.equalIn (D+1) t .nilFunc (.func f p q)).run P w=.ok false w:=λD f p q=>by simp[Op.equalIn,run_underlying hu]
  have k3:∀D f p q,(Op.equalIn (D+1) t (.func f p q) .nilFunc).run P w=.ok false w:=λD f p q=>by simp[Op.equalIn,run_underlying hu]
  have inv:∀{a x},bC w G a x->(a=.jc->x=.nilFunc)/\(∀f b c,a=.fn f b c->∃p q,x=.func (.func f) p q):=by
   intro a x h;refine⟨λe=>by subst e;cases h;rfl,λs r c e=>by subst e;cases h;exact⟨_,_,rfl⟩⟩
  unfold Cx at h;split at h<;>try (cases h;done)
  all_goals try (rename_i heq;cases heq;done)
  cases h;rw[(inv ha).1 rfl,(inv hb).1 rfl];exact⟨k1 9999,λop xo yo=>cN t (by simp) (by simp) op xo yo w,by simp,by simp,by simp,by simp⟩;cases h;obtain⟨p,q,hp⟩:=(inv hb).2 _ _ _ rfl;rw[(inv ha).1 rfl,hp];exact⟨k2 9999 _ _ _,λop xo yo=>cN t (by simp) (by simp) op xo yo w,by simp,by simp,by simp,by simp⟩;cases h;obtain⟨p,q,hp⟩:=(inv ha).2 _ _ _ rfl;rw[(inv hb).1 rfl,hp];exact⟨k3 9999 _ _ _,λop xo yo=>cN t (by simp) (by simp) op xo yo w,by simp,by simp,by simp,by simp⟩
end Ax
namespace Ax
open Go
variable {P:Program}{w:World}{G:bp}{β:List nh}{ρ:Operand->Value}{o:Oper}
structure vJ (w:World)(G:bp)(sz:Nat)(rows:List (List AV))(loc:mC):Prop where
 FJ:bL sz rows=true
 E5:∀r∈rows,AV.bq r=true
 len:loc.len=rows.length
 size:loc.sz=sz
 tq:loc.vals.length=rows.length
 uc:∀(i:Nat) r xs,rows[i]?=some r->loc.vals[i]?=some xs->cG w G r xs
 sM:(loc.cap=0/\rows=[]/\loc.a.isSome=true)\/∃b off c e,loc.a=some ⟨b,off,none⟩/\0<loc.cap/\w.heap[b]?=some (.cells c e (0,0))/\off+loc.cap*sz<=c.size/\rows.length<=loc.cap/\
  G.mN b=some 0/\∀(i:Nat) xs (j:Nat) x,loc.vals[i]?=some xs->xs[j]?=some x->w.cell? ⟨b,off+(i*sz+j),none⟩=some x
theorem vJ.cell{sz:Nat}{rows:List (List AV)}{loc:mC}(h:vJ w G sz rows loc){b off:Nat}(hc:∀(i:Nat) xs (j:Nat) x,loc.vals[i]?=some xs->xs[j]?=some x->w.cell? ⟨b,off+(i*sz+j),none⟩=some x) :
  ∀(i:Nat) r (j:Nat) x,rows[i]?=some r->r[j]?=some x->∃v,w.cell? ⟨b,off+(i*sz+j),none⟩=some v/\bC w G x v:=by
 intro i r j x h1 h2;have hi:i<loc.vals.length:=by rw[h.tq];exact(List.getElem?_eq_some_iff.1 h1).1
 have hv:=List.getElem?_eq_getElem hi;obtain⟨e1,e2⟩:=h.uc i r _ h1 hv;have hj:j<loc.vals[i].length:=by rw[<-e1];exact(List.getElem?_eq_some_iff.1 h2).1
 exact⟨_,hc i _ j _ hv (List.getElem?_eq_getElem hj),e2 j x _ h2 (List.getElem?_eq_getElem hj)⟩
def qZ(w:World)(G:bp):dz->mC->Prop
 |.rows cz sz rows,loc=>loc.mp=false/\loc.cz=cz/\vJ w G sz rows loc|.map es,loc=>loc.mp=true/\loc.cap=1/\∃b vE clock,loc.a=some ⟨b,0,none⟩/\w.heap[b]?=some (.map vE clock)/\G.mN b=some 0/\vE.size=es.length/\
   ∀(i:Nat) k v e,es[i]?=some (k,v)->vE[i]?=some e->bC w G k e.key/\bC w G v e.val/\v.cD=true/\k.cD=true
structure jQ (w:World)(G:bp)(st:aj):Prop where
 len:G.ls.length=st.length
 aU:∀(id:Nat) ob loc,st[id]?=some ob->G.ls[id]?=some loc->qZ w G ob loc
 nO:∀b p,G.mN b=some p->b<w.heap.size
theorem jQ.loc{st:aj}(h:jQ w G st){id:Nat}{ob:dz}(hs:st[id]?=some ob):∃loc,G.ls[id]?=some loc/\qZ w G ob loc:=by
 have hi:id<st.length:=(List.getElem?_eq_some_iff.1 hs).1;have:id<G.ls.length:=by rw[h.len];exact hi
 exact⟨G.ls[id],List.getElem?_eq_getElem this,h.aU id ob _ hs (List.getElem?_eq_getElem this)⟩
theorem PZ{st:aj}(hI:jQ w G st){a:AV}{v:Value}{rows:List (List AV)}(h:bC w G a v)(hr:fJ st a=some rows) :
  ∃p n c,v=.slice p n c/\n=rows.length:=by
 unfold fJ at hr;split at hr;cases hr;cases h;exact⟨_,_,_,rfl,rfl⟩;cases hr;cases h;exact⟨_,_,_,rfl,rfl⟩;cases hr;cases h;exact⟨_,_,_,rfl,rfl⟩;cases hr;cases h;exact⟨_,_,_,rfl,rfl⟩;rename_i id cz;split at hr;rename_i v' sz eU iu;split at hr;rename_i hv;cases hr;obtain⟨loc,hl,ho⟩:=hI.loc iu;cases h with
 |mu _ _ _ loc' hp sL FH he=>
  rw[hl]at sL;cases sL;obtain⟨h1,h2,h3⟩:=ho;refine⟨_,_,_,he (by omega),h3.len⟩
 cases hr;cases hr;cases hr
theorem acz{op:BinOp}{t yt:TypeId}{x y:Operand}(ho:o.op=.binOp op t x y yt){a b v:AV}(hv:Ca op a b=some v)(ha:bC w G a (ρ x))(hb:bC w G b (ρ y)) :
  ∃u,(execOp ρ o).run P w=.ok (.value u) w/\bC w G v u/\v.cD=true:=by
 unfold Ca at hv;split at hv
 ·rename_i k p l q;split at hv
  ·rename_i hk;subst hk;have hx:=ha.jP;have hy:=hb.jP;simp only[execOp,ho,hx,hy];have hg:∀op (w:World),(eqGuard op t x y (.int k p) (.int k q)).run P w=.ok () w:=λop w=>cN t (by simp) (by simp) op x y w;cases op<;>simp only[lM]at hv<;>(try (cases hv;done))<;>(try (split at hv;· cases hv))<;>cases hv;all_goals first
    |(refine⟨_,?_,.int _ _,rfl⟩;simp[binOp,Op.intArith,Op.intBits,hg];done)
    |(refine⟨_,?_,.bool _,rfl⟩;simp[binOp,Op.intCmp,hg];done)
    |(rename_i h0;refine⟨_,?_,.int _ _,rfl⟩;simp[binOp,Op.intDiv,hg,if_neg h0];done)
  cases hv
 rename_i p q;obtain⟨s,hx,rfl⟩:=ha.mU;obtain⟨s',hy,rfl⟩:=hb.mU;simp only[execOp,ho,hx,hy];have hg:∀op (w:World),(eqGuard op t x y (.string s) (.string s')).run P w=.ok () w:=λop w=>cN t (by simp) (by simp) op x y w;have h1:s.data.toList.length=s.size:=by simp
 have h2:s'.data.toList.length=s'.size:=by simp
 split at hv;split at hv;rename_i hle;cases hv;refine⟨.string (s++s'),?_,.str _ _ (by simp),rfl⟩;have:¬(((s.size+s'.size:Nat):Int) > IntKind.i64.max):=by
  rw[h1,h2]at hle;have:IntKind.i64.max=9223372036854775807:=rfl;omega
 simp only[binOp,Op.stringOp,Sem.run_bind,hg,Result.andThen_ok,if_neg this,Sem.run_pure];cases hv;cases hv;exact⟨_,by simp[binOp,Op.stringOp,hg,ByteArray.toList_eq],.bool _,rfl⟩;cases hv;exact⟨_,by simp[binOp,Op.stringOp,hg,ByteArray.toList_eq],.bool _,rfl⟩;cases hv;cases hv
theorem binOp_eql{x:Value}(h:Mr x)(t:TypeId)(y:Value):binOp .eql t x y=(do pure (.bool (<-Op.equal t x y))):=by
 obtain⟨h1,h2,h3,h4⟩:=h;cases x<;>first|rfl|(cases y<;>first|rfl|simp_all)
theorem binOp_neq{x:Value}(h:Mr x)(t:TypeId)(y:Value):binOp .neq t x y=(do pure (.bool (!(<-Op.equal t x y)))):=by
 obtain⟨h1,h2,h3,h4⟩:=h;cases x<;>first|rfl|(cases y<;>first|rfl|simp_all)
theorem acA{t yt:TypeId}{x y:Operand}{k:EqK}{neg:Bool}(ho:o.op=.binOp (if neg then .neq else .eql) t x y yt)(ht:xT P t k=true){a b:AV}{r:Bool}(hr:Cx k a b=some r)
  (ha:bC w G a (ρ x))(hb:bC w G b (ρ y)):∃u,(execOp ρ o).run P w=.ok (.value u) w/\bC w G (.bool (if neg then !r else r)) u:=by
 obtain⟨h1,h2,h3⟩:=T8 ht hr ha hb;refine⟨_,?_,.bool _⟩;simp only[execOp,ho];cases neg;simp[h2,binOp_eql h3,h1];simp[h2,binOp_neq h3,h1]
theorem Ua{t yt:TypeId}{x y:Operand}{neg:Bool}(ho:o.op=.binOp (if neg then .neq else .eql) t x y yt)(ht:xT P t .sl=true){st:aj}(hI:jQ w G st){id cz v sz:Nat}{rows:List (List AV)}(iu:st[id]?=some (.rows v sz rows))(hv:v=cz)
  (ha:bC w G (.mu id cz) (ρ x))(hb:bC w G .U (ρ y)):(execOp ρ o).run P w=.ok (.value (.bool neg)) w:=by
 obtain⟨loc,hl,Ub⟩:=hI.loc iu;obtain⟨e,hu⟩:=Mq ht;have hy:ρ y=.slice none 0 0:=by
  generalize ρ y=z at hb;cases hb;rfl
 obtain⟨p,n,c,hx⟩:∃p n c,ρ x=.slice (some p) n c:=by
  generalize ρ x=z at ha;cases ha with
  |mu _ _ _ loc' hp sL FH he=>
   rw[hl]at sL;cases sL;obtain⟨h1,h2,h3⟩:=Ub;have hz:=he (by omega);rcases h3.sM with⟨_,_,h4⟩|⟨b,off,c,e,h4,_⟩;obtain⟨a,ha⟩:=Option.isSome_iff_exists.1 h4;rw[ha]at hz;exact⟨_,_,_,hz⟩;rw[h4]at hz;exact⟨_,_,_,hz⟩
 have h1:(Op.equal t (ρ x) (ρ y)).run P w=.ok false w:=by
  have PY:∀(q:Option Addr) (n c:Nat),(Op.equalIn (9999+1) t (.slice q n c) (.slice none 0 0)).run P w=.ok q.isNone w:=by
   generalize 9999=D;intro q n c;cases q<;>simp[Op.equalIn,run_underlying hu]
  rw[hx,hy];unfold Op.equal Op.maxDepth;exact PY (some p) n c
 have h2:∀op (xo yo:Operand),(eqGuard op t xo yo (ρ x) (ρ y)).run P w=.ok () w:=by
  rw[hx,hy];exact λop xo yo=>cN t (by simp) (by simp) op xo yo w
 have h3:Mr (ρ x):=by
  rw[hx];exact⟨by simp,by simp,by simp,by simp⟩
 simp only[execOp,ho];cases neg;simp[h2,binOp_eql h3,h1];simp[h2,binOp_neq h3,h1]
theorem agU{op:UnOp}{t:TypeId}{x:Operand}(ho:o.op=.unOp op t x){a v:AV}(hv:Yg op a=some v)(ha:bC w G a (ρ x)) :
  ∃u,(execOp ρ o).run P w=.ok (.value u) w/\bC w G v u/\v.cD=true:=by
 unfold Yg at hv;split at hv;rename_i k p;split at hv;cases hv;refine⟨_,?_,.int _ _,rfl⟩;simp only[execOp,ho,ha.jP];simp[Op.unary,Op.intArith];cases hv;rename_i b;split at hv;cases hv;refine⟨_,?_,.bool _,rfl⟩;simp only[execOp,ho,ha.jT];simp[Op.unary];cases hv;cases hv
theorem Yj{s d:TypeId}{x:Operand}{k k':IntKind}(ho:o.op=.convert s d x)(hs:P.underlying s=some (.int k'))(hd:P.underlying d=some (.int k)){l:IntKind}{n:Int}(ha:bC w G (.int l n) (ρ x)) :
  (execOp ρ o).run P w=.ok (.value (.int k (k.wrap n))) w:=by
 simp only[execOp,ho,ha.jP];simp[convert,run_underlying hs,run_underlying hd,Conv.intToInt]
theorem acB{c:Call}(ho:o.op=.call c)(hc:c.callee=.builtin .len){x:Operand}{t:TypeId}(hx:c.args.toList=[x])(ht:c.argTypes[0]?=some t){k:LK}
  (hu:match k with|.sl=>∃e,P.underlying t=some (.slice e)|.str=>P.underlying t=some .string|.mp=>∃k e,P.underlying t=some (.map k e))
  {st:aj} (hI:jQ w G st) {a:AV} {n:Nat} (hn:ov st k a=some n) (ha:bC w G a (ρ x)) :
  (execOp ρ o).run P w=.ok (.value (.int .i64 n)) w:=by
 have yc:c.args = #[x]:=by
  have:=congrArg List.toArray hx;simpa using this
 simp only[execOp,ho,resolve,hc,Sem.run_bind,Sem.run_pure,Result.andThen_ok,invoke,builtin,yc];simp only[Builtin.len_];unfold ov at hn;split at hn;obtain⟨s',W3,rfl⟩:=ha.mU;cases hn;simp[ht,run_underlying hu,W3,goInt];cases hn;obtain⟨km,em,hu⟩:=hu;cases h:ρ x<;>rw[h]at ha<;>cases ha;simp[ht,run_underlying hu,goInt,h];obtain⟨km,em,hu⟩:=hu;split at hn;rename_i es iu;cases hn;obtain⟨loc,hl,Ub⟩:=hI.loc iu;generalize KE:ρ x=xv at ha;cases ha with
 |map _ loc' b sL hm hb=>
  rw[hl]at sL;cases sL;obtain⟨h1,h2,b',vE,clock,h3,h4,h5,h6,h7⟩:=Ub;rw[hb]at h3;cases h3;simp[ht,run_underlying hu,KE,goInt,getObj,Sem.run,h4,h6]
 cases hn;obtain⟨e,hu⟩:=hu;split at hn;rename_i rows hr;cases hn;obtain⟨p,m,cc,W3,rfl⟩:=PZ hI ha hr;simp[ht,run_underlying hu,W3,goInt];cases hn;cases hn
end Ax
namespace Ax
open Go
theorem eW{α:Type}:∀(cs:List α)(k:Nat)(vs:List α),(ag cs k vs).length=cs.length
 |[],0,[]=>rfl|[],0,_::_=>rfl|[],_+1,_=>rfl|_::_,0,[]=>rfl|_::cs,0,_::vs=>by simp[ag,eW cs 0 vs]|_::cs,k+1,vs=>by simp[ag,eW cs k vs]
theorem ju{α:Type}:∀(cs:List α)(k:Nat)(vs:List α)(i:Nat),k+vs.length<=cs.length->
  (ag cs k vs)[i]?=if k<=i/\i<k+vs.length then vs[i-k]? else cs[i]?
 |[],0,[],i,_=>by simp[ag]|[],0,_::_,i,h=>by simp at h|[],k+1,vs,i,h=>by simp at h|c::cs,0,[],i,_=>by simp[ag]|c::cs,0,v::vs,0,_=>by simp[ag]|c::cs,0,v::vs,i+1,h=>by
  have:=ju cs 0 vs i (by simp at h ⊢;omega);simp only[ag,List.getElem?_cons_succ,this,List.length_cons,Nat.zero_add,Nat.sub_zero,Nat.zero_le,true_and];by_cases hi:i<vs.length;simp[hi];simp[hi]
 |c::cs,k+1,vs,0,h=>by simp[ag]|c::cs,k+1,vs,i+1,h=>by
  have:=ju cs k vs i (by simp at h;omega);simp only[ag,List.getElem?_cons_succ,this];by_cases hi:k<=i/\i<k+vs.length;rw[if_pos hi,if_pos (by omega),show i+1-(k+1)=i-k by omega];rw[if_neg hi,if_neg (by omega)]
theorem jU{α:Type}(cs:List α)(k:Nat)(vs:List α)(h:k+vs.length<=cs.length):ag cs k vs=cs.take k++vs++cs.drop (k+vs.length):=by
 apply List.ext_getElem?;intro i;rw[ju cs k vs i h];by_cases h1:i<k;rw[if_neg (by omega),List.getElem?_append_left (by simp;omega),List.getElem?_append_left (by simp;omega),List.getElem?_take,if_pos h1];by_cases h2:i<k+vs.length;rw[if_pos (by omega),List.getElem?_append_left (by simp;omega),List.getElem?_append_right (by simp;omega)];simp only[List.length_take];rw[Nat.min_eq_left (by omega)];rw[if_neg (by omega),List.getElem?_append_right (by simp;omega)];simp only[List.length_append,List.length_take,List.getElem?_drop];rw[Nat.min_eq_left (by omega)];congr 1;omega
theorem C8(b:Nat)(xs:List Value):cv b [] xs=0:=by cases xs<;>rfl
theorem gK(b:Nat):∀(as bs:List AV)(xs ys:List Value),as.length=xs.length->cv b (as++bs) (xs++ys)=cv b as xs+cv b bs ys
 |[],bs,[],ys,_=>by simp[cv]|[],_,_::_,_,h=>by simp at h|_::_,_,[],_,h=>by simp at h|a::as,bs,x::xs,ys,h=>by
  simp only[List.cons_append,cv];rw[gK b as bs xs ys (by simpa using h)];omega
theorem lP(b n:Nat)(as:List AV)(xs:List Value)(h:as.length=xs.length):cv b as xs=cv b (as.take n) (xs.take n)+cv b (as.drop n) (xs.drop n):=by
 rw[<-gK b _ _ _ _ (by simp[h]),List.take_append_drop,List.take_append_drop]
theorem FK(b n:Nat)(as:List AV)(xs:List Value)(h:as.length=xs.length):cv b (as.drop n) (xs.drop n)<=cv b as xs:=by
 have:=lP b n as xs h;omega
theorem NS(b n:Nat)(as:List AV)(xs:List Value)(h:as.length=xs.length):cv b (as.take n) (xs.take n)<=cv b as xs:=by
 have:=lP b n as xs h;omega
theorem ri(b:Nat)(as vs:List AV)(xs ys:List Value)(k:Nat)(h1:as.length=xs.length)(h2:vs.length=ys.length)(h:k+vs.length<=as.length) :
  cv b (ag as k vs) (ag xs k ys)<=cv b as xs+cv b vs ys:=by
 rw[jU _ _ _ h,jU _ _ _ (by omega)];rw[gK b _ _ _ _ (by simp;omega),gK b _ _ _ _ (by simp;omega)];have e1:=lP b k as xs h1;have e2:=FK b vs.length (as.drop k) (xs.drop k) (by simp;omega);rw[List.drop_drop,List.drop_drop]at e2;rw[h2]at *;omega
section
variable {w:World}{G:bp}
theorem cG.ag{as vs:List AV}{xs ys:List Value}(h:cG w G as xs)(k:cG w G vs ys){n:Nat}(hn:n+vs.length<=as.length):cG w G (Ax.ag as n vs) (Ax.ag xs n ys):=by
 refine⟨by rw[eW,eW];exact h.1,λi c v hc hv=>?_⟩;have h1:=h.1;have h2:=k.1;rw[ju _ _ _ _ hn]at hc;rw[ju _ _ _ _ (by omega)]at hv;rw[<-h2]at hv;split at hc;rename_i hi;rw[if_pos hi]at hv;exact k.2 _ c v hc hv;rename_i hi;rw[if_neg hi]at hv;exact h.2 _ c v hc hv
theorem bC.cells{a:AV}{v:Value}(h:bC w G a v):cG w G a.cells v.cells.toList/\∀b,cv b a.cells v.cells.toList=gu b a v:=by
 have one:∀{a:AV} {v:Value},bC w G a v->(∀cs,a≠.agg cs)->(∀cs,v≠.agg cs)->cG w G a.cells v.cells.toList/\∀b,cv b a.cells v.cells.toList=gu b a v:=by
  intro a v h h1 h2;have e1:a.cells=[a]:=by cases a<;>first|rfl|exact absurd rfl (h1 _)
  have e2:v.cells = #[v]:=by cases v<;>first|rfl|exact absurd rfl (h2 _)
  rw[e1,e2];refine⟨⟨rfl,λi c x hc hx=>?_⟩,λb=>by simp[cv]⟩;cases i with
  |zero=>simp at hc hx;subst hc;subst hx;exact h|succ i=>simp at hc
 cases a with
 |agg cs=>
  cases h with
  |agg _ vs hl hh=>exact⟨⟨by simpa [AV.cells,Value.cells] using hl,λi c x hc hx=>hh i c x hc (by simpa [Value.cells] using hx)⟩,λb=>by simp[AV.cells,Value.cells,gu]⟩
 |gone=>
  refine one h (by simp) λcs e=>?_;subst e;cases h with|gone _ h=>simp[Value.oneCell']at h
 |mu id cz=>
  refine one h (by simp) λcs e=>?_;subst e;cases h with|mu _ _ _ _ hp=>obtain⟨p,n,c,hp⟩:=hp;cases hp
 |ptr id cz i k=>
  refine one h (by simp) λcs e=>?_;subst e;cases h with|ptr _ _ _ _ _ _ hp=>obtain⟨p,hp⟩:=hp;cases hp
 |undef=>refine one h (by simp) λcs e=>?_;subst e;generalize hx:Value.agg cs=x at h;cases h;cases hx|bool _|int _ _|str _|fF|U|gn|jc|kg|fm _|dM _ _|iO _ _|raw _ _|mL|qg _ _ _ _|map _|fn _ _ _=>
  refine one h (by simp) λcs e=>?_;subst e;cases h
theorem P1{a:AV}{v:Value}(h:bC w G a v)(hc:a.cy=true):v.oneCell'=true:=by
 cases h with
 |agg _ _ _ _=>simp[AV.cy]at hc|fm _ _ _ _=>simp[AV.cy]at hc|undef=>simp[AV.cy]at hc|gone _ h=>exact h|mu _ _ _ _ hp=>obtain⟨p,n,c,rfl⟩:=hp;rfl|ptr _ _ _ _ _ _ hp=>obtain⟨p,rfl⟩:=hp;rfl|_=>rfl
theorem cG.Yk{as:List AV}{xs:List Value}(h:cG w G as xs)(hc:AV.bq as=true):∀v∈xs,v.oneCell'=true:=by
 intro v hv;obtain⟨i,hi,rfl⟩:=List.mem_iff_getElem.1 hv;have rW:i<as.length:=by have:=h.1;omega
 refine P1 (h.2 i as[i] xs[i] (List.getElem?_eq_getElem rW) (List.getElem?_eq_getElem hi)) ?_;simp only[AV.bq,List.all_eq_true]at hc;exact hc _ (List.getElem_mem rW)
theorem cG.mono{as:List AV}{xs:List Value}{w':World}{G':bp}(h:cG w G as xs)(hs:sJ w G w' G')(ho:∀b,0<cv b as xs->G'.mN b=G.mN b/\w'.heap[b]?=w.heap[b]?):cG w' G' as xs:=
 ⟨h.1,λi c v hc hv=>(h.2 i c v hc hv).jK hs λb hb=>ho b (by have:=vI b as xs i c v hc hv;omega)⟩
end
theorem KF(off:Nat)(l:List Value)(cs:Array Value)(h:off+l.length<=cs.size) :
  (l.toArray.zipIdx.foldl (λcs (c,j)=>cs.setIfInBounds (off+j) c) cs).toList=ag cs.toList off l:=by
 have key:∀(l:List Value) (s:Nat) (cs:Array Value),off+s+l.length<=cs.size->
   ((l.zipIdx s).foldl (λ(cs:Array Value) (x:Value×Nat)=>cs.setIfInBounds (off+x.2) x.1) cs).toList=ag cs.toList (off+s) l:=by
  intro l;induction l with
  |nil=>intro s cs h;simp;rw[jU _ _ _ (by simpa using h)];simp|cons v l ih=>
   intro s cs h;simp only[List.length_cons]at h;rw[List.zipIdx_cons,List.foldl_cons,ih (s+1) _ (by simp;omega)];simp only[Array.toList_setIfInBounds];apply List.ext_getElem?;intro i;rw[ju _ _ _ _ (by simp;omega),ju _ _ _ _ (by simp;omega)];simp only[List.length_cons];by_cases hi:i=off+s;subst hi;rw[if_neg (by omega),if_pos (by omega),List.getElem?_set_self (by simp;omega)];simp;by_cases h2:off+s<=i/\i<off+s+(l.length+1);rw[if_pos (by omega),if_pos h2];have:i-(off+s)=(i-(off+(s+1)))+1:=by omega
   rw[this,List.getElem?_cons_succ];rw[if_neg (by omega),if_neg h2,List.getElem?_set,if_neg (by omega)]
 have:=key l 0 cs (by simpa using h);simp only[Nat.add_zero]at this;rw[<-this,<-Array.foldl_toList];simp
end Ax
