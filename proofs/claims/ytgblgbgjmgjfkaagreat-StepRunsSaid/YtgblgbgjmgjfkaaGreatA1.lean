/- The library of this proof, part 1: an abstract interpreter of the loaded code, and its soundness. -/
import Derived.Calls
import Derived.Laws.Sem
import Derived.Laws.Entries
import Derived.ChangeKeysEq
import Derived.Laws.StructEq
import Derived.Laws.Pointers
import Derived.Great.FillDense

namespace Ax
open Go
inductive AV where
 |undef|gone
 |bool (b:Bool)|int (k:IntKind) (n:Int)|str (s:List UInt8)
 |nilPtr|nilSl|nilMap|nilFn|nilIf
 |agg (cs:List AV)|tup (vs:List AV)
 |lst (sz:Nat) (rows:List (List AV))
 |own (sz:Nat) (rows:List (List AV))
 |raw (sz:Nat) (rows:List (List AV))
 |emp
 |mu (id ver:Nat)
 |ptr (id ver i k:Nat)
 |pel (sz:Nat) (rows:List (List AV)) (i k:Nat)
 |map (id:Nat)
 |fn (f:Nat) (first caps:List AV)
 deriving Inhabited
mutual
def AV.isPure:AV->Bool
 |.mu _ _|.ptr _ _ _ _|.map _=>false
 |.agg cs|.tup cs=>AV.allPure cs
 |.fn _ a b=>AV.allPure a&&AV.allPure b
 |_=>true
def AV.allPure:List AV->Bool
 |[]=>true
 |v::r=>v.isPure&&AV.allPure r
end
mutual
def AV.view:AV->AV
 |.own sz rows=>.lst sz rows
 |.raw _ _=>.gone
 |.agg cs=>.agg (AV.viewL cs)
 |.tup cs=>.tup (AV.viewL cs)
 |v=>v
def AV.viewL:List AV->List AV
 |[]=>[]
 |v::r=>v.view::AV.viewL r
end
mutual
def AV.same:AV->AV->Bool
 |.undef,.undef|.gone,.gone|.nilPtr,.nilPtr|.nilSl,.nilSl|.nilMap,.nilMap|.nilFn,.nilFn|.nilIf,.nilIf|.emp,.emp=>true
 |.bool a,.bool b=>a==b
 |.int k a,.int l b=>k==l&&a==b
 |.str a,.str b=>a==b
 |.agg a,.agg b|.tup a,.tup b=>AV.sameL a b
 |.lst s a,.lst t b|.own s a,.own t b|.raw s a,.raw t b=>s==t&&AV.sameLL a b
 |.mu i v,.mu j w=>i==j&&v==w
 |.ptr a b c d,.ptr a' b' c' d'=>a==a'&&b==b'&&c==c'&&d==d'
 |.pel s a i k,.pel t b j l=>s==t&&AV.sameLL a b&&i==j&&k==l
 |.map i,.map j=>i==j
 |.fn f a b,.fn g c d=>f==g&&AV.sameL a c&&AV.sameL b d
 |_,_=>false
def AV.sameL:List AV->List AV->Bool
 |[],[]=>true
 |a::x,b::y=>a.same b&&AV.sameL x y
 |_,_=>false
def AV.sameLL:List (List AV)->List (List AV)->Bool
 |[],[]=>true
 |a::x,b::y=>AV.sameL a b&&AV.sameLL x y
 |_,_=>false
end
def AV.cells:AV->List AV
 |.agg cs=>cs
 |v=>[v]
def AV.isCell:AV->Bool
 |.agg _|.tup _|.undef=>false
 |_=>true
def AV.allCells(cs:List AV):Bool:=cs.all AV.isCell
def AV.took:AV->AV
 |.own _ _=>.gone
 |.raw _ _=>.gone
 |v=>v
inductive Ent where
 |none
 |val (v:AV)
 |fp (j k:Nat)
 deriving Inhabited
def Ent.view:Ent->Ent
 |.val v=>.val v.view
 |e=>e
def Ent.same:Ent->Ent->Bool
 |.none,.none=>true
 |.val a,.val b=>a.same b
 |.fp j k,.fp l m=>j==l&&k==m
 |_,_=>false
def Ent.notFp(j:Nat):Ent->Bool
 |.fp j' _=>j' != j
 |_=>true
inductive AObj where
 |rows (ver sz:Nat) (rows:List (List AV))
 |map (es:List (AV×AV))
 deriving Inhabited
abbrev Store:=List AObj
abbrev Boxes:=List (List AV)
inductive Src where
 |tmp (t:Nat) (mv:Bool)
 |const (a:AV)
 deriving Inhabited
abbrev Env:=List (Nat×Ent)
def getE:Env->Nat->Ent
 |[],_=>.none
 |(k,e)::r,t=>if k=t then e else getE r t
def setE:Env->Nat->Ent->Env
 |[],t,e=>[(t,e)]
 |(k,x)::r,t,e=>if t<k then (t,e)::(k,x)::r else if t=k then (t,e)::r else (k,x)::setE r t e
def delE:Env->Nat->Env
 |[],_=>[]
 |(k,x)::r,t=>if k=t then delE r t else (k,x)::delE r t
def rdE(env:Env):Src->Ent
 |.tmp t true=>getE env t
 |.tmp t false=>(getE env t).view
 |.const a=>.val a
def killE:Env->Src->Env
 |env,.tmp t true=>delE env t
 |env,_=>env
structure St where
 env:Env
 bx:Boxes
 st:Store
 deriving Inhabited
inductive Mode where
 |pure|scp|opn
 deriving DecidableEq,Inhabited
inductive SK where
 |bool|int|str
 deriving DecidableEq,Inhabited
inductive LK where
 |str|sl|mp
 deriving DecidableEq,Inhabited
inductive EqK where
 |sc (k:SK)
 |ptr|sl|fn
 |flat (ks:List SK)
 deriving DecidableEq,Inhabited
inductive SOp where
 |move
 |pick
 |bin (op:BinOp)
 |eqv (k:EqK) (neg:Bool)
 |muNil (neg:Bool)
 |un (op:UnOp)
 |conv (k:IntKind)
 |toStr
 |len (k:LK)
 |minmax (mx:Bool)
 |nilCheck
 |extract (i:Nat)
 |field (off n:Nat) (agg:Bool)
 |build (zero:List AV) (parts:List (Nat×Nat))
 |lit (sz n:Nat) (zero:List AV) (parts:List Nat)
 |litM (sz n:Nat) (zero:List AV) (parts:List Nat)
 |fieldAddr (off:Nat)
 |indexAddr (sz:Nat)
 |index
 |slice (isS lo hi mx:Bool) (sz:Nat)
 |sliceM (sz:Nat)
 |load (agg:Bool) (n:Nat) (take:Bool)
 |loadF (j:Nat) (agg:Bool) (n:Nat) (take:Bool)
 |store (n:Nat)
 |storeF (j n:Nat)
 |alloc (zero:List AV)
 |allocF (j:Nat) (zero:List AV)
 |box (n:Nat)
 |boxF (j n:Nat)
 |append (sz bytes:Nat)
 |appendM (sz bytes:Nat)
 |makeSl (sz bytes:Nat) (zero:List AV) (mt:Bool)
 |makeRaw (sz bytes:Nat) (zero:List AV)
 |appendZ (sz bytes:Nat) (zero:List AV)
 |capN
 |makeMap
 |mapUpdate (kk:SK)
 |lookup (kk:SK) (zero:AV) (ok:Bool)
 |makeFunc (f nfirst:Nat)
 |call (f:Nat)
 |callV
 |copy (sz:Nat)
 deriving Inhabited
structure SOper where
 dst:Option Nat
 op:SOp
 args:List Src
 guard:Option (Nat×Bool)
 deriving Inhabited
inductive SCode where
 |skip
 |region (ops:List SOper) (draw:Option (List (Nat×Nat))) (clr:List Nat)
 |seq (a b:SCode)
 |cond (c:Src) (clrT:List Nat) (thn:SCode) (clrE:List Nat) (els:SCode)
 |block (id:Nat) (body:SCode)
 |loop (body:SCode)
 |exit (id:Nat)
 |ret
 |frz (t:Nat)
 |frzB (j k:Nat)
 |frzH (t off:Nat)
 deriving Inhabited
inductive SRes where
 |tmp (t:Nat) (mv:Bool)
 |box (t j n:Nat) (agg:Bool)
 |cell (t:Nat) (n:Nat) (agg:Bool)
 deriving Inhabited
structure SFunc where
 fid:Nat
 mode:Mode
 nparams:Nat
 nboxes:Nat
 clr:List Nat
 results:List SRes
 body:SCode
 deriving Inhabited
inductive Ex where
 |normal
 |exit (id:Nat)
 |ret (v:AV)
 deriving Inhabited
structure Orc where
 call:Nat->Nat->Nat->List AV->Store->Option (AV×Store)
 loop:Nat->Nat->List SRes->SCode->St->Option (Ex×St)
def room:Nat:=140737488355328
def eqS:SK->AV->AV->Option Bool
 |.bool,.bool a,.bool b=>some (a==b)
 |.int,.int k a,.int l b=>if k=l then some (a==b) else none
 |.str,.str a,.str b=>some (a==b)
 |_,_,_=>none
def eqF:List SK->List AV->List AV->Option Bool
 |[],[],[]=>some true
 |k::ks,a::as,b::bs=>match eqS k a b,eqF ks as bs with
  |some p,some q=>some (p&&q)
  |_,_=>none
 |_,_,_=>none
def eqK:EqK->AV->AV->Option Bool
 |.sc k,a,b=>eqS k a b
 |.flat ks,.agg a,.agg b=>eqF ks a b
 |.ptr,.nilPtr,.nilPtr=>some true
 |.ptr,.nilPtr,.ptr _ _ _ _|.ptr,.nilPtr,.pel _ _ _ _|.ptr,.ptr _ _ _ _,.nilPtr|.ptr,.pel _ _ _ _,.nilPtr=>some false
 |.fn,.nilFn,.nilFn=>some true
 |.fn,.nilFn,.fn _ _ _|.fn,.fn _ _ _,.nilFn=>some false
 |.sl,.nilSl,.nilSl=>some true
 |.sl,.nilSl,.lst _ _|.sl,.nilSl,.own _ _|.sl,.nilSl,.emp|.sl,.lst _ _,.nilSl|.sl,.own _ _,.nilSl|.sl,.emp,.nilSl=>some false
 |_,_,_=>none
def intBin(op:BinOp)(k:IntKind)(a b:Int):Option AV:=
 match op with
 |.add=>some (.int k (k.wrap (a+b)))
 |.sub=>some (.int k (k.wrap (a-b)))
 |.mul=>some (.int k (k.wrap (a*b)))
 |.quo=>if b=0 then none else some (.int k (k.wrap (a.tdiv b)))
 |.rem=>if b=0 then none else some (.int k (a.tmod b))
 |.and=>some (.int k (k.wrap ((BitVec.ofInt k.bits a &&& BitVec.ofInt k.bits b).toNat)))
 |.eql=>some (.bool (a==b))
 |.neq=>some (.bool (a != b))
 |.lss=>some (.bool (decide (a<b)))
 |.leq=>some (.bool (decide (a<=b)))
 |.gtr=>some (.bool (decide (a > b)))
 |.geq=>some (.bool (decide (a ≥ b)))
 |_=>none
def binV(op:BinOp):AV->AV->Option AV
 |.int k a,.int l b=>if k=l then intBin op k a b else none
 |.str a,.str b=>
  match op with
  |.add=>if a.length+b.length<=4611686018427387904 then some (.str (a++b)) else none
  |.eql=>some (.bool (a==b))
  |.neq=>some (.bool (!(a==b)))
  |_=>none
 |_,_=>none
def unV(op:UnOp):AV->Option AV
 |.int k a=>match op with|.neg=>some (.int k (k.wrap (0-a)))|_=>none
 |.bool b=>match op with|.not=>some (.bool (!b))|_=>none
 |_=>none
def rowsOf(st:Store):AV->Option (List (List AV))
 |.nilSl|.emp=>some []
 |.lst _ rows|.own _ rows=>some rows
 |.mu id ver=>match st[id]? with
  |some (.rows v _ rows)=>if v=ver then some rows else none
  |_=>none
 |_=>none
def bytesRows(s:List UInt8):List (List AV):=s.map fun b=>[.int .u8 b.toNat]
def bringsOf(st:Store):AV->Option (List (List AV))
 |.str s=>some (bytesRows s)
 |.mu id ver=>match rowsOf st (.mu id ver) with|some rows=>some (rows.map AV.viewL)|none=>none
 |v=>rowsOf st v
def fits(sz:Nat)(rows:List (List AV)):Bool:=rows.all fun r=>r.length==sz
def lenV(st:Store):LK->AV->Option Nat
 |.str,.str s=>some s.length
 |.mp,.nilMap=>some 0
 |.mp,.map id=>match st[id]? with|some (.map es)=>some es.length|_=>none
 |.sl,v=>match rowsOf st v with|some rows=>some rows.length|none=>none
 |_,_=>none
def cut(cs:List AV)(k n:Nat):Option (List AV):=if k+n<=cs.length then some ((cs.drop k).take n) else none
def readP(st:Store):AV->Nat->Option (List AV)
 |.ptr id ver i k,n=>match st[id]? with
  |some (.rows v _ rows)=>if v=ver then match rows[i]? with|some r=>cut r k n|none=>none else none
  |_=>none
 |.pel _ rows i k,n=>match rows[i]? with|some r=>cut r k n|none=>none
 |_,_=>none
def paste{α:Type}:List α->Nat->List α->List α
 |cs,0,[]=>cs
 |_::cs,0,v::vs=>v::paste cs 0 vs
 |c::cs,k+1,vs=>c::paste cs k vs
 |[],_,_=>[]
def mayWrite(wl lim id:Nat)(cells:List AV):Bool:=decide (wl<=id)&&(decide (lim<=id)||AV.allPure cells)
def writeP(wl lim:Nat)(st:Store):AV->List AV->Option Store
 |.ptr id ver i k,cells=>match st[id]? with
  |some (.rows v sz rows)=>
   if v=ver&&mayWrite wl lim id cells then
    match rows[i]? with
    |some r=>if k+cells.length<=r.length then some (st.set id (.rows v sz (rows.set i (paste r k cells)))) else none
    |none=>none
   else none
  |_=>none
 |_,_=>none
def oneOrAgg(agg:Bool)(cells:List AV):Option AV:=
 if agg then some (.agg cells) else match cells with | [v]=>some v|_=>none
def fillCells:List AV->List (Nat×Nat)->List AV->Option (List AV)
 |cs,[],[]=>some cs
 |cs,(off,n)::ps,v::vs=>
  if v.cells.length=n&&off+n<=cs.length then fillCells (paste cs off v.cells) ps vs else none
 |_,_,_=>none
def fillRows(sz:Nat):List (List AV)->List Nat->List AV->Option (List (List AV))
 |rows,[],[]=>some rows
 |rows,i::ps,v::vs=>if v.cells.length=sz&&i<rows.length then fillRows sz (rows.set i v.cells) ps vs else none
 |_,_,_=>none
def findV(kk:SK)(k:AV):List (AV×AV)->Option (Option AV)
 |[]=>some none
 |(a,v)::r=>match eqS kk k a with|some true=>some (some v)|some false=>findV kk k r|none=>none
def putV(kk:SK)(k v:AV):List (AV×AV)->Option (List (AV×AV))
 |[]=>some [(k,v)]
 |(a,u)::r=>match eqS kk k a with
  |some true=>some ((k,v)::r)
  |some false=>match putV kk k v r with|some r'=>some ((a,u)::r')|none=>none
  |none=>none
def isKey:SK->AV->Bool
 |.int,.int _ _|.str,.str _|.bool,.bool _=>true
 |_,_=>false
def valsOf:List Ent->Option (List AV)
 |[]=>some []
 |.val v::r=>match valsOf r with|some vs=>some (v::vs)|none=>none
 |_::_=>none
def bytesOf:List (List AV)->Option (List UInt8)
 |[]=>some []
 |[.int .u8 n]::r=>if 0<=n/\n<256 then match bytesOf r with|some l=>some (UInt8.ofNat n.toNat::l)|none=>none else none
 |_=>none
def boundOf(has:Bool)(dflt:Int)(l:List Ent):Option (Int×List Ent):=
 if has then match l with|.val (.int .i64 n)::r=>some (n,r)|_=>none else some (dflt,l)
def sliceV(isS:Bool)(sz:Nat)(x:AV)(lo hi:Int)(mx:Option Int):Option AV:=
 match isS,x with
 |true,.str s=>if mx.isNone&&decide (0<=lo)&&decide (lo<=hi)&&decide (hi<=s.length) then some (.str ((s.take hi.toNat).drop lo.toNat)) else none
 |false,.nilSl=>if lo=0&&hi=0&&(match mx with|some m=>m==0|none=>true) then some .nilSl else none
 |false,.emp=>if lo=0&&hi=0&&(match mx with|some m=>m==0|none=>true) then some .emp else none
 |false,.lst s rows|false,.own s rows=>
  match mx with
  |none=>if s=sz&&decide (0<=lo)&&decide (lo<=hi)&&decide (hi<=rows.length) then some (.lst sz ((rows.take hi.toNat).drop lo.toNat)) else none
  |some m=>if lo=0&&hi=0&&m=0 then some .emp else none
 |_,_=>none
def appM(wl lim sz bytes:Nat)(s:AV)(new:List (List AV))(st:Store)(bx:Boxes):Option (Ent×Store×Boxes):=
 if fits sz new then match s with
  |.nilSl=>if new.isEmpty then some (.val .nilSl,st,bx) else if new.length*bytes<=room then some (.val (.mu st.length 0),st++[.rows 0 sz new],bx) else none
  |.emp=>if new.length*bytes<=room then some (.val (.mu st.length 0),st++[.rows 0 sz new],bx) else none
  |.mu id ver=>match st[id]? with
   |some (.rows v sz' old)=>
    if v=ver&&sz'=sz&&decide ((old.length+new.length)*bytes<=room)&&decide (wl<=id)&&(decide (lim<=id)||new.all AV.allPure) then
     some (.val (.mu id (v+1)),st.set id (.rows (v+1) sz (old++new)),bx) else none
   |_=>none
  |_=>none else none
def act0(wl lim:Nat)(op:SOp)(vals:List Ent)(st:Store)(bx:Boxes):Option (Ent×Store×Boxes):=
 match op with
 |.move=>match vals with
  |[e]=>some (e,st,bx)
  |_=>none
 |.pick=>match vals with
  |[.val (.bool b),x,y]=>some (if b then x else y,st,bx)
  |_=>none
 |.bin op=>match vals with
  |[.val x,.val y]=>match binV op x y with|some v=>some (.val v,st,bx)|none=>none
  |_=>none
 |.eqv k neg=>match vals with
  |[.val x,.val y]=>match eqK k x y with|some b=>some (.val (.bool (if neg then !b else b)),st,bx)|none=>none
  |_=>none
 |.muNil neg=>match vals with
  |[.val (.mu id ver),.val .nilSl]=>match st[id]? with
   |some (.rows v _ _)=>if v=ver then some (.val (.bool neg),st,bx) else none
   |_=>none
  |_=>none
 |.un op=>match vals with
  |[.val x]=>match unV op x with|some v=>some (.val v,st,bx)|none=>none
  |_=>none
 |.conv k=>match vals with
  |[.val (.int _ n)]=>some (.val (.int k (k.wrap n)),st,bx)
  |_=>none
 |.toStr=>match vals with
  |[.val x]=>match rowsOf st x with
   |some rows=>match bytesOf rows with|some s=>some (.val (.str s),st,bx)|none=>none
   |none=>none
  |_=>none
 |.len k=>match vals with
  |[.val x]=>match lenV st k x with|some n=>some (.val (.int .i64 n),st,bx)|none=>none
  |_=>none
 |.minmax mx=>match vals with
  |[.val (.int k a),.val (.int l b)]=>
   if k=l then some (.val (.int k (if mx then (if b > a then b else a) else (if b<a then b else a))),st,bx) else none
  |_=>none
 |.nilCheck=>match vals with
  |[.fp j k]=>some (.fp j k,st,bx)
  |[.val x]=>match x with
   |.ptr .. | .pel ..=>some (.val x,st,bx)
   |_=>none
  |_=>none
 |.extract i=>match vals with
  |[.val (.tup vs)]=>match vs[i]? with|some v=>some (.val v,st,bx)|none=>none
  |_=>none
 |.field off n agg=>match vals with
  |[.val (.agg cs)]=>match cut cs off n with
   |some r=>match oneOrAgg agg r with|some v=>some (.val v,st,bx)|none=>none
   |none=>none
  |_=>none
 |.build zero parts=>match vals with
  |l=>match valsOf l with
   |some vs=>match fillCells zero parts vs with|some cs=>some (.val (.agg cs),st,bx)|none=>none
   |none=>none
 |.lit sz n zero parts=>match vals with
  |l=>match valsOf l with
   |some vs=>match fillRows sz (List.replicate n zero) parts (AV.viewL vs) with
    |some rows=>if rows.all AV.allPure&&rows.all AV.allCells then some (.val (if n=0 then .emp else .lst sz rows),st,bx) else none
    |none=>none
   |none=>none
 |.litM sz n zero parts=>match vals with
  |l=>match valsOf l with
   |some vs=>match fillRows sz (List.replicate n zero) parts vs with
    |some rows=>if rows.all AV.allCells&&decide (0<n) then some (.val (.mu st.length 0),st++[.rows 0 sz rows],bx) else none
    |none=>none
   |none=>none
 |.fieldAddr off=>match vals with
  |[.fp j k]=>some (.fp j (k+off),st,bx)
  |[.val (.ptr id ver i k)]=>some (.val (.ptr id ver i (k+off)),st,bx)
  |[.val (.pel sz rows i k)]=>some (.val (.pel sz rows i (k+off)),st,bx)
  |_=>none
 |.indexAddr sz=>match vals with
  |[.val x,.val (.int .i64 i)]=>match x with
   |.lst s rows|.own s rows=>if s=sz&&decide (0<=i)&&decide (i<rows.length) then some (.val (.pel sz rows i.toNat 0),st,bx) else none
   |.mu id ver=>match st[id]? with
    |some (.rows v s rows)=>if v=ver&&s=sz&&decide (0<=i)&&decide (i<rows.length) then some (.val (.ptr id ver i.toNat 0),st,bx) else none
    |_=>none
   |_=>none
  |_=>none
 |.index=>match vals with
  |[.val (.str s),.val (.int .i64 i)]=>
   if 0<=i then match s[i.toNat]? with|some b=>some (.val (.int .u8 b.toNat),st,bx)|none=>none else none
  |_=>none
 |.slice isS lo hi mx sz=>match vals with
  |.val x::l=>match lenV st (if isS then .str else .sl) x with
   |none=>none
   |some n=>match boundOf lo 0 l with
    |none=>none
    |some (a,l)=>match boundOf hi n l with
     |none=>none
     |some (b,l)=>match mx,l with
      |false,[]=>match sliceV isS sz x a b none with|some v=>some (.val v,st,bx)|none=>none
      |true,[.val (.int .i64 m)]=>match sliceV isS sz x a b (some m) with|some v=>some (.val v,st,bx)|none=>none
      |_,_=>none
  |_=>none
 |.sliceM sz=>match vals with
  |[.val (.mu id ver),.val (.int .i64 hi)]=>match st[id]? with
   |some (.rows v s rows)=>if v=ver&&s=sz&&decide (0<=hi)&&decide (hi<=rows.length)&&decide (wl<=id) then
     some (.val (.mu id (v+1)),st.set id (.rows (v+1) s (rows.take hi.toNat)),bx) else none
   |_=>none
  |_=>none
 |.load agg n take=>match vals with
  |[.val p]=>match readP st p n with
   |some cs=>
    if take then
     match writeP wl lim st p (cs.map AV.took),oneOrAgg agg cs with
     |some st',some v=>some (.val v,st',bx)
     |_,_=>none
    else match oneOrAgg agg (AV.viewL cs) with|some v=>some (.val v,st,bx)|none=>none
   |none=>none
  |_=>none
 |.loadF j agg n take=>match vals with
  |[.fp j' k]=>if j=j' then match bx[j]? with
    |some row=>match cut row k n with
     |some cs=>
      if take then match oneOrAgg agg cs with|some v=>some (.val v,st,bx.set j (paste row k (cs.map AV.took)))|none=>none
      else match oneOrAgg agg (AV.viewL cs) with|some v=>some (.val v,st,bx)|none=>none
     |none=>none
    |none=>none
   else none
  |_=>none
 |.store n=>match vals with
  |[.val p,.val v]=>if v.cells.length=n&&AV.allCells v.cells then
    match writeP wl lim st p v.cells with|some st'=>some (.none,st',bx)|none=>none else none
  |_=>none
 |.storeF j n=>match vals with
  |[.fp j' k,.val v]=>if j=j'&&v.cells.length=n&&AV.allCells v.cells then match bx[j]? with
    |some row=>if k+n<=row.length then some (.none,st,bx.set j (paste row k v.cells)) else none
    |none=>none
   else none
  |_=>none
 |.alloc zero=>match vals with
  |[]=>some (.val (.ptr st.length 0 0 0),st++[.rows 0 zero.length [zero]],bx)
  |_=>none
 |.allocF j zero=>match vals with
  |[]=>if j<bx.length then some (.fp j 0,st,bx.set j zero) else none
  |_=>none
 |.box n=>match vals with
  |[.val v]=>if v.cells.length=n&&AV.allCells v.cells then some (.val (.ptr st.length 0 0 0),st++[.rows 0 n [v.cells]],bx) else none
  |_=>none
 |.boxF j n=>match vals with
  |[.val v]=>if j<bx.length&&v.cells.length=n&&AV.allCells v.cells then some (.fp j 0,st,bx.set j v.cells) else none
  |_=>none
 |.append sz bytes=>match vals with
  |[.val s,.val x]=>match bringsOf [] x with
   |none=>none
   |some new=>if fits sz new then match s with
    |.nilSl|.emp=>if new.isEmpty then some (.val s,st,bx) else if new.length*bytes<=room then some (.val (.own sz new),st,bx) else none
    |.own sz' old=>if sz'=sz&&decide ((old.length+new.length)*bytes<=room) then some (.val (.own sz (old++new)),st,bx) else none
    |_=>none else none
  |_=>none
 |.appendM sz bytes=>match vals with
  |[.val s,.val x]=>match bringsOf st x with
   |none=>none
   |some new=>appM wl lim sz bytes s new st bx
  |_=>none
 |.makeSl sz bytes zero mt=>match vals with
  |[.val (.int .i64 n),.val (.int .i64 c)]=>
   if 0<=n/\n<=c/\c*bytes<=room/\zero.length=sz then
    if mt then some (.val (.mu st.length 0),st++[.rows 0 sz (List.replicate n.toNat zero)],bx)
    else if AV.allPure zero then some (.val (.own sz (List.replicate n.toNat zero)),st,bx) else none
   else none
  |_=>none
 |.makeRaw sz bytes zero=>match vals with
  |[.val (.int .i64 n),.val (.int .i64 c)]=>
   if 0<=n/\n<=c/\c*bytes<=room/\zero.length=sz/\AV.allPure zero=true then some (.val (.raw sz (List.replicate n.toNat zero)),st,bx) else none
  |_=>none
 |.appendZ sz bytes zero=>match vals with
  |[.val s,.val (.int .i64 n)]=>
   if 0<=n/\n*bytes<=room/\zero.length=sz/\AV.allPure zero=true then appM wl lim sz bytes s (List.replicate n.toNat zero) st bx else none
  |_=>none
 |.capN=>match vals with
  |[.val .nilSl]=>some (.val (.int .i64 0),st,bx)
  |_=>none
 |.makeMap=>match vals with
  |[]=>some (.val (.map st.length),st++[.map []],bx)
  |_=>none
 |.mapUpdate kk=>match vals with
  |[.val (.map id),.val k,.val v]=>match st[id]? with
   |some (.map es)=>if isKey kk k&&mayWrite wl lim id [v] then match putV kk k v.view es with|some es'=>some (.none,st.set id (.map es'),bx)|none=>none else none
   |_=>none
  |_=>none
 |.lookup kk zero ok=>match vals with
  |[.val m,.val k]=>
   match (match m with|.nilMap=>some []|.map id=>(match st[id]? with|some (.map es)=>some es|_=>none)|_=>none) with
   |none=>none
   |some es=>if isKey kk k then match findV kk k es with
    |none=>none
    |some r=>let v:=r.getD zero
     some (.val (if ok then .tup [v,.bool r.isSome] else v),st,bx)
    else none
  |_=>none
 |.makeFunc f n=>match vals with
  |l=>match valsOf l with
   |some vs=>some (.val (.fn f (AV.viewL (vs.take n)) (AV.viewL (vs.drop n))),st,bx)
   |none=>none
 |.copy sz=>match vals with
  |[.val (.mu id ver),.val x]=>match st[id]?,bringsOf st x with
   |some (.rows v sz' old),some new=>
    if v=ver&&sz'=sz&&fits sz new&&decide (new.length<=old.length)&&decide (wl<=id)&&(decide (lim<=id)||new.all AV.allPure) then
     some (.val (.int .i64 new.length),st.set id (.rows v sz (new++old.drop new.length)),bx) else none
   |_,_=>none
  |_=>none
 |.call _|.callV=>none
def calleeOf:SOp->List Ent->Option (Nat×List AV)
 |.call f,l=>match valsOf l with
  |some vs=>some (f,vs)
  |none=>none
 |.callV,.val (.fn f first caps)::l=>match valsOf l with
  |some vs=>some (f,first++vs++caps)
  |none=>none
 |_,_=>none
def actCall(O:Orc)(wl lim:Nat)(x:Option (Nat×List AV))(st:Store)(bx:Boxes):Option (Ent×Store×Boxes):=
 match x with
 |some (f,vs)=>match O.call wl lim f vs st with|some (v,st')=>some (.val v,st',bx)|none=>none
 |none=>none
def act(O:Orc)(wl lim:Nat)(op:SOp)(vals:List Ent)(st:Store)(bx:Boxes):Option (Ent×Store×Boxes):=
 match op with
 |.call f=>actCall O wl lim (calleeOf (.call f) vals) st bx
 |.callV=>actCall O wl lim (calleeOf .callV vals) st bx
 |op=>act0 wl lim op vals st bx
def SOp.newBox:SOp->Option Nat
 |.allocF j _|.boxF j _=>some j
 |_=>none
def putE(env:Env)(dst:Option Nat)(e:Ent):Env:=
 match dst with
 |some d=>setE env d e
 |none=>env
def wantedE(env:Env):Option (Nat×Bool)->Option Bool
 |none=>some true
 |some (t,b)=>match getE env t with
  |.val (.bool c)=>some (c==b)
  |.val .undef=>some false
  |_=>none
def noFp(j:Nat)(env:Env):Bool:=env.all fun x=>x.2.notFp j
def evalOp(O:Orc)(wl lim:Nat)(o:SOper)(s:St):Option St:=
 match wantedE s.env o.guard with
 |none=>none
 |some false=>some { s with env:=putE s.env o.dst (.val .undef) }
 |some true=>
  match act O wl lim o.op (o.args.map (rdE s.env)) s.st s.bx with
  |none=>none
  |some (e,st',bx')=>
   match o.op.newBox with
   |none=>some ⟨putE (o.args.foldl killE s.env) o.dst e,bx',st'⟩
   |some j=>if noFp j (putE (o.args.foldl killE s.env) o.dst .none) then some ⟨putE (o.args.foldl killE s.env) o.dst e,bx',st'⟩ else none
def evalOps(O:Orc)(wl lim:Nat):List SOper->St->Option St
 |[],s=>some s
 |o::l,s=>match evalOp O wl lim o s with|some s'=>evalOps O wl lim l s'|none=>none
def evalRec(O:Orc)(wl lim:Nat):List SOper->St->Option (St×List St)
 |[],s=>some (s,[s])
 |o::l,s=>match evalOp O wl lim o s with
  |some s'=>match evalRec O wl lim l s' with|some (e,l')=>some (e,s::l')|none=>none
  |none=>none
def readsSame(O:Orc)(wl lim:Nat)(o:SOper)(s t:St)(st:Store):Bool:=
 match wantedE s.env o.guard with
 |none=>false
 |some false=>true
 |some true=>
  match act O wl lim o.op (o.args.map (rdE s.env)) st s.bx with
  |some (e,_,_)=>(match o.dst with|some d=>(getE t.env d).same e|none=>false)
  |none=>false
def xSt(wl lim:Nat)(ops:List SOper)(sts:List St)(p q:Nat):Option Store:=
 match ops[p]?,sts[p]?,ops[q]?,sts[q]? with
 |some a,some s,some b,some t=>
  match a.op,a.args.map (rdE s.env),b.op,b.args.map (rdE t.env) with
  |.store _,[.val (.ptr i _ _ _),.val _],.store m,[.val (.ptr j v x y),.val u]=>
   if i=j then none else match act0 wl lim (.store m) [.val (.ptr j v x y),.val u] s.st [] with
   |some (_,X,_)=>some X
   |none=>none
  |_,_,_,_=>none
 |_,_,_,_=>none
def pairOk(O:Orc)(wl lim:Nat)(ops:List SOper)(sts:List St):Nat×Nat->Bool
 |(q,w)=>if q<100000 then match ops[q]?,sts[q]?,sts[q+1]?,sts[w]?,sts[w+1]? with
   |some o,some s,some t,some a,some b=>readsSame O wl lim o s t a.st&&readsSame O wl lim o s t b.st
   |_,_,_,_,_=>false
  else match xSt wl lim ops sts (q % 100000) w with
   |none=>false
   |some X=>if q<200000 then true else match ops[q / 100000-2]?,sts[q / 100000-2]?,sts[q / 100000-2+1]? with
    |some o,some s,some t=>readsSame O wl lim o s t X
    |_,_,_=>false
def boxOk(env:Env)(o:SOper):Bool:=match o.op.newBox with|some j=>noFp j env|none=>true
def evalDraw(O:Orc)(wl lim:Nat)(ops:List SOper)(pairs:List (Nat×Nat))(s:St):Option St:=
 match evalRec O wl lim ops s with
 |none=>none
 |some (e,sts)=>
  if pairs.all (pairOk O wl lim ops sts)&&ops.all (boxOk s.env) then some e else none
def clearE:List Nat->Env->Env
 |[],env=>env
 |t::l,env=>clearE l (delE env t)
def rdBool(env:Env)(c:Src):Option Bool:=
 match rdE env c with
 |.val (.bool b)=>some b
 |_=>none
def freezeC(wl:Nat)(v:AV)(st:Store):Option (AV×Store):=
 match v with
 |.mu id ver=>match st[id]? with
  |some (.rows v sz rows)=>if v=ver&&rows.all AV.allPure && !rows.isEmpty&&decide (wl<=id) then some (.lst sz (rows.map AV.viewL),st.set id (.rows (v+1) sz [])) else none
  |_=>none
 |v=>if v.isPure&&v.isCell then some (v.view,st) else none
def freezeL(wl:Nat):List AV->Store->Option (List AV×Store)
 |[],st=>some ([],st)
 |v::l,st=>match freezeC wl v st with
  |some (v',st')=>match freezeL wl l st' with
   |some (l',st'')=>some (v'::l',st'')
   |none=>none
  |none=>none
def freezeLL(wl:Nat):List (List AV)->Store->Option (List (List AV)×Store)
 |[],st=>some ([],st)
 |r::l,st=>match freezeL wl r st with
  |some (r',st')=>match freezeLL wl l st' with
   |some (l',st'')=>some (r'::l',st'')
   |none=>none
  |none=>none
def freezeV(wl:Nat)(v:AV)(st:Store):Option (AV×Store):=
 match v with
 |.mu id ver=>match st[id]? with
  |some (.rows v sz rows)=>if v=ver && !rows.isEmpty&&decide (wl<=id) then
    match freezeLL wl rows (st.set id (.rows (v+1) sz [])) with
    |some (rows',st')=>some (.lst sz rows',st')
    |none=>none
   else none
  |_=>none
 |.nilSl=>some (.nilSl,st)
 |_=>none
def freezeH(wl:Nat)(v:AV)(st:Store):Option (AV×Store):=
 match v with
 |.raw sz rows=>some (.mu st.length 0,st++[.rows 0 sz rows])
 |v=>freezeV wl v st
def resOne(s:St):SRes->Option AV
 |.tmp t mv=>match rdE s.env (.tmp t mv) with|.val v=>some v|_=>none
 |.box t j n agg=>match getE s.env t,s.bx[j]? with|.fp i 0,some row=>if i=j&&row.length=n then oneOrAgg agg row else none|_,_=>none
 |.cell t n agg=>match getE s.env t with
  |.val p=>match readP s.st p n with|some cs=>oneOrAgg agg (AV.viewL cs)|none=>none
  |_=>none
def resAll(s:St):List SRes->Option (List AV)
 |[]=>some []
 |r::l=>match resOne s r,resAll s l with
  |some v,some vs=>some (v::vs)
  |_,_=>none
def resV(s:St)(l:List SRes):Option AV:=
 match resAll s l with
 |some [v]=>some v
 |some vs=>some (.tup vs)
 |none=>none
def sem(O:Orc)(wl lim:Nat)(rs:List SRes):SCode->St->Option (Ex×St)
 |.skip,s=>some (.normal,s)
 |.region ops draw clr,s=>
  match (match draw with|none=>evalOps O wl lim ops s|some pairs=>evalDraw O wl lim ops pairs s) with
  |some s'=>some (.normal,{ s' with env:=clearE clr s'.env })
  |none=>none
 |.seq a b,s=>match sem O wl lim rs a s with
  |some (.normal,s')=>sem O wl lim rs b s'
  |r=>r
 |.cond c ca a cb b,s=>match rdBool s.env c with
  |some true=>sem O wl lim rs a { s with env:=clearE ca (killE s.env c) }
  |some false=>sem O wl lim rs b { s with env:=clearE cb (killE s.env c) }
  |none=>none
 |.block id c,s=>match sem O wl lim rs c s with
  |some (.exit id',s')=>if id'=id then some (.normal,s') else some (.exit id',s')
  |r=>r
 |.loop c,s=>O.loop wl lim rs c s
 |.exit id,s=>some (.exit id,s)
 |.ret,s=>match resV s rs with|some v=>some (.ret v,⟨[],[],s.st⟩)|none=>none
 |.frz t,s=>match getE s.env t with
  |.val v=>match freezeV wl v s.st with
   |some (v',st')=>some (.normal,⟨setE s.env t (.val v'),s.bx,st'⟩)
   |none=>none
  |_=>none
 |.frzB j k,s=>match s.bx[j]? with
  |some row=>match row[k]? with
   |some v=>match freezeV wl v s.st with
    |some (v',st')=>some (.normal,⟨s.env,s.bx.set j (paste row k [v']),st'⟩)
    |none=>none
   |none=>none
  |none=>none
 |.frzH t off,s=>match getE s.env t with
  |.val (.ptr id ver i k)=>match readP s.st (.ptr id ver i (k+off)) 1 with
   |some [v]=>match freezeH wl v s.st with
    |some (v',st')=>match writeP wl lim st' (.ptr id ver i (k+off)) [v'] with
     |some st2=>some (.normal,⟨s.env,s.bx,st2⟩)
     |none=>none
    |none=>none
   |_=>none
  |_=>none
def argsE:Nat->List AV->Env
 |_,[]=>[]
 |k,v::r=>(k,.val v)::argsE (k+1) r
def Mode.wlOf:Mode->Nat->Nat->Nat
 |.pure,n,_=>n
 |_,_,wl=>wl
def Mode.limOf:Mode->Nat->Nat->Nat
 |.opn,_,lim=>lim
 |_,n,_=>n
def Mode.fin(m:Mode)(st:Store)(v:AV)(st':Store):Option (AV×Store):=
 match m with
 |.pure=>if v.isPure then some (v,st) else none
 |.scp=>if v.isPure then some (v,st'.take st.length) else none
 |.opn=>some (v,st')
def endV(rs:List SRes):Ex->St->Option AV
 |.exit _,_=>none
 |.ret v,_=>some v
 |.normal,s=>resV s rs
def begS(sf:SFunc)(args:List AV)(st:Store):St:=⟨clearE sf.clr (argsE 0 args),List.replicate sf.nboxes [],st⟩
def callBody0(O:Orc)(wl lim:Nat)(sf:SFunc)(args:List AV)(st:Store):Option (AV×Store):=
 if args.length=sf.nparams then
  match sem O (sf.mode.wlOf st.length wl) (sf.mode.limOf st.length lim) sf.results sf.body (begS sf args st) with
  |some (x,s)=>match endV sf.results x s with
   |some v=>sf.mode.fin st v s.st
   |none=>none
  |none=>none
 else none
def alone(sf:SFunc)(args:List AV):Bool:=decide (sf.mode=.pure)&&AV.allPure args
def callBody(O:Orc)(wl lim:Nat)(sf:SFunc)(args:List AV)(st:Store):Option (AV×Store):=
 if alone sf args then (callBody0 O 0 0 sf args []).map fun r=>(r.1,st) else callBody0 O wl lim sf args st
def orc(S:Nat->Option SFunc):Nat->Orc
 |0=>⟨fun _ _ _ _ _=>none,fun _ _ _ _ _=>none⟩
 |n+1=>
  ⟨fun wl lim f args st=>match S f with
   |some sf=>callBody (orc S n) wl lim sf args st
   |none=>none,
   fun wl lim rs c s=>match sem (orc S n) wl lim rs c s with
   |some (.normal,s')=>(orc S n).loop wl lim rs c s'
   |r=>r⟩
def tabS(tbl vtbl:List (Option SFunc))(n:Nat):Option SFunc:=if n<100000 then (tbl[n]?).getD none else (vtbl[n-100000]?).getD none
end Ax
namespace Ax
open Go
structure Orc.le (A B:Orc):Prop where
 call:∀wl lim f args st r,A.call wl lim f args st=some r->B.call wl lim f args st=some r
 loop:∀wl lim rs c s r,A.loop wl lim rs c s=some r->B.loop wl lim rs c s=some r
theorem Orc.le_refl(A:Orc):A.le A:=⟨fun _ _ _ _ _ _ h=>h,fun _ _ _ _ _ _ h=>h⟩
theorem Orc.le_trans{A B C:Orc}(h:A.le B)(k:B.le C):A.le C:=
 ⟨fun _ _ _ _ _ _ x=>k.call _ _ _ _ _ _ (h.call _ _ _ _ _ _ x),fun _ _ _ _ _ _ x=>k.loop _ _ _ _ _ _ (h.loop _ _ _ _ _ _ x)⟩
structure Sup (o:Nat->Orc)(L:Orc):Prop where
 mono:∀n,(o n).le (o (n+1))
 call:∀wl lim f args st r,L.call wl lim f args st=some r->∃n,(o n).call wl lim f args st=some r
 loop:∀wl lim rs c s r,L.loop wl lim rs c s=some r->∃n,(o n).loop wl lim rs c s=some r
theorem Sup.le{o:Nat->Orc}{L:Orc}(h:Sup o L)(n k:Nat):(o n).le (o (n+k)):=by
 induction k with
 |zero=>exact Orc.le_refl _
 |succ k ih=>exact Orc.le_trans ih (h.mono (n+k))
theorem act_free(A B:Orc)(wl lim:Nat)(op:SOp)(vals:List Ent)(st:Store)(bx:Boxes)(h1:∀f,op≠.call f)(h2:op≠.callV) :
  act A wl lim op vals st bx=act B wl lim op vals st bx:=by
 cases op<;>first|rfl|exact absurd rfl (h1 _)|exact absurd rfl h2
theorem actCall_mono{A B:Orc}(hab:A.le B){wl lim:Nat}{x:Option (Nat×List AV)}{st:Store}{bx:Boxes}{r:Ent×Store×Boxes}
  (h:actCall A wl lim x st bx=some r):actCall B wl lim x st bx=some r:=by
 unfold actCall at h ⊢
 split at h
 ·rename_i f vs
  cases hc:A.call wl lim f vs st with
  |none=>simp[hc]at h
  |some x=>rw[hc]at h;rw[hab.call _ _ _ _ _ _ hc];exact h
 ·cases h
theorem act_mono{A B:Orc}(hab:A.le B){wl lim:Nat}{op:SOp}{vals:List Ent}{st:Store}{bx:Boxes}{r:Ent×Store×Boxes}
  (h:act A wl lim op vals st bx=some r):act B wl lim op vals st bx=some r:=by
 by_cases h1:∃f,op=.call f
 ·obtain⟨f,rfl⟩:=h1
  exact actCall_mono hab h
 ·by_cases h2:op=.callV
  ·subst h2
   exact actCall_mono hab h
  ·rw[<-act_free A B wl lim op vals st bx (fun f e=>h1 ⟨f,e⟩) h2];exact h
theorem evalOp_mono{A B:Orc}(hab:A.le B){wl lim:Nat}{o:SOper}{s r:St}(h:evalOp A wl lim o s=some r):evalOp B wl lim o s=some r:=by
 unfold evalOp at h ⊢
 split at h
 ·cases h
 ·exact h
 ·split at h
  ·cases h
  ·rename_i e st' bx' ha
   rw[act_mono hab ha]
   exact h
theorem evalOps_mono{A B:Orc}(hab:A.le B){wl lim:Nat}:∀{l:List SOper}{s r:St},evalOps A wl lim l s=some r->evalOps B wl lim l s=some r
 |[],_,_,h=>h
 |o::l,s,r,h=>by
  unfold evalOps at h ⊢
  split at h
  ·rename_i s' hs;rw[evalOp_mono hab hs];exact evalOps_mono hab h
  ·cases h
theorem evalRec_mono{A B:Orc}(hab:A.le B){wl lim:Nat}:∀{l:List SOper}{s:St} {r},evalRec A wl lim l s=some r->evalRec B wl lim l s=some r
 |[],_,_,h=>h
 |o::l,s,r,h=>by
  unfold evalRec at h ⊢
  split at h
  ·rename_i s' hs
   rw[evalOp_mono hab hs]
   split at h
   ·rename_i e l' hr
    simp only[evalRec_mono hab hr];exact h
   ·cases h
  ·cases h
theorem readsSame_mono{A B:Orc}(hab:A.le B){wl lim:Nat}{o:SOper}{s t:St}{st:Store}(h:readsSame A wl lim o s t st=true):readsSame B wl lim o s t st=true:=by
 unfold readsSame at h ⊢
 split at h
 ·cases h
 ·rfl
 ·split at h
  ·rename_i e _ _ ha;rw[act_mono hab ha];exact h
  ·cases h
theorem pairOk_mono{A B:Orc}(hab:A.le B){wl lim:Nat}{ops:List SOper}{sts:List St}{x:Nat×Nat}(h:pairOk A wl lim ops sts x=true):pairOk B wl lim ops sts x=true:=by
 obtain⟨q,w⟩:=x
 unfold pairOk at h ⊢
 by_cases h1:q<100000
 ·simp only[h1,if_true]at h ⊢
  split at h
  ·simp only[Bool.and_eq_true]at h ⊢
   exact⟨readsSame_mono hab h.1,readsSame_mono hab h.2⟩
  ·cases h
 ·simp only[h1,if_false]at h ⊢
  split at h
  ·cases h
  ·by_cases h2:q<200000
   ·simp only[h2,if_true]
   ·simp only[h2,if_false]at h ⊢
    split at h
    ·exact readsSame_mono hab h
    ·cases h
theorem evalDraw_mono{A B:Orc}(hab:A.le B){wl lim:Nat}{ops:List SOper}{pairs:List (Nat×Nat)}{s r:St}(h:evalDraw A wl lim ops pairs s=some r):evalDraw B wl lim ops pairs s=some r:=by
 unfold evalDraw at h ⊢
 split at h
 ·cases h
 ·rename_i e sts hr
  split at h
  ·rename_i hc
   cases h
   rw[evalRec_mono hab hr]
   simp only[Bool.and_eq_true,List.all_eq_true]at hc
   have h1:pairs.all (pairOk B wl lim ops sts)=true:=by
    rw[List.all_eq_true];exact fun x hx=>pairOk_mono hab (hc.1 x hx)
   have h2:ops.all (boxOk s.env)=true:=by
    rw[List.all_eq_true];exact hc.2
   simp only[h1,h2,Bool.and_self,if_true]
  ·cases h
theorem sem_mono{A B:Orc}(hab:A.le B){wl lim:Nat}{rs:List SRes}:∀{c:SCode}{s:St} {r},sem A wl lim rs c s=some r->sem B wl lim rs c s=some r
 |.skip,_,_,h=>h
 |.region ops draw clr,s,r,h=>by
  unfold sem at h ⊢
  cases draw with
  |none=>
   simp only at h ⊢
   split at h
   ·rename_i s' hs;rw[evalOps_mono hab hs];exact h
   ·cases h
  |some pairs=>
   simp only at h ⊢
   split at h
   ·rename_i s' hs;rw[evalDraw_mono hab hs];exact h
   ·cases h
 |.seq a b,s,r,h=>by
  unfold sem at h ⊢
  cases ha:sem A wl lim rs a s with
  |none=>rw[ha]at h;cases h
  |some x=>
   rw[ha]at h
   rw[sem_mono hab ha]
   obtain⟨e,s'⟩:=x
   cases e with
   |normal=>exact sem_mono hab h
   |exit id=>exact h
   |ret v=>exact h
 |.cond c ca a cb b,s,r,h=>by
  unfold sem at h ⊢
  split at h
  ·exact sem_mono hab h
  ·exact sem_mono hab h
  ·cases h
 |.block id c,s,r,h=>by
  unfold sem at h ⊢
  cases ha:sem A wl lim rs c s with
  |none=>rw[ha]at h;cases h
  |some x=>rw[ha]at h;rw[sem_mono hab ha];exact h
 |.loop c,s,r,h=>hab.loop _ _ _ _ _ _ h
 |.exit id,s,r,h=>h
 |.ret,s,r,h=>h
 |.frz t,s,r,h=>h
 |.frzB j k,s,r,h=>h
 |.frzH t off,s,r,h=>h
theorem callBody0_mono{A B:Orc}(hab:A.le B){wl lim:Nat}{sf:SFunc}{args:List AV}{st:Store} {r}(h:callBody0 A wl lim sf args st=some r):callBody0 B wl lim sf args st=some r:=by
 unfold callBody0 at h ⊢
 split at h
 ·rename_i hl
  rw[if_pos hl]
  cases hs:sem A (sf.mode.wlOf st.length wl) (sf.mode.limOf st.length lim) sf.results sf.body (begS sf args st) with
  |none=>rw[hs]at h;cases h
  |some x=>rw[hs]at h;rw[sem_mono hab hs];exact h
 ·cases h
theorem callBody_mono{A B:Orc}(hab:A.le B){wl lim:Nat}{sf:SFunc}{args:List AV}{st:Store} {r}(h:callBody A wl lim sf args st=some r):callBody B wl lim sf args st=some r:=by
 unfold callBody at h ⊢
 split at h
 ·rename_i hal
  rw[if_pos hal]
  cases hc:callBody0 A 0 0 sf args [] with
  |none=>rw[hc]at h;cases h
  |some x=>rw[hc]at h;rw[callBody0_mono hab hc];exact h
 ·rename_i hal
  rw[if_neg hal]
  exact callBody0_mono hab h
theorem orc_mono(S:Nat->Option SFunc):∀n,(orc S n).le (orc S (n+1))
 |0=>⟨fun _ _ _ _ _ _ h=>(nomatch h),fun _ _ _ _ _ _ h=>(nomatch h)⟩
 |n+1=>by
  have ih:=orc_mono S n
  constructor
  ·intro wl lim f args st r h
   show (match S f with|some sf=>callBody (orc S (n+1)) wl lim sf args st|none=>none)=some r
   change (match S f with|some sf=>callBody (orc S n) wl lim sf args st|none=>none)=some r at h
   cases hf:S f with
   |none=>rw[hf]at h;cases h
   |some sf=>rw[hf]at h;exact callBody_mono ih h
  ·intro wl lim rs c s r h
   show (match sem (orc S (n+1)) wl lim rs c s with|some (.normal,s')=>(orc S (n+1)).loop wl lim rs c s'|r=>r)=some r
   change (match sem (orc S n) wl lim rs c s with|some (.normal,s')=>(orc S n).loop wl lim rs c s'|r=>r)=some r at h
   cases hs:sem (orc S n) wl lim rs c s with
   |none=>rw[hs]at h;cases h
   |some x=>
    rw[hs]at h
    rw[sem_mono ih hs]
    obtain⟨e,s'⟩:=x
    cases e with
    |normal=>exact ih.loop _ _ _ _ _ _ h
    |exit id=>exact h
    |ret v=>exact h
open Classical in
noncomputable def orcL (S:Nat->Option SFunc):Orc:=
 ⟨fun wl lim f args st=>if h:∃n r,(orc S n).call wl lim f args st=some r then some h.choose_spec.choose else none,
  fun wl lim rs c s=>if h:∃n r,(orc S n).loop wl lim rs c s=some r then some h.choose_spec.choose else none⟩
theorem orc_le(S:Nat->Option SFunc)(n k:Nat):(orc S n).le (orc S (n+k)):=by
 induction k with
 |zero=>exact Orc.le_refl _
 |succ k ih=>exact Orc.le_trans ih (orc_mono S (n+k))
theorem orcL_sup(S:Nat->Option SFunc):Sup (orc S) (orcL S) where
 mono:=orc_mono S
 call:=fun wl lim f args st r h=>by
  unfold orcL at h
  simp only at h
  split at h
  ·rename_i hx
   cases h
   exact⟨_,hx.choose_spec.choose_spec⟩
  ·cases h
 loop:=fun wl lim rs c s r h=>by
  unfold orcL at h
  simp only at h
  split at h
  ·rename_i hx
   cases h
   exact⟨_,hx.choose_spec.choose_spec⟩
  ·cases h
theorem orc_leL(S:Nat->Option SFunc)(n:Nat):(orc S n).le (orcL S) where
 call:=fun wl lim f args st r h=>by
  have hx:∃n r,(orc S n).call wl lim f args st=some r:=⟨n,r,h⟩
  have:(orcL S).call wl lim f args st=some hx.choose_spec.choose:=by unfold orcL;simp only;rw[dif_pos hx]
  have h2:=hx.choose_spec.choose_spec
  have a:=(orc_le S n hx.choose).call _ _ _ _ _ _ h
  have b:=(orc_le S hx.choose n).call _ _ _ _ _ _ h2
  rw[Nat.add_comm]at b
  exact this.trans (b.symm.trans a)
 loop:=fun wl lim rs c s r h=>by
  have hx:∃n r,(orc S n).loop wl lim rs c s=some r:=⟨n,r,h⟩
  have:(orcL S).loop wl lim rs c s=some hx.choose_spec.choose:=by unfold orcL;simp only;rw[dif_pos hx]
  have h2:=hx.choose_spec.choose_spec
  have a:=(orc_le S n hx.choose).loop _ _ _ _ _ _ h
  have b:=(orc_le S hx.choose n).loop _ _ _ _ _ _ h2
  rw[Nat.add_comm]at b
  exact this.trans (b.symm.trans a)
section
variable {o:Nat->Orc}{L:Orc}(hs:Sup o L){wl lim:Nat}
include hs
theorem actCall_fin{x:Option (Nat×List AV)}{st:Store}{bx:Boxes}{r:Ent×Store×Boxes}
  (h:actCall L wl lim x st bx=some r):∃n,actCall (o n) wl lim x st bx=some r:=by
 unfold actCall at h
 split at h
 ·rename_i f vs
  cases hc:L.call wl lim f vs st with
  |none=>simp[hc]at h
  |some x=>
   obtain⟨n,hn⟩:=hs.call _ _ _ _ _ _ hc
   refine⟨n,?_⟩
   rw[hc]at h
   unfold actCall
   simp only
   rw[hn];exact h
 ·cases h
theorem act_fin{op:SOp}{vals:List Ent}{st:Store}{bx:Boxes}{r:Ent×Store×Boxes}
  (h:act L wl lim op vals st bx=some r):∃n,act (o n) wl lim op vals st bx=some r:=by
 by_cases h1:∃f,op=.call f
 ·obtain⟨f,rfl⟩:=h1
  exact actCall_fin hs h
 ·by_cases h2:op=.callV
  ·subst h2
   exact actCall_fin hs h
  ·exact⟨0,by rw[<-act_free L (o 0) wl lim op vals st bx (fun f e=>h1 ⟨f,e⟩) h2];exact h⟩
theorem evalOp_fin{p:SOper}{s r:St}(h:evalOp L wl lim p s=some r):∃n,evalOp (o n) wl lim p s=some r:=by
 unfold evalOp at h
 split at h
 ·cases h
 ·rename_i hw;exact⟨0,by unfold evalOp;rw[hw];exact h⟩
 ·rename_i hw
  split at h
  ·cases h
  ·rename_i e st' bx' ha
   obtain⟨n,hn⟩:=act_fin hs ha
   exact⟨n,by unfold evalOp;rw[hw];simp only;rw[hn];exact h⟩
theorem evalOps_fin:∀{l:List SOper}{s r:St},evalOps L wl lim l s=some r->∃n,evalOps (o n) wl lim l s=some r
 |[],_,_,h=>⟨0,h⟩
 |p::l,s,r,h=>by
  unfold evalOps at h
  split at h
  ·rename_i s' hp
   obtain⟨n,hn⟩:=evalOp_fin hs hp
   obtain⟨m,hm⟩:=evalOps_fin h
   refine⟨n+m,?_⟩
   unfold evalOps
   rw[evalOp_mono (hs.le n m) hn]
   simp only
   exact evalOps_mono (by rw[Nat.add_comm];exact hs.le m n) hm
  ·cases h
theorem evalRec_fin:∀{l:List SOper}{s:St} {r},evalRec L wl lim l s=some r->∃n,evalRec (o n) wl lim l s=some r
 |[],_,_,h=>⟨0,h⟩
 |p::l,s,r,h=>by
  unfold evalRec at h
  split at h
  ·rename_i s' hp
   split at h
   ·rename_i e l' hr
    obtain⟨n,hn⟩:=evalOp_fin hs hp
    obtain⟨m,hm⟩:=evalRec_fin hr
    refine⟨n+m,?_⟩
    unfold evalRec
    rw[evalOp_mono (hs.le n m) hn]
    simp only
    rw[evalRec_mono (by rw[Nat.add_comm];exact hs.le m n) hm]
    exact h
   ·cases h
  ·cases h
theorem readsSame_fin{p:SOper}{s t:St}{st:Store}(h:readsSame L wl lim p s t st=true):∃n,readsSame (o n) wl lim p s t st=true:=by
 unfold readsSame at h
 split at h
 ·cases h
 ·rename_i hw;exact⟨0,by unfold readsSame;rw[hw]⟩
 ·rename_i hw
  split at h
  ·rename_i e a b ha
   obtain⟨n,hn⟩:=act_fin hs ha
   exact⟨n,by unfold readsSame;rw[hw];simp only;rw[hn];exact h⟩
  ·cases h
theorem pairOk_fin{ops:List SOper}{sts:List St}{x:Nat×Nat}(h:pairOk L wl lim ops sts x=true):∃n,pairOk (o n) wl lim ops sts x=true:=by
 obtain⟨q,w⟩:=x
 unfold pairOk at h ⊢
 by_cases h1:q<100000
 ·simp only[h1,if_true]at h ⊢
  split at h
  ·simp only[Bool.and_eq_true]at h ⊢
   obtain⟨n,hn⟩:=readsSame_fin hs h.1
   obtain⟨m,hm⟩:=readsSame_fin hs h.2
   exact⟨n+m,readsSame_mono (hs.le n m) hn,readsSame_mono (by rw[Nat.add_comm];exact hs.le m n) hm⟩
  ·cases h
 ·simp only[h1,if_false]at h ⊢
  split at h
  ·cases h
  ·by_cases h2:q<200000
   ·simp only[h2,if_true,exists_const]
   ·simp only[h2,if_false]at h ⊢
    split at h
    ·exact readsSame_fin hs h
    ·cases h
theorem pairs_fin{ops:List SOper}{sts:List St}:∀{l:List (Nat×Nat)},l.all (pairOk L wl lim ops sts)=true->∃n,l.all (pairOk (o n) wl lim ops sts)=true
 |[],_=>⟨0,rfl⟩
 |x::l,h=>by
  simp only[List.all_cons,Bool.and_eq_true]at h
  obtain⟨n,hn⟩:=pairOk_fin hs h.1
  obtain⟨m,hm⟩:=pairs_fin h.2
  refine⟨n+m,?_⟩
  simp only[List.all_cons,Bool.and_eq_true]
  refine⟨pairOk_mono (hs.le n m) hn,?_⟩
  rw[List.all_eq_true]at hm ⊢
  exact fun x hx=>pairOk_mono (by rw[Nat.add_comm];exact hs.le m n) (hm x hx)
theorem evalDraw_fin{ops:List SOper}{pairs:List (Nat×Nat)}{s r:St}(h:evalDraw L wl lim ops pairs s=some r):∃n,evalDraw (o n) wl lim ops pairs s=some r:=by
 unfold evalDraw at h
 split at h
 ·cases h
 ·rename_i e sts hr
  split at h
  ·rename_i hc
   cases h
   simp only[Bool.and_eq_true]at hc
   obtain⟨n,hn⟩:=evalRec_fin hs hr
   obtain⟨m,hm⟩:=pairs_fin hs hc.1
   refine⟨n+m,?_⟩
   unfold evalDraw
   rw[evalRec_mono (hs.le n m) hn]
   have:pairs.all (pairOk (o (n+m)) wl lim ops sts)=true:=by
    rw[List.all_eq_true]at hm ⊢
    exact fun x hx=>pairOk_mono (by rw[Nat.add_comm];exact hs.le m n) (hm x hx)
   simp only[this,hc.2,Bool.and_self,if_true]
  ·cases h
theorem sem_fin{rs:List SRes}:∀{c:SCode}{s:St} {r},sem L wl lim rs c s=some r->∃n,sem (o n) wl lim rs c s=some r
 |.skip,_,_,h=>⟨0,h⟩
 |.region ops draw clr,s,r,h=>by
  unfold sem at h
  cases draw with
  |none=>
   simp only at h
   split at h
   ·rename_i s' hp
    obtain⟨n,hn⟩:=evalOps_fin hs hp
    exact⟨n,by unfold sem;simp only;rw[hn];exact h⟩
   ·cases h
  |some pairs=>
   simp only at h
   split at h
   ·rename_i s' hp
    obtain⟨n,hn⟩:=evalDraw_fin hs hp
    exact⟨n,by unfold sem;simp only;rw[hn];exact h⟩
   ·cases h
 |.seq a b,s,r,h=>by
  unfold sem at h
  cases ha:sem L wl lim rs a s with
  |none=>rw[ha]at h;cases h
  |some x=>
   rw[ha]at h
   obtain⟨n,hn⟩:=sem_fin ha
   obtain⟨e,s'⟩:=x
   cases e with
   |normal=>
    obtain⟨m,hm⟩:=sem_fin h
    refine⟨n+m,?_⟩
    unfold sem
    rw[sem_mono (hs.le n m) hn]
    exact sem_mono (by rw[Nat.add_comm];exact hs.le m n) hm
   |exit id=>exact⟨n,by unfold sem;rw[hn];exact h⟩
   |ret v=>exact⟨n,by unfold sem;rw[hn];exact h⟩
 |.cond c ca a cb b,s,r,h=>by
  unfold sem at h
  split at h
  ·rename_i hb;obtain⟨n,hn⟩:=sem_fin h;exact⟨n,by unfold sem;rw[hb];exact hn⟩
  ·rename_i hb;obtain⟨n,hn⟩:=sem_fin h;exact⟨n,by unfold sem;rw[hb];exact hn⟩
  ·cases h
 |.block id c,s,r,h=>by
  unfold sem at h
  cases ha:sem L wl lim rs c s with
  |none=>rw[ha]at h;cases h
  |some x=>
   rw[ha]at h
   obtain⟨n,hn⟩:=sem_fin ha
   exact⟨n,by unfold sem;rw[hn];exact h⟩
 |.loop c,s,r,h=>hs.loop _ _ _ _ _ _ h
 |.exit id,s,r,h=>⟨0,h⟩
 |.ret,s,r,h=>⟨0,h⟩
 |.frz t,s,r,h=>⟨0,h⟩
 |.frzB j k,s,r,h=>⟨0,h⟩
 |.frzH t off,s,r,h=>⟨0,h⟩
theorem callBody0_fin{sf:SFunc}{args:List AV}{st:Store} {r}(h:callBody0 L wl lim sf args st=some r):∃n,callBody0 (o n) wl lim sf args st=some r:=by
 unfold callBody0 at h
 split at h
 ·rename_i hl
  cases hx:sem L (sf.mode.wlOf st.length wl) (sf.mode.limOf st.length lim) sf.results sf.body (begS sf args st) with
  |none=>rw[hx]at h;cases h
  |some x=>
   rw[hx]at h
   obtain⟨n,hn⟩:=sem_fin hs hx
   exact⟨n,by unfold callBody0;rw[if_pos hl,hn];exact h⟩
 ·cases h
theorem callBody_fin{sf:SFunc}{args:List AV}{st:Store} {r}(h:callBody L wl lim sf args st=some r):∃n,callBody (o n) wl lim sf args st=some r:=by
 unfold callBody at h
 split at h
 ·rename_i hal
  cases hc:callBody0 L 0 0 sf args [] with
  |none=>rw[hc]at h;cases h
  |some x=>
   rw[hc]at h
   obtain⟨n,hn⟩:=callBody0_fin hs hc
   exact⟨n,by unfold callBody;rw[if_pos hal,hn];exact h⟩
 ·rename_i hal
  obtain⟨n,hn⟩:=callBody0_fin hs h
  exact⟨n,by unfold callBody;rw[if_neg hal];exact hn⟩
end
theorem opt_ext{α:Type}{a b:Option α}(h:∀r,a=some r↔b=some r):a=b:=by
 cases a with
 |none=>cases b with
  |none=>rfl
  |some y=>exact absurd ((h y).2 rfl) (by simp)
 |some x=>exact((h x).1 rfl).symm
theorem orcL_call(S:Nat->Option SFunc)(wl lim f:Nat)(args:List AV)(st:Store) :
  (orcL S).call wl lim f args st=match S f with
   |some sf=>callBody (orcL S) wl lim sf args st
   |none=>none:=by
 refine opt_ext fun r=>⟨fun h=>?_,fun h=>?_⟩
 ·obtain⟨n,hn⟩:=(orcL_sup S).call _ _ _ _ _ _ h
  cases n with
  |zero=>cases hn
  |succ n=>
   change (match S f with|some sf=>callBody (orc S n) wl lim sf args st|none=>none)=some r at hn
   cases hf:S f with
   |none=>rw[hf]at hn;cases hn
   |some sf=>rw[hf]at hn;exact callBody_mono (orc_leL S n) hn
 ·cases hf:S f with
  |none=>rw[hf]at h;cases h
  |some sf=>
   rw[hf]at h
   obtain⟨n,hn⟩:=callBody_fin (orcL_sup S) h
   refine(orc_leL S (n+1)).call _ _ _ _ _ _ ?_
   show (match S f with|some sf=>callBody (orc S n) wl lim sf args st|none=>none)=some r
   rw[hf];exact hn
theorem orcL_loop(S:Nat->Option SFunc)(wl lim:Nat)(rs:List SRes)(c:SCode)(s:St) :
  (orcL S).loop wl lim rs c s=match sem (orcL S) wl lim rs c s with
   |some (.normal,s')=>(orcL S).loop wl lim rs c s'
   |r=>r:=by
 refine opt_ext fun r=>⟨fun h=>?_,fun h=>?_⟩
 ·obtain⟨n,hn⟩:=(orcL_sup S).loop _ _ _ _ _ _ h
  cases n with
  |zero=>cases hn
  |succ n=>
   change (match sem (orc S n) wl lim rs c s with|some (.normal,s')=>(orc S n).loop wl lim rs c s'|r=>r)=some r at hn
   cases hx:sem (orc S n) wl lim rs c s with
   |none=>rw[hx]at hn;cases hn
   |some x=>
    rw[hx]at hn
    rw[sem_mono (orc_leL S n) hx]
    obtain⟨e,s'⟩:=x
    cases e with
    |normal=>exact(orc_leL S n).loop _ _ _ _ _ _ hn
    |exit id=>exact hn
    |ret v=>exact hn
 ·cases hx:sem (orcL S) wl lim rs c s with
  |none=>rw[hx]at h;cases h
  |some x=>
   rw[hx]at h
   obtain⟨n,hn⟩:=sem_fin (orcL_sup S) hx
   obtain⟨e,s'⟩:=x
   have key:∀m,(orc S m).le (orcL S):=orc_leL S
   cases e with
   |normal=>
    obtain⟨m,hm⟩:=(orcL_sup S).loop _ _ _ _ _ _ h
    refine(orc_leL S (n+m+1)).loop _ _ _ _ _ _ ?_
    show (match sem (orc S (n+m)) wl lim rs c s with|some (.normal,s')=>(orc S (n+m)).loop wl lim rs c s'|r=>r)=some r
    rw[sem_mono (orc_le S n m) hn]
    exact(by rw[Nat.add_comm];exact orc_le S m n:(orc S m).le (orc S (n+m))).loop _ _ _ _ _ _ hm
   |exit id=>
    refine(orc_leL S (n+1)).loop _ _ _ _ _ _ ?_
    show (match sem (orc S n) wl lim rs c s with|some (.normal,s')=>(orc S n).loop wl lim rs c s'|r=>r)=some r
    rw[hn];exact h
   |ret v=>
    refine(orc_leL S (n+1)).loop _ _ _ _ _ _ ?_
    show (match sem (orc S n) wl lim rs c s with|some (.normal,s')=>(orc S n).loop wl lim rs c s'|r=>r)=some r
    rw[hn];exact h
end Ax
namespace Ax
theorem sem_frzH{O:Orc}{wl lim:Nat}{rs:List SRes}{t off:Nat}{s s':St}{x:Ex}(h:sem O wl lim rs (.frzH t off) s=some (x,s')) :
  x=.normal/\∃id ver i k v v' st1 st2,getE s.env t=.val (.ptr id ver i k)/\readP s.st (.ptr id ver i (k+off)) 1=some [v]/\freezeH wl v s.st=some (v',st1)/\writeP wl lim st1 (.ptr id ver i (k+off)) [v']=some st2/\s'=⟨s.env,s.bx,st2⟩:=by
 unfold sem at h
 split at h
 ·rename_i id ver i k h1
  split at h
  ·rename_i v h2
   split at h
   ·rename_i v' st1 h3
    split at h
    ·rename_i st2 h4
     cases h
     exact⟨rfl,id,ver,i,k,v,v',st1,st2,h1,h2,h3,h4,rfl⟩
    ·cases h
   ·cases h
  ·cases h
 ·cases h
end Ax
namespace Ax
open Go
mutual
def AV.noOwn:AV->Bool
 |.own _ _|.raw _ _=>false
 |.agg cs|.tup cs=>AV.noOwnL cs
 |_=>true
def AV.noOwnL:List AV->Bool
 |[]=>true
 |v::r=>v.noOwn&&AV.noOwnL r
end
structure Loc where
 a:Option Addr
 cap:Nat
 len:Nat
 sz:Nat
 ver:Nat
 mp:Bool
 vals:List (List Value)
def Loc.hd(l:Loc):Option Addr×Nat×Nat×Nat×Bool:=(l.a,l.cap,l.len,l.sz,l.mp)
structure Ghost where
 ls:List Loc
 tip:Nat->Option Nat
def Imm(w:World)(G:Ghost)(b o:Nat):Prop:=b<w.heap.size/\∀p,G.tip b=some p->o<p
inductive RepV (w:World) (G:Ghost):AV->Value->Prop
 |undef:RepV w G .undef Go.undef
 |gone (v:Value) (h:v.oneCell'=true):RepV w G .gone v
 |bool (b:Bool):RepV w G (.bool b) (.bool b)
 |int (k:IntKind) (n:Int):RepV w G (.int k n) (.int k n)
 |str (l:List UInt8) (s:ByteArray) (h:s.data.toList=l):RepV w G (.str l) (.string s)
 |nilPtr:RepV w G .nilPtr (.pointer none)
 |nilSl:RepV w G .nilSl (.slice none 0 0)
 |nilMap:RepV w G .nilMap (.map none)
 |nilFn:RepV w G .nilFn .nilFunc
 |nilIf:RepV w G .nilIf .nilIface
 |agg (cs:List AV) (vs:Array Value) (hl:cs.length=vs.size) (h:∀(i:Nat) c v,cs[i]?=some c->vs[i]?=some v->RepV w G c v):RepV w G (.agg cs) (.agg vs)
 |tup (cs:List AV) (vs:Array Value) (hl:cs.length=vs.size) (h:∀(i:Nat) c v,cs[i]?=some c->vs[i]?=some v->RepV w G c v):RepV w G (.tup cs) (.tuple vs)
 |lst (sz:Nat) (rows:List (List AV)) (a:Addr) (cap:Nat) (hsp:a.spot=none) (hcap:rows.length<=cap) (hfit:fits sz rows=true)
   (hno:∀r∈rows,AV.noOwnL r=true) (hpu:∀r∈rows,AV.allPure r=true) (hce:∀r∈rows,AV.allCells r=true)
   (hc:∀(i:Nat) r (j:Nat) c,rows[i]?=some r->r[j]?=some c->Imm w G a.block (a.off+(i*sz+j))/\∃v,w.cell? ⟨a.block,a.off+(i*sz+j),none⟩=some v)
   (hr:∀(i:Nat) r (j:Nat) c v,rows[i]?=some r->r[j]?=some c->w.cell? ⟨a.block,a.off+(i*sz+j),none⟩=some v->RepV w G c v) :
   RepV w G (.lst sz rows) (.slice (some a) rows.length cap)
 |own (sz:Nat) (rows:List (List AV)) (a:Addr) (cap:Nat) (hsp:a.spot=none) (hcap:rows.length<=cap) (hfit:fits sz rows=true)
   (hno:∀r∈rows,AV.noOwnL r=true) (hpu:∀r∈rows,AV.allPure r=true) (hce:∀r∈rows,AV.allCells r=true)
   (hc:∀(i:Nat) r (j:Nat) c,rows[i]?=some r->r[j]?=some c->∃v,w.cell? ⟨a.block,a.off+(i*sz+j),none⟩=some v)
   (hr:∀(i:Nat) r (j:Nat) c v,rows[i]?=some r->r[j]?=some c->w.cell? ⟨a.block,a.off+(i*sz+j),none⟩=some v->RepV w G c v)
   (htip:G.tip a.block=some (a.off+rows.length*sz))
   (hblk:∃c e,w.heap[a.block]?=some (.cells c e (0,0))/\a.off+cap*sz<=c.size) :
   RepV w G (.own sz rows) (.slice (some a) rows.length cap)
 |raw (sz:Nat) (rows:List (List AV)) (a:Addr) (cap:Nat) (hsp:a.spot=none) (hcap:rows.length<=cap) (hfit:fits sz rows=true)
   (hno:∀r∈rows,AV.noOwnL r=true) (hpu:∀r∈rows,AV.allPure r=true) (hce:∀r∈rows,AV.allCells r=true)
   (hc:∀(i:Nat) r (j:Nat) c,rows[i]?=some r->r[j]?=some c->∃v,w.cell? ⟨a.block,a.off+(i*sz+j),none⟩=some v)
   (hr:∀(i:Nat) r (j:Nat) c v,rows[i]?=some r->r[j]?=some c->w.cell? ⟨a.block,a.off+(i*sz+j),none⟩=some v->RepV w G c v)
   (htip:G.tip a.block=some 0)
   (hblk:∃c e,w.heap[a.block]?=some (.cells c e (0,0))/\a.off+cap*sz<=c.size) :
   RepV w G (.raw sz rows) (.slice (some a) rows.length cap)
 |emp (a:Addr):RepV w G .emp (.slice (some a) 0 0)
 |mu (id ver:Nat) (v:Value) (loc:Loc) (hp:∃p n c,v=.slice p n c) (hl:G.ls[id]?=some loc) (hv:ver<=loc.ver) (he:ver=loc.ver->v=.slice loc.a loc.len loc.cap):RepV w G (.mu id ver) v
 |ptr (id ver i k:Nat) (v:Value) (loc:Loc) (hp:∃a,v=.pointer (some a)) (hl:G.ls[id]?=some loc) (hv:ver<=loc.ver)
   (he:ver=loc.ver->∃a,loc.a=some a/\v=.pointer (some ⟨a.block,a.off+(i*loc.sz+k),none⟩)):RepV w G (.ptr id ver i k) v
 |pel (sz:Nat) (rows:List (List AV)) (i k:Nat) (a:Addr) (cap:Nat) (hs:RepV w G (.lst sz rows) (.slice (some a) rows.length cap)) :
   RepV w G (.pel sz rows i k) (.pointer (some ⟨a.block,a.off+(i*sz+k),none⟩))
 |map (id:Nat) (loc:Loc) (b:Nat) (hl:G.ls[id]?=some loc) (hm:loc.mp=true) (hb:loc.a=some ⟨b,0,none⟩):RepV w G (.map id) (.map (some b))
 |fn (f:Nat) (first caps:List AV) (vf vc:Array Value) (hl:first.length=vf.size) (hm:caps.length=vc.size)
   (hn:AV.noOwnL first=true/\AV.noOwnL caps=true/\f<100000)
   (h:∀(i:Nat) c v,first[i]?=some c->vf[i]?=some v->RepV w G c v) (k:∀(i:Nat) c v,caps[i]?=some c->vc[i]?=some v->RepV w G c v) :
   RepV w G (.fn f first caps) (.func (.func f) vf vc)
mutual
def cnt(b:Nat):AV->Value->Nat
 |.own _ _,.slice (some a) _ _=>if a.block=b then 1 else 0
 |.raw _ _,.slice (some a) _ _=>if a.block=b then 1 else 0
 |.agg cs,.agg vs=>cntL b cs vs.toList
 |.tup cs,.tuple vs=>cntL b cs vs.toList
 |_,_=>0
def cntL(b:Nat):List AV->List Value->Nat
 |c::cs,v::vs=>cnt b c v+cntL b cs vs
 |_,_=>0
end
theorem cntL_get(b:Nat):∀(cs:List AV)(vs:List Value)(i:Nat)(c:AV)(v:Value),cs[i]?=some c->vs[i]?=some v->cnt b c v<=cntL b cs vs
 |[],_,_,_,_,h,_=>by simp at h
 |_::_,[],_,_,_,_,h=>by simp at h
 |c::cs,v::vs,0,c',v',h,k=>by
  simp at h k;subst h;subst k;simp only[cntL];omega
 |c::cs,v::vs,i+1,c',v',h,k=>by
  simp at h k
  have:=cntL_get b cs vs i c' v' h k
  simp only[cntL];omega
mutual
theorem cnt_noOwn(b:Nat):∀(a:AV)(v:Value),a.noOwn=true->cnt b a v=0
 |.own _ _,_,h=>by simp[AV.noOwn]at h
 |.raw _ _,_,h=>by simp[AV.noOwn]at h
 |.agg cs,.agg vs,h=>by simp only[cnt];exact cntL_noOwn b cs vs.toList (by simpa [AV.noOwn] using h)
 |.tup cs,.tuple vs,h=>by simp only[cnt];exact cntL_noOwn b cs vs.toList (by simpa [AV.noOwn] using h)
 |.undef,_,_|.gone,_,_|.bool _,_,_|.int _ _,_,_|.str _,_,_|.nilPtr,_,_|.nilSl,_,_|.nilMap,_,_|.nilFn,_,_|.nilIf,_,_
 |.lst _ _,_,_|.emp,_,_|.mu _ _,_,_|.ptr _ _ _ _,_,_|.pel _ _ _ _,_,_|.map _,_,_|.fn _ _ _,_,_=>by simp[cnt]
 |.agg cs,.bool _,_|.agg cs,.int _ _,_|.agg cs,.float _ _,_|.agg cs,.complex _ _ _,_|.agg cs,.string _,_|.agg cs,.pointer _,_|.agg cs,.slice _ _ _,_
 |.agg cs,.map _,_|.agg cs,.chan _,_|.agg cs,.func _ _ _,_|.agg cs,.nilFunc,_|.agg cs,.iface _ _,_|.agg cs,.nilIface,_|.agg cs,.tuple _,_=>by simp[cnt]
 |.tup cs,.bool _,_|.tup cs,.int _ _,_|.tup cs,.float _ _,_|.tup cs,.complex _ _ _,_|.tup cs,.string _,_|.tup cs,.pointer _,_|.tup cs,.slice _ _ _,_
 |.tup cs,.map _,_|.tup cs,.chan _,_|.tup cs,.func _ _ _,_|.tup cs,.nilFunc,_|.tup cs,.iface _ _,_|.tup cs,.nilIface,_|.tup cs,.agg _,_=>by simp[cnt]
theorem cntL_noOwn(b:Nat):∀(cs:List AV)(vs:List Value),AV.noOwnL cs=true->cntL b cs vs=0
 |[],_,_=>by simp[cntL]
 |_::_,[],_=>by simp[cntL]
 |c::cs,v::vs,h=>by
  simp[AV.noOwnL]at h
  simp only[cntL,cnt_noOwn b c v h.1,cntL_noOwn b cs vs h.2]
end
mutual
theorem noOwn_view:∀a:AV,a.view.noOwn=true
 |.own _ _=>by simp[AV.view,AV.noOwn]
 |.raw _ _=>by simp[AV.view,AV.noOwn]
 |.agg cs=>by simp only[AV.view,AV.noOwn];exact noOwn_viewL cs
 |.tup cs=>by simp only[AV.view,AV.noOwn];exact noOwn_viewL cs
 |.undef|.gone|.bool _|.int _ _|.str _|.nilPtr|.nilSl|.nilMap|.nilFn|.nilIf|.lst _ _|.emp|.mu _ _|.ptr _ _ _ _|.pel _ _ _ _|.map _|.fn _ _ _=>by simp[AV.view,AV.noOwn]
theorem noOwn_viewL:∀cs:List AV,AV.noOwnL (AV.viewL cs)=true
 |[]=>rfl
 |c::cs=>by simp only[AV.viewL,AV.noOwnL,noOwn_view c,noOwn_viewL cs,Bool.and_self]
end
theorem viewL_get:∀(cs:List AV)(i:Nat),(AV.viewL cs)[i]?=(cs[i]?).map AV.view
 |[],i=>by simp[AV.viewL]
 |c::cs,0=>by simp[AV.viewL]
 |c::cs,i+1=>by simp[AV.viewL,viewL_get cs i]
theorem viewL_length:∀(cs:List AV),(AV.viewL cs).length=cs.length
 |[]=>rfl
 |c::cs=>by simp[AV.viewL,viewL_length cs]
theorem noOwnL_iff:∀(cs:List AV),AV.noOwnL cs=true↔∀c∈cs,c.noOwn=true
 |[]=>by simp[AV.noOwnL]
 |c::cs=>by simp[AV.noOwnL,noOwnL_iff cs]
theorem allPure_iff:∀(cs:List AV),AV.allPure cs=true↔∀c∈cs,c.isPure=true
 |[]=>by simp[AV.allPure]
 |c::cs=>by simp[AV.allPure,allPure_iff cs]
theorem mem_get{α:Type}{l:List α}{i:Nat}{x:α}(h:l[i]?=some x):x∈l:=List.mem_of_getElem? h
structure Stp (w:World)(G:Ghost)(w':World)(G':Ghost):Prop where
 imm:∀b o,Imm w G b o->w'.cell? ⟨b,o,none⟩=w.cell? ⟨b,o,none⟩/\Imm w' G' b o
 ids:∀(id:Nat) loc,G.ls[id]?=some loc->∃loc',G'.ls[id]?=some loc'/\loc.ver<=loc'.ver/\(loc.ver=loc'.ver\/loc.mp=true->loc'.hd=loc.hd)
theorem Stp.refl(w:World)(G:Ghost):Stp w G w G:=⟨fun _ _ h=>⟨rfl,h⟩,fun _ loc h=>⟨loc,h,Nat.le_refl _,fun _=>rfl⟩⟩
theorem Stp.trans{w G w' G' w'' G''}(h:Stp w G w' G')(k:Stp w' G' w'' G''):Stp w G w'' G'' where
 imm:=fun b o hi=>by
  obtain⟨a1,a2⟩:=h.imm b o hi
  obtain⟨b1,b2⟩:=k.imm b o a2
  exact⟨b1.trans a1,b2⟩
 ids:=fun id loc hl=>by
  obtain⟨l1,a1,a2,a3⟩:=h.ids id loc hl
  obtain⟨l2,b1,b2,b3⟩:=k.ids id l1 a1
  refine⟨l2,b1,by omega,fun e=>?_⟩
  rcases e with e|e
  ·have e1:loc.ver=l1.ver:=by omega
   have e2:l1.ver=l2.ver:=by omega
   rw[b3 (.inl e2),a3 (.inl e1)]
  ·have h1:=a3 (.inr e)
   have h2:l1.mp=loc.mp:=congrArg (·.2.2.2.2) h1
   exact(b3 (.inr (h2.trans e))).trans h1
theorem RepV.stp{w:World}{G:Ghost}{w':World}{G':Ghost}{a:AV}{v:Value}(h:RepV w G a v)(hs:Stp w G w' G') :
  (∀b,0<cnt b a v->G'.tip b=G.tip b/\w'.heap[b]?=w.heap[b]?)->RepV w' G' a v:=by
 induction h with
 |undef=>exact fun _=>.undef
 |gone v h=>exact fun _=>.gone v h
 |bool b=>exact fun _=>.bool b
 |int k n=>exact fun _=>.int k n
 |str l s h=>exact fun _=>.str l s h
 |nilPtr=>exact fun _=>.nilPtr
 |nilSl=>exact fun _=>.nilSl
 |nilMap=>exact fun _=>.nilMap
 |nilFn=>exact fun _=>.nilFn
 |nilIf=>exact fun _=>.nilIf
 |agg cs vs hl h ih=>
  intro ho
  refine .agg cs vs hl fun i c v hc hv=>ih i c v hc hv fun b hb=>ho b ?_
  have:=cntL_get b cs vs.toList i c v hc (by simpa using hv)
  simp only[cnt];omega
 |tup cs vs hl h ih=>
  intro ho
  refine .tup cs vs hl fun i c v hc hv=>ih i c v hc hv fun b hb=>ho b ?_
  have:=cntL_get b cs vs.toList i c v hc (by simpa using hv)
  simp only[cnt];omega
 |lst sz rows a cap hsp hcap hfit hno hpu hce hc hr ih=>
  intro _
  refine .lst sz rows a cap hsp hcap hfit hno hpu hce (fun i r j c h1 h2=>?_) (fun i r j c v h1 h2 h3=>?_)
  ·obtain⟨hi,v,hv⟩:=hc i r j c h1 h2
   obtain⟨e,hi'⟩:=hs.imm _ _ hi
   exact⟨hi',v,e.trans hv⟩
  ·obtain⟨hi,v',hv'⟩:=hc i r j c h1 h2
   obtain⟨e,hi'⟩:=hs.imm _ _ hi
   rw[e]at h3
   refine ih i r j c v h1 h2 h3 fun b hb=>?_
   rw[cnt_noOwn b c v ((noOwnL_iff r).1 (hno r (mem_get h1)) c (mem_get h2))]at hb
   omega
 |own sz rows a cap hsp hcap hfit hno hpu hce hc hr htip hblk ih=>
  intro ho
  obtain⟨ht,hh⟩:=ho a.block (by simp[cnt])
  have hcell:∀o,w'.cell? ⟨a.block,o,none⟩=w.cell? ⟨a.block,o,none⟩:=fun o=>by simp[World.cell?,hh]
  refine .own sz rows a cap hsp hcap hfit hno hpu hce (fun i r j c h1 h2=>?_) (fun i r j c v h1 h2 h3=>?_) (ht.trans htip) ?_
  ·obtain⟨v,hv⟩:=hc i r j c h1 h2
   exact⟨v,(hcell _).trans hv⟩
  ·rw[hcell]at h3
   refine ih i r j c v h1 h2 h3 fun b hb=>?_
   rw[cnt_noOwn b c v ((noOwnL_iff r).1 (hno r (mem_get h1)) c (mem_get h2))]at hb
   omega
  ·obtain⟨c,e,h1,h2⟩:=hblk
   exact⟨c,e,hh.trans h1,h2⟩
 |raw sz rows a cap hsp hcap hfit hno hpu hce hc hr htip hblk ih=>
  intro ho
  obtain⟨ht,hh⟩:=ho a.block (by simp[cnt])
  have hcell:∀o,w'.cell? ⟨a.block,o,none⟩=w.cell? ⟨a.block,o,none⟩:=fun o=>by simp[World.cell?,hh]
  refine .raw sz rows a cap hsp hcap hfit hno hpu hce (fun i r j c h1 h2=>?_) (fun i r j c v h1 h2 h3=>?_) (ht.trans htip) ?_
  ·obtain⟨v,hv⟩:=hc i r j c h1 h2
   exact⟨v,(hcell _).trans hv⟩
  ·rw[hcell]at h3
   refine ih i r j c v h1 h2 h3 fun b hb=>?_
   rw[cnt_noOwn b c v ((noOwnL_iff r).1 (hno r (mem_get h1)) c (mem_get h2))]at hb
   omega
  ·obtain⟨c,e,h1,h2⟩:=hblk
   exact⟨c,e,hh.trans h1,h2⟩
 |emp a=>exact fun _=>.emp a
 |mu id ver v loc hp hl hv he=>
  intro _
  obtain⟨loc',a1,a2,a3⟩:=hs.ids id loc hl
  refine .mu id ver v loc' hp a1 (by omega) fun e=>?_
  have e1:ver=loc.ver:=by omega
  have e2:=a3 (.inl (by omega))
  rw[show loc'.a=loc.a from congrArg (·.1) e2,show loc'.len=loc.len from congrArg (·.2.2.1) e2,show loc'.cap=loc.cap from congrArg (·.2.1) e2]
  exact he e1
 |ptr id ver i k v loc hp hl hv he=>
  intro _
  obtain⟨loc',a1,a2,a3⟩:=hs.ids id loc hl
  refine .ptr id ver i k v loc' hp a1 (by omega) fun e=>?_
  have e1:ver=loc.ver:=by omega
  have e2:=a3 (.inl (by omega))
  rw[show loc'.a=loc.a from congrArg (·.1) e2,show loc'.sz=loc.sz from congrArg (·.2.2.2.1) e2]
  exact he e1
 |pel sz rows i k a cap hl ih=>exact fun _=>.pel sz rows i k a cap (ih fun b hb=>by simp[cnt]at hb)
 |map id loc b hl hm hb=>
  intro _
  obtain⟨loc',a1,a2,a3⟩:=hs.ids id loc hl
  have e2:=a3 (.inr hm)
  exact .map id loc' b a1 ((congrArg (·.2.2.2.2) e2:loc'.mp=loc.mp).trans hm) ((congrArg (·.1) e2:loc'.a=loc.a).trans hb)
 |fn f first caps vf vc hl hm hn h k ih ik=>
  intro _
  refine .fn f first caps vf vc hl hm hn (fun i c v h1 h2=>ih i c v h1 h2 fun b hb=>?_) (fun i c v h1 h2=>ik i c v h1 h2 fun b hb=>?_)
  ·rw[cnt_noOwn b c v ((noOwnL_iff first).1 hn.1 c (mem_get h1))]at hb;omega
  ·rw[cnt_noOwn b c v ((noOwnL_iff caps).1 hn.2.1 c (mem_get h1))]at hb;omega
end Ax
namespace Ax
open Go
def constAV:Nat->Value->Option AV
 |0,_=>none
 |d+1,v=>match v with
  |.bool b=>some (.bool b)
  |.int k n=>some (.int k n)
  |.string s=>some (.str s.data.toList)
  |.pointer none=>some .nilPtr
  |.slice none 0 0=>some .nilSl
  |.map none=>some .nilMap
  |.nilFunc=>some .nilFn
  |.nilIface=>some .nilIf
  |.agg cs=>match cs.toList.mapM (constAV d) with|some l=>some (.agg l)|none=>none
  |_=>none
def constIs(v:Value)(a:AV):Bool:=match constAV 3 v with|some b=>b.same a|none=>false
def constsAre:List Value->List AV->Bool
 |[],[]=>true
 |v::vs,a::as=>constIs v a&&constsAre vs as
 |_,_=>false
def mSrc:Operand->Src->Bool
 |.tmp t,.tmp u _=>t==u
 |.const v,.const a=>constIs v a
 |.func f,.const (.fn g [] [])=>f==g&&decide (f<100000)
 |_,_=>false
def mSrcs:List Operand->List Src->Bool
 |[],[]=>true
 |x::xs,s::ss=>mSrc x s&&mSrcs xs ss
 |_,_=>false
def isAggT(P:Program)(t:TypeId):Option Bool:=match P.underlying t with
 |some (.struct _)|some (.array _ _)=>some true
 |some _=>some false
 |none=>none
def cellsIs(P:Program)(t:TypeId)(n:Nat):Bool:=match P.info? t with|some i=>i.size==n|none=>false
def bytesIs(P:Program)(t:TypeId)(n:Nat):Bool:=match P.info? t with|some i=>i.bytes==n|none=>false
def flatFs(P:Program)(rec:TypeId->Option (List SK)):Nat->List Field->Option (List SK)
 |_,[]=>some []
 |off,f::fs=>
  if f.offset = off && f.name != "_" then
   match rec f.type with
   |some ks=>if cellsIs P f.type ks.length then (match flatFs P rec (off+ks.length) fs with|some r=>some (ks++r)|none=>none) else none
   |none=>none
  else none
def flatK(P:Program):Nat->TypeId->Option (List SK)
 |0,_=>none
 |d+1,t=>match P.underlying t with
  |some .bool=>some [.bool]
  |some (.int _)=>some [.int]
  |some .string=>some [.str]
  |some (.struct fs)=>if P.stoodInHeld t then none else flatFs P (flatK P d) 0 fs.toList
  |_=>none
def eqKT(P:Program)(t:TypeId):EqK->Bool
 |.sc .bool=>match P.underlying t with|some .bool=>true|_=>false
 |.sc _=>false
 |.ptr=>match P.underlying t with|some (.pointer _)=>true|_=>false
 |.sl=>match P.underlying t with|some (.slice _)=>true|_=>false
 |.fn=>match P.underlying t with|some (.func _ _ _)=>true|_=>false
 |.flat ks=>(match P.underlying t with|some (.struct _)=>true|_=>false)&&flatK P 20 t==some ks && !P.eqGuardType P.depth t
def keyT(P:Program)(t:TypeId):SK->Bool
 |.bool=>match P.underlying t with|some .bool=>true|_=>false
 |.int=>match P.underlying t with|some (.int _)=>true|_=>false
 |.str=>match P.underlying t with|some .string=>true|_=>false
def zeroIs(P:Program)(t:TypeId)(zero:List AV):Bool:=match P.info? t with
 |some i=>(match i.zero with|some z=>constsAre z.cells.toList zero&&AV.allCells zero|none=>false)
 |none=>false
def partsAre(P:Program)(fs:Array Field):List (Nat×Operand)->List (Nat×Nat)->Bool
 |[],[]=>true
 |(i,_)::ps,(off,n)::qs=>(match fs[i]? with|some f=>f.offset==off&&cellsIs P f.type n|none=>false)&&partsAre P fs ps qs
 |_,_=>false
def sliceArgs(x:Operand)(lo hi mx:Option Operand):List Operand:=x::(lo.toList++hi.toList++mx.toList)
def mOp(S:Nat->Option SFunc)(P:Program)(o:Oper)(so:SOper):Bool:=
 (match o.dst,so.dst with|some a,some b=>a==b|none,none=>true|_,_=>false) &&
 match o.op,so.op with
 |.move x,.move|.assign x,.move=>mSrcs [x] so.args
 |.pick c a b,.pick=>mSrcs [c,a,b] so.args
 |.binOp op _ x y _,.bin op'=>op==op'&&mSrcs [x,y] so.args
 |.binOp op t x y _,.eqv k neg=>op==(if neg then .neq else .eql)&&mSrcs [x,y] so.args&&eqKT P t k
 |.binOp op t x y _,.muNil neg=>op==(if neg then .neq else .eql)&&mSrcs [x,y] so.args&&eqKT P t .sl
 |.unOp op _ x,.un op'=>op==op'&&mSrcs [x] so.args
 |.convert s d x,.conv k=>mSrcs [x] so.args&&(match P.underlying s,P.underlying d with|some (.int _),some (.int k')=>k==k'|_,_=>false)
 |.nilCheck x,.nilCheck=>mSrcs [x] so.args
 |.extract x i,.extract j=>i==j&&mSrcs [x] so.args
 |.field t x f,.field off n agg=>mSrcs [x] so.args&&(match P.underlying t with
  |some (.struct fs)=>(match fs[f]? with|some fd=>fd.offset==off&&cellsIs P fd.type n&&isAggT P fd.type==some agg|none=>false)
  |_=>false)
 |.build t parts,.build zero qs=>mSrcs (parts.toList.map (·.2)) so.args&&zeroIs P t zero&&(match P.underlying t with
  |some (.struct fs)=>(match fs.toList.mapM (fun f=>P.info? f.type) with|some _=>partsAre P fs parts.toList qs|none=>false)
  |_=>false)
 |.buildSlice t n parts,.lit sz n' zero qs|.buildSlice t n parts,.litM sz n' zero qs=>n==n'&&mSrcs (parts.toList.map (·.2)) so.args&&(match P.underlying t with
  |some (.slice e)=>cellsIs P e sz&&decide (n*sz<=16777216)&&zeroIs P e zero&&decide (0<sz)&&(zero.length==sz)&&parts.toList.map (·.1)==qs
  |_=>false)
 |.fieldAddr t x f,.fieldAddr off=>mSrcs [x] so.args&&(match P.underlying t with
  |some (.struct fs)=>(match fs[f]? with
   |some fd=>fd.offset==off&&(match P.info? fd.type with|some i=>i.size != 0|none=>false)
   |none=>false)
  |_=>false)
 |.indexAddr t x i,.indexAddr sz=>mSrcs [x,i] so.args&&(match P.underlying t with|some (.slice e)=>cellsIs P e sz|_=>false)
 |.index t x i,.index=>mSrcs [x,i] so.args&&(match P.underlying t with|some .string=>true|_=>false)
 |.slice t x lo hi mx,.slice isS l h m sz=>mSrcs (sliceArgs x lo hi mx) so.args&&lo.isSome==l&&hi.isSome==h&&mx.isSome==m&&(!m||h)&&(match P.underlying t with
  |some (.slice e)=>!isS&&cellsIs P e sz
  |some .string=>isS && !m
  |_=>false)
 |.slice t x none (some hi) none,.sliceM sz=>mSrcs [x,hi] so.args&&(match P.underlying t with|some (.slice e)=>cellsIs P e sz|_=>false)
 |.load t a,.load agg n _|.load t a,.loadF _ agg n _=>mSrcs [a] so.args&&cellsIs P t n&&isAggT P t==some agg&&(agg||n==1)
 |.store t a v,.store n|.store t a v,.storeF _ n=>mSrcs [a,v] so.args&&cellsIs P t n
 |.alloc t,.alloc zero|.alloc t,.allocF _ zero=>so.args.isEmpty&&zeroIs P t zero
 |.box _ v,.box _|.box _ v,.boxF _ _=>mSrcs [v] so.args
 |.makeSlice t l c,.makeSl sz bytes zero _=>mSrcs [l,c] so.args&&(match P.underlying t with
  |some (.slice e)=>cellsIs P e sz&&bytesIs P e bytes&&zeroIs P e zero&&decide (0<sz)&&decide (0<bytes)
  |_=>false)
 |.makeMap t none,.makeMap=>so.args.isEmpty&&(match P.underlying t with|some (.map _ _)=>true|_=>false)
 |.mapUpdate t m k v,.mapUpdate kk|.insert t m k v,.mapUpdate kk=>mSrcs [m,k,v] so.args&&(match P.underlying t with
  |some (.map kt _)=>keyT P kt kk
  |_=>false)
 |.lookup t m k ok,.lookup kk zero ok'=>ok==ok'&&mSrcs [m,k] so.args&&(match P.underlying t with
  |some (.map kt et)=>keyT P kt kk &&
   (match P.info? et with|some i=>(match i.zero with|some z=>constIs z zero|none=>false)|none=>false)
  |_=>false)
 |.makeFunc (.func f) first caps,.makeFunc f' n=>f==f'&&mSrcs (first.toList++caps.toList) so.args&&first.size==n&&decide (f<100000)
 |.call c,.len k=>mSrcs c.args.toList so.args&&c.args.size==1&&(match c.callee,c.argTypes[0]? with
  |.builtin .len,some t=>(match P.underlying t,k with|some .string,.str|some (.slice _),.sl|some (.map _ _),.mp=>true|_,_=>false)
  |_,_=>false)
 |.call c,.minmax mx=>mSrcs c.args.toList so.args&&c.args.size==2&&(match c.callee with|.builtin .max=>mx|.builtin .min=>!mx|_=>false)
 |.call c,.append sz bytes|.call c,.appendM sz bytes=>mSrcs c.args.toList so.args&&c.args.size==2&&c.argTypes.size==2&&(match c.callee,c.argTypes[0]?,c.argTypes[1]? with
  |.builtin .append,some t,some u=>(match P.underlying t with|some (.slice e)=>cellsIs P e sz&&bytesIs P e bytes&&decide (0<sz)&&decide (0<bytes)&&(match P.info? e with|some i=>(match i.zero with|some z=>z.cells.size==sz|none=>false)|none=>false)|_=>false) &&
   (match P.underlying u with|some (.slice _)|some .string=>true|_=>false)
  |_,_,_=>false)
 |.call c,.copy sz=>mSrcs c.args.toList so.args&&c.args.size==2&&c.argTypes.size==2&&(match c.callee,c.argTypes[0]?,c.argTypes[1]? with
  |.builtin .copy,some t,some u=>(match P.underlying t with|some (.slice e)=>cellsIs P e sz|_=>false)&&(match P.underlying u with|some (.slice _)|some .string=>true|_=>false)
  |_,_,_=>false)
 |.convert s d x,.toStr=>mSrcs [x] so.args&&(match P.underlying s,P.underlying d with
  |some (.slice e),some .string=>(match P.underlying e with|some (.int .u8)=>true|_=>false)
  |_,_=>false)
 |.call c,.call i=>(match c.callee with
  |.value (.func f)=>mSrcs c.args.toList so.args&&(match S i with|some sf=>sf.fid==f|none=>false)
  |_=>false)
 |.call c,.callV=>(match c.callee with
  |.value x=>mSrcs (x::c.args.toList) so.args
  |_=>false)
 |.makeSlice t l c,.makeRaw sz bytes zero=>mSrcs [l,c] so.args&&(match P.underlying t with
  |some (.slice e)=>cellsIs P e sz&&bytesIs P e bytes&&zeroIs P e zero&&decide (0<sz)&&decide (0<bytes)
  |_=>false)
 |.call c,.appendZ sz bytes zero=>mSrcs c.args.toList so.args&&c.args.size==2&&c.argTypes.size==2&&(match c.callee,c.argTypes[0]?,c.argTypes[1]? with
  |.builtin .append,some t,some u=>(match P.underlying t with|some (.slice e)=>cellsIs P e sz&&bytesIs P e bytes&&zeroIs P e zero&&decide (0<sz)&&decide (0<bytes)|_=>false) &&
   (match P.underlying u with|some (.int _)=>true|_=>false)
  |_,_,_=>false)
 |.call c,.capN=>mSrcs c.args.toList so.args&&c.args.size==1&&(match c.callee,c.argTypes[0]? with
  |.builtin .cap,some t=>(match P.underlying t with|some (.slice _)=>true|_=>false)
  |_,_=>false)
 |_,.sliceM 0=>so.args.isEmpty
 |_,_=>false
end Ax
namespace Ax
open Go
structure BxG where
 blk:Option Nat
 vals:List Value
def RepE(w:World)(G:Ghost)(β:List BxG):Ent->Value->Prop
 |.none,_=>True
 |.val a,v=>RepV w G a v
 |.fp j k,v=>∃g b,β[j]?=some g/\g.blk=some b/\v=.pointer (some ⟨b,k,none⟩)
def cntE(b:Nat):Ent->Value->Nat
 |.val a,v=>cnt b a v
 |_,_=>0
def RepEs(w:World)(G:Ghost)(β:List BxG):List Ent->List Value->Prop
 |[],[]=>True
 |e::es,v::vs=>RepE w G β e v/\RepEs w G β es vs
 |_,_=>False
def cntEs(b:Nat):List Ent->List Value->Nat
 |e::es,v::vs=>cntE b e v+cntEs b es vs
 |_,_=>0
variable {w:World}{G:Ghost}{β:List BxG}
theorem RepEs.one{e:Ent}{xs:List Value}(h:RepEs w G β [e] xs):∃v,xs=[v]/\RepE w G β e v:=by
 match xs,h with
 |[v],h=>exact⟨v,rfl,h.1⟩
theorem RepEs.two{e f:Ent}{xs:List Value}(h:RepEs w G β [e,f] xs):∃v u,xs=[v,u]/\RepE w G β e v/\RepE w G β f u:=by
 match xs,h with
 |[v,u],h=>exact⟨v,u,rfl,h.1,h.2.1⟩
theorem RepEs.cons{e:Ent}{es:List Ent}{xs:List Value}(h:RepEs w G β (e::es) xs):∃v vs,xs=v::vs/\RepE w G β e v/\RepEs w G β es vs:=by
 match xs,h with
 |v::vs,h=>exact⟨v,vs,rfl,h.1,h.2⟩
theorem RepEs.vals:∀{es:List Ent}{xs:List Value}{vs:List AV},RepEs w G β es xs->valsOf es=some vs->
  es=vs.map .val/\vs.length=xs.length/\∀(i:Nat) c v,vs[i]?=some c->xs[i]?=some v->RepV w G c v
 |[],[],vs,_,h=>by simp[valsOf]at h;subst h;exact⟨rfl,rfl,fun i c v h _=>by simp at h⟩
 |.val a::es,x::xs,vs,h,hv=>by
  simp only[valsOf]at hv
  split at hv
  ·rename_i vs' hvs
   cases hv
   obtain⟨e1,e2,e3⟩:=RepEs.vals h.2 hvs
   refine⟨by rw[e1];rfl,by simp[e2],fun i c v h1 h2=>?_⟩
   cases i with
   |zero=>simp at h1 h2;subst h1;subst h2;exact h.1
   |succ i=>simp at h1 h2;exact e3 i c v h1 h2
  ·cases hv
 |.none::es,_::_,vs,_,hv=>by simp[valsOf]at hv
 |.fp _ _::es,_::_,vs,_,hv=>by simp[valsOf]at hv
 |[],_::_,_,h,_=>h.elim
 |_::_,[],_,h,_=>h.elim
theorem cntEs_vals:∀(b:Nat)(vs:List AV)(xs:List Value),cntEs b (vs.map .val) xs=cntL b vs xs
 |_,[],[]=>rfl
 |_,[],_::_=>rfl
 |_,_::_,[]=>rfl
 |b,a::vs,x::xs=>by simp[cntEs,cntL,cntE,cntEs_vals b vs xs]
theorem RepV.int_inv{k:IntKind}{n:Int}{v:Value}(h:RepV w G (.int k n) v):v=.int k n:=by cases h;rfl
theorem RepV.bool_inv{b:Bool}{v:Value}(h:RepV w G (.bool b) v):v=.bool b:=by cases h;rfl
theorem RepV.str_inv{l:List UInt8}{v:Value}(h:RepV w G (.str l) v):∃s,v=.string s/\s.data.toList=l:=by
 cases h with|str _ s h=>exact⟨s,rfl,h⟩
theorem RepV.view{a:AV}{v:Value}(h:RepV w G a v):RepV w G a.view v:=by
 induction h with
 |undef=>exact .undef
 |gone v h=>exact .gone v h
 |bool b=>exact .bool b
 |int k n=>exact .int k n
 |str l s h=>exact .str l s h
 |nilPtr=>exact .nilPtr
 |nilSl=>exact .nilSl
 |nilMap=>exact .nilMap
 |nilFn=>exact .nilFn
 |nilIf=>exact .nilIf
 |agg cs vs hl h ih=>
  refine .agg _ vs (by rw[viewL_length];exact hl) fun i c v hc hv=>?_
  rw[viewL_get]at hc
  simp only[Option.map_eq_some_iff]at hc
  obtain⟨c',h1,rfl⟩:=hc
  exact ih i c' v h1 hv
 |tup cs vs hl h ih=>
  refine .tup _ vs (by rw[viewL_length];exact hl) fun i c v hc hv=>?_
  rw[viewL_get]at hc
  simp only[Option.map_eq_some_iff]at hc
  obtain⟨c',h1,rfl⟩:=hc
  exact ih i c' v h1 hv
 |lst sz rows a cap hsp hcap hfit hno hpu hce hc hr ih=>exact .lst sz rows a cap hsp hcap hfit hno hpu hce hc hr
 |own sz rows a cap hsp hcap hfit hno hpu hce hc hr htip hblk ih=>
  refine .lst sz rows a cap hsp hcap hfit hno hpu hce (fun i r j c h1 h2=>⟨⟨?_,fun p hp=>?_⟩,hc i r j c h1 h2⟩) hr
  ·obtain⟨cc,e,h3,_⟩:=hblk
   exact(Array.getElem?_eq_some_iff.1 h3).1
  ·rw[htip]at hp
   cases hp
   have hi:i<rows.length:=(List.getElem?_eq_some_iff.1 h1).1
   have hj:j<r.length:=(List.getElem?_eq_some_iff.1 h2).1
   have hs:r.length=sz:=by
    simp only[fits,List.all_eq_true,beq_iff_eq]at hfit
    exact hfit r (mem_get h1)
   have:i*sz+j<rows.length*sz:=by
    calc i*sz+j<i*sz+sz:=by omega
     _=(i+1)*sz:=by rw[Nat.succ_mul]
     _<=rows.length*sz:=Nat.mul_le_mul_right _ hi
   omega
 |raw sz rows a cap hsp hcap hfit hno hpu hce hc hr htip hblk ih=>exact .gone _ rfl
 |emp a=>exact .emp a
 |mu id ver v loc hp hl hv he=>exact .mu id ver v loc hp hl hv he
 |ptr id ver i k v loc hp hl hv he=>exact .ptr id ver i k v loc hp hl hv he
 |pel sz rows i k a cap hl ih=>exact .pel sz rows i k a cap hl
 |map id loc b hl hm hb=>exact .map id loc b hl hm hb
 |fn f first caps vf vc hl hm hn h k ih ik=>exact .fn f first caps vf vc hl hm hn h k
theorem RepE.view{e:Ent}{v:Value}(h:RepE w G β e v):RepE w G β e.view v:=by
 cases e with
 |none=>trivial
 |val a=>exact RepV.view h
 |fp j k=>exact h
theorem cntE_view(b:Nat)(e:Ent)(v:Value):cntE b e.view v=0:=by
 cases e with
 |none=>rfl
 |val a=>exact cnt_noOwn b _ _ (noOwn_view a)
 |fp j k=>rfl
mutual
theorem same_eq:∀(a b:AV),a.same b=true->a=b
 |.undef,b,h=>by cases b<;>simp[AV.same]at h<;>rfl
 |.gone,b,h=>by cases b<;>simp[AV.same]at h<;>rfl
 |.nilPtr,b,h=>by cases b<;>simp[AV.same]at h<;>rfl
 |.nilSl,b,h=>by cases b<;>simp[AV.same]at h<;>rfl
 |.nilMap,b,h=>by cases b<;>simp[AV.same]at h<;>rfl
 |.nilFn,b,h=>by cases b<;>simp[AV.same]at h<;>rfl
 |.nilIf,b,h=>by cases b<;>simp[AV.same]at h<;>rfl
 |.emp,b,h=>by cases b<;>simp[AV.same]at h<;>rfl
 |.bool x,b,h=>by cases b<;>simp[AV.same]at h;rw[h]
 |.int k x,b,h=>by cases b<;>simp[AV.same]at h;rw[h.1,h.2]
 |.str x,b,h=>by cases b<;>simp[AV.same]at h;rw[h]
 |.agg x,b,h=>by
  cases b<;>simp[AV.same]at h
  rw[same_eqL _ _ h]
 |.tup x,b,h=>by
  cases b<;>simp[AV.same]at h
  rw[same_eqL _ _ h]
 |.lst s x,b,h=>by
  cases b<;>simp[AV.same]at h
  rw[h.1,same_eqLL _ _ h.2]
 |.own s x,b,h=>by
  cases b<;>simp[AV.same]at h
  rw[h.1,same_eqLL _ _ h.2]
 |.raw s x,b,h=>by
  cases b<;>simp[AV.same]at h
  rw[h.1,same_eqLL _ _ h.2]
 |.mu i v,b,h=>by cases b<;>simp[AV.same]at h;rw[h.1,h.2]
 |.ptr i v k l,b,h=>by cases b<;>simp[AV.same]at h;rw[h.1.1.1,h.1.1.2,h.1.2,h.2]
 |.pel s x i k,b,h=>by
  cases b<;>simp[AV.same]at h
  rw[h.1.1.1,same_eqLL _ _ h.1.1.2,h.1.2,h.2]
 |.map i,b,h=>by cases b<;>simp[AV.same]at h;rw[h]
 |.fn f x y,b,h=>by
  cases b<;>simp[AV.same]at h
  rw[h.1.1,same_eqL _ _ h.1.2,same_eqL _ _ h.2]
theorem same_eqL:∀(a b:List AV),AV.sameL a b=true->a=b
 |[],b,h=>by cases b<;>simp[AV.sameL]at h;rfl
 |x::a,b,h=>by
  cases b with
  |nil=>simp[AV.sameL]at h
  |cons y b=>
   simp[AV.sameL]at h
   rw[same_eq x y h.1,same_eqL a b h.2]
theorem same_eqLL:∀(a b:List (List AV)),AV.sameLL a b=true->a=b
 |[],b,h=>by cases b<;>simp[AV.sameLL]at h;rfl
 |x::a,b,h=>by
  cases b with
  |nil=>simp[AV.sameLL]at h
  |cons y b=>
   simp[AV.sameLL]at h
   rw[same_eqL x y h.1,same_eqLL a b h.2]
end
theorem constAV_ok(w:World)(G:Ghost):∀(d:Nat)(v:Value)(a:AV),constAV d v=some a->RepV w G a v/\a.noOwn=true/\a.isPure=true
 |0,_,_,h=>by simp[constAV]at h
 |d+1,v,a,h=>by
  unfold constAV at h
  split at h
  ·cases h;exact⟨.bool _,rfl,rfl⟩
  ·cases h;exact⟨.int _ _,rfl,rfl⟩
  ·cases h;exact⟨.str _ _ rfl,rfl,rfl⟩
  ·cases h;exact⟨.nilPtr,rfl,rfl⟩
  ·cases h;exact⟨.nilSl,rfl,rfl⟩
  ·cases h;exact⟨.nilMap,rfl,rfl⟩
  ·cases h;exact⟨.nilFn,rfl,rfl⟩
  ·cases h;exact⟨.nilIf,rfl,rfl⟩
  ·rename_i cs
   split at h
   ·rename_i l hl
    cases h
    have key:∀(vs:List Value) (l:List AV),vs.mapM (constAV d)=some l->vs.length=l.length/\(∀(i:Nat) c v,l[i]?=some c->vs[i]?=some v->RepV w G c v/\c.noOwn=true/\c.isPure=true):=by
     intro vs
     induction vs with
     |nil=>intro l h;simp at h;subst h;exact⟨rfl,fun i c v h _=>by simp at h⟩
     |cons x vs ih=>
      intro l h
      rw[List.mapM_cons]at h
      simp only[bind,Option.bind_eq_some_iff,pure,Option.some.injEq]at h
      obtain⟨a1,h1,l1,h2,rfl⟩:=h
      obtain⟨e1,e2⟩:=ih l1 h2
      refine⟨by simp[e1],fun i c v hc hv=>?_⟩
      cases i with
      |zero=>simp at hc hv;subst hc;subst hv;exact constAV_ok w G d _ _ h1
      |succ i=>simp at hc hv;exact e2 i c v hc hv
    obtain⟨e1,e2⟩:=key _ _ hl
    have hall:∀c∈l,c.noOwn=true/\c.isPure=true:=by
     intro c hc
     obtain⟨i,hi,rfl⟩:=List.mem_iff_getElem.1 hc
     have hi2:i<cs.toList.length:=by omega
     exact(e2 i l[i] cs.toList[i] (List.getElem?_eq_getElem hi) (List.getElem?_eq_getElem hi2)).2
    refine⟨.agg l cs (by rw[<-e1];simp) fun i c v hc hv=>(e2 i c v hc (by simpa using hv)).1,?_,?_⟩
    ·simp only[AV.noOwn];exact(noOwnL_iff l).2 fun c hc=>(hall c hc).1
    ·simp only[AV.isPure];exact(allPure_iff l).2 fun c hc=>(hall c hc).2
   ·cases h
  ·cases h
theorem constIs_ok{v:Value}{a:AV}(h:constIs v a=true)(w:World)(G:Ghost):RepV w G a v/\a.noOwn=true/\a.isPure=true:=by
 unfold constIs at h
 split at h
 ·rename_i b hb
  have:=same_eq _ _ h
  subst this
  exact constAV_ok w G 3 v b hb
 ·cases h
theorem constsAre_ok(w:World)(G:Ghost):∀{vs:List Value}{as:List AV},constsAre vs as=true->as.length=vs.length/\(∀(i:Nat) c v,as[i]?=some c->vs[i]?=some v->RepV w G c v)/\(∀c∈as,c.noOwn=true/\c.isPure=true)
 |[],[],_=>⟨rfl,fun i c v h _=>by simp at h,fun c h=>by simp at h⟩
 |v::vs,a::as,h=>by
  simp only[constsAre,Bool.and_eq_true]at h
  obtain⟨e1,e2,e3⟩:=constsAre_ok w G h.2
  obtain⟨f1,f2,f3⟩:=constIs_ok h.1 w G
  refine⟨by simp[e1],fun i c u hc hu=>?_,fun c hc=>?_⟩
  ·cases i with
   |zero=>simp at hc hu;subst hc;subst hu;exact f1
   |succ i=>simp at hc hu;exact e2 i c u hc hu
  ·rcases List.mem_cons.1 hc with rfl|hc
   ·exact⟨f2,f3⟩
   ·exact e3 c hc
 |[],_::_,h=>by simp[constsAre]at h
 |_::_,[],h=>by simp[constsAre]at h
end Ax
namespace Ax
open Go
variable {P:Program}{w:World}{G:Ghost}
theorem info_cells{t:TypeId}{n:Nat}(h:cellsIs P t n=true):∃i,P.info? t=some i/\i.size=n/\P.cellsOf t=n:=by
 unfold cellsIs at h
 split at h
 ·rename_i i hi;exact⟨i,hi,by simpa using h,by simp[Program.cellsOf,hi];simpa using h⟩
 ·cases h
theorem run_sizeOf_is{t:TypeId}{n:Nat}(h:cellsIs P t n=true)(w:World):(Go.sizeOf t).run P w=.ok n w:=by
 obtain⟨i,hi,hs,hc⟩:=info_cells h
 rw[run_sizeOf w hi,hc]
def RepC(w:World)(G:Ghost)(as:List AV)(xs:List Value):Prop:=as.length=xs.length/\∀(i:Nat) c v,as[i]?=some c->xs[i]?=some v->RepV w G c v
theorem eqS_run{t:TypeId}{k:SK}{a b:AV}{x y:Value}{r:Bool}(ht:keyT P t k=true)(h:eqS k a b=some r)(ha:RepV w G a x)(hb:RepV w G b y)(D:Nat)(w':World) :
  (Op.equalIn (D+1) t x y).run P w'=.ok r w':=by
 unfold eqS at h
 split at h
 ·cases h
  rw[ha.bool_inv,hb.bool_inv]
  have hu:P.underlying t=some .bool:=by
   unfold keyT at ht;simp only at ht;split at ht<;>simp_all
  exact run_equalIn_bool w' D t _ _ hu
 ·split at h
  ·rename_i k1 p k2 q hk
   cases h
   subst hk
   rw[ha.int_inv,hb.int_inv]
   have hu:∃q,P.underlying t=some (.int q):=by
    unfold keyT at ht;simp only at ht;split at ht
    ·exact⟨_,by assumption⟩
    ·cases ht
   obtain⟨q,hu⟩:=hu
   exact run_equalIn_int w' D t _ q _ _ hu
  ·cases h
 ·cases h
  obtain⟨s,rfl,rfl⟩:=ha.str_inv
  obtain⟨s',rfl,rfl⟩:=hb.str_inv
  have hu:P.underlying t=some .string:=by
   unfold keyT at ht;simp only at ht;split at ht<;>simp_all
  rw[run_equalIn_string w' D t _ _ hu,ByteArray.toList_eq,ByteArray.toList_eq]
 ·cases h
theorem eqF_append:∀(k1 k2:List SK)(a b:List AV)(r:Bool),eqF (k1++k2) a b=some r->
  ∃r1 r2,eqF k1 (a.take k1.length) (b.take k1.length)=some r1/\eqF k2 (a.drop k1.length) (b.drop k1.length)=some r2/\r=(r1&&r2)
 |[],k2,a,b,r,h=>⟨true,r,by simp[eqF],by simpa using h,by simp⟩
 |k::k1,k2,[],b,r,h=>by cases b<;>simp[eqF]at h
 |k::k1,k2,a::as,[],r,h=>by simp[eqF]at h
 |k::k1,k2,a::as,b::bs,r,h=>by
  simp only[List.cons_append,eqF]at h
  split at h
  ·rename_i p q hp hq
   cases h
   obtain⟨r1,r2,e1,e2,rfl⟩:=eqF_append k1 k2 as bs q hq
   exact⟨p&&r1,r2,by simp[eqF,hp,e1],by simpa using e2,by simp[Bool.and_assoc]⟩
  ·cases h
theorem eqF_length:∀(ks:List SK)(a b:List AV)(r:Bool),eqF ks a b=some r->a.length=ks.length/\b.length=ks.length
 |[],[],[],_,_=>⟨rfl,rfl⟩
 |[],[],_::_,_,h=>by simp[eqF]at h
 |[],_::_,_,_,h=>by simp[eqF]at h
 |_::_,[],_,_,h=>by simp[eqF]at h
 |_::_,_::_,[],_,h=>by simp[eqF]at h
 |k::ks,a::as,b::bs,r,h=>by
  simp only[eqF]at h
  split at h
  ·rename_i p q hp hq
   obtain⟨e1,e2⟩:=eqF_length ks as bs q hq
   simp[e1,e2]
  ·cases h
theorem run_part_agg{t:TypeId}{fs:Array Field}{n off:Nat}(hu:P.underlying t=some (.struct fs))(hn:cellsIs P t n=true)(xs:Array Value)(w:World) :
  (part t xs off).run P w=.ok (.agg (xs.extract off (off+n))) w:=by
 simp[part,isAgg,run_underlying hu,run_sizeOf_is hn]
theorem run_part_sc{t:TypeId}{k:SK}{off:Nat}{v:Value}(hk:keyT P t k=true){xs:Array Value}(hx:xs[off]?=some v)(w:World) :
  (part t xs off).run P w=.ok v w:=by
 refine run_part_plain w ?_ hx
 unfold keyT at hk
 unfold Program.plainKey
 cases k<;>simp only at hk<;>split at hk<;>simp_all
theorem RepC.take{as:List AV}{xs:List Value}(h:RepC w G as xs)(n:Nat):RepC w G (as.take n) (xs.take n):=by
 refine⟨by simp[h.1],fun i c v hc hv=>?_⟩
 rw[List.getElem?_take]at hc hv
 split at hc
 ·rename_i hi;rw[if_pos hi]at hv;exact h.2 i c v hc hv
 ·cases hc
theorem RepC.drop{as:List AV}{xs:List Value}(h:RepC w G as xs)(n:Nat):RepC w G (as.drop n) (xs.drop n):=by
 refine⟨by simp[h.1],fun i c v hc hv=>?_⟩
 rw[List.getElem?_drop]at hc hv
 exact h.2 _ c v hc hv
def EqOk(P:Program)(G:Ghost)(w:World)(D:Nat)(t:TypeId)(ks:List SK):Prop:=
 (∃k,ks=[k]/\keyT P t k=true)\/
 (∃fs,P.underlying t=some (.struct fs))/\∀(xs ys:Array Value) (as bs:List AV) (r:Bool),RepC w G as xs.toList->RepC w G bs ys.toList->eqF ks as bs=some r->
  (Op.equalIn D t (.agg xs) (.agg ys)).run P w=.ok r w
theorem eqFields_run(D:Nat)(xs ys:Array Value)(as bs:List AV)(hx:RepC w G as xs.toList)(hy:RepC w G bs ys.toList)(rec:TypeId->Option (List SK))
  (hrec:∀t ks,rec t=some ks->EqOk P G w (D+1) t ks):∀(fs:List Field) (off:Nat) (ks:List SK) (r:Bool),flatFs P rec off fs=some ks->eqF ks (as.drop off) (bs.drop off)=some r->
  (Op.eqFields (D+1) xs ys fs).run P w=.ok r w
 |[],off,ks,r,h,he=>by
  simp only[flatFs,Option.some.injEq]at h
  subst h
  cases ha:as.drop off<;>cases hb:bs.drop off<;>rw[ha,hb]at he<;>simp[eqF]at he
  subst he
  simp[Op.eqFields]
 |f::fs,off,ks,r,h,he=>by
  unfold flatFs at h
  split at h
  ·rename_i hc
   simp only[Bool.and_eq_true,decide_eq_true_eq,bne_iff_ne]at hc
   split at h
   ·rename_i kf hkf
    split at h
    ·rename_i hcell
     split at h
     ·rename_i kr hkr
      cases h
      obtain⟨r1,r2,e1,e2,rfl⟩:=eqF_append kf kr _ _ r he
      have ih:=eqFields_run D xs ys as bs hx hy rec hrec fs (off+kf.length) kr r2 hkr (by simpa [List.drop_drop] using e2)
      have hf : f.name ≠ "_" := hc.2
      have step:∃a b,(part f.type xs f.offset).run P w=.ok a w/\(part f.type ys f.offset).run P w=.ok b w/\(Op.equalIn (D+1) f.type a b).run P w=.ok r1 w:=by
       rw[hc.1]
       obtain⟨l1,l2⟩:=eqF_length _ _ _ _ e1
       rcases hrec _ _ hkf with⟨k,rfl,hk⟩|⟨⟨gs,hu⟩,hall⟩
       ·simp only[List.length_cons,List.length_nil,Nat.zero_add]at e1 l1 l2
        have ha:∃a,as[off]?=some a:=by
         cases h:as[off]? with
         |some a=>exact⟨a,rfl⟩
         |none=>rw[List.getElem?_eq_none_iff]at h;simp at l1;omega
        have hb:∃b,bs[off]?=some b:=by
         cases h:bs[off]? with
         |some a=>exact⟨a,rfl⟩
         |none=>rw[List.getElem?_eq_none_iff]at h;simp at l2;omega
        obtain⟨a,ha⟩:=ha
        obtain⟨b,hb⟩:=hb
        have hal:off<xs.size:=by have:=(List.getElem?_eq_some_iff.1 ha).1;have:=hx.1;simp at this;omega
        have hbl:off<ys.size:=by have:=(List.getElem?_eq_some_iff.1 hb).1;have:=hy.1;simp at this;omega
        have hxa:=hx.2 off a xs[off] ha (by simp[hal])
        have hyb:=hy.2 off b ys[off] hb (by simp[hbl])
        refine⟨xs[off],ys[off],run_part_sc hk (by simp[hal]) w,run_part_sc hk (by simp[hbl]) w,?_⟩
        have:eqS k a b=some r1:=by
         have t1:(as.drop off).take 1=[a]:=by
          rw[List.drop_eq_getElem_cons (List.getElem?_eq_some_iff.1 ha).1,(List.getElem?_eq_some_iff.1 ha).2];simp
         have t2:(bs.drop off).take 1=[b]:=by
          rw[List.drop_eq_getElem_cons (List.getElem?_eq_some_iff.1 hb).1,(List.getElem?_eq_some_iff.1 hb).2];simp
         rw[t1,t2]at e1
         simp only[eqF]at e1
         split at e1
         ·rename_i p q hp hq
          cases hq
          simpa [hp] using e1
         ·cases e1
        exact eqS_run hk this hxa hyb D w
       ·refine⟨_,_,run_part_agg hu hcell xs w,run_part_agg hu hcell ys w,hall _ _ _ _ _ ?_ ?_ e1⟩
        ·have:=(hx.drop off).take kf.length
         simpa [Array.toList_extract,List.extract] using this
        ·have:=(hy.drop off).take kf.length
         simpa [Array.toList_extract,List.extract] using this
      obtain⟨a,b,p1,p2,p3⟩:=step
      simp only[Op.eqFields,hf,ne_eq,not_false_eq_true,if_true,Sem.run_bind,p1,p2,p3,Result.andThen_ok]
      cases r1
      ·simp
      ·simpa using ih
     ·cases h
    ·cases h
   ·cases h
  ·cases h
theorem flatK_ok:∀(d D:Nat)(t:TypeId)(ks:List SK),d<=D->flatK P d t=some ks->EqOk P G w (D+1) t ks
 |0,_,_,_,_,h=>by simp[flatK]at h
 |d+1,D,t,ks,hd,h=>by
  unfold flatK at h
  split at h
  ·cases h;exact .inl ⟨.bool,rfl,by unfold keyT;simp[*]⟩
  ·cases h;exact .inl ⟨.int,rfl,by unfold keyT;simp[*]⟩
  ·cases h;exact .inl ⟨.str,rfl,by unfold keyT;simp[*]⟩
  ·rename_i fs hu
   split at h
   ·cases h
   ·rename_i hs
    refine .inr ⟨⟨fs,hu⟩,fun xs ys as bs r hx hy he=>?_⟩
    have hfs:P.fieldsOf t=fs:=by simp[Program.fieldsOf,hu]
    rw[run_equalIn_struct w D t xs ys (by rw[hfs];exact hu) (by simpa using hs),hfs]
    obtain⟨D',rfl⟩:∃D',D=D'+1:=⟨D-1,by omega⟩
    exact eqFields_run D' xs ys as bs hx hy (flatK P d) (fun t ks h=>flatK_ok d D' t ks (by omega) h) fs.toList 0 ks r h (by simpa using he)
  ·cases h
theorem eqKT_bool{t:TypeId}(h:eqKT P t (.sc .bool)=true):P.underlying t=some .bool:=by
 simp only[eqKT]at h;split at h
 ·assumption
 ·cases h
theorem eqKT_ptr{t:TypeId}(h:eqKT P t .ptr=true):∃e,P.underlying t=some (.pointer e):=by
 simp only[eqKT]at h;split at h
 ·exact⟨_,by assumption⟩
 ·cases h
theorem eqKT_sl{t:TypeId}(h:eqKT P t .sl=true):∃e,P.underlying t=some (.slice e):=by
 simp only[eqKT]at h;split at h
 ·exact⟨_,by assumption⟩
 ·cases h
theorem eqKT_fn{t:TypeId}(h:eqKT P t .fn=true):∃a b c,P.underlying t=some (.func a b c):=by
 simp only[eqKT]at h;split at h
 ·exact⟨_,_,_,by assumption⟩
 ·cases h
def NoNum(x:Value):Prop:=(∀k n,x≠.int k n)/\(∀k n,x≠.float k n)/\(∀s,x≠.string s)/\(∀k r i,x≠.complex k r i)
theorem eqGuard_quiet(t:TypeId){x y:Value}(h1:x≠.nilIface)(h2:∀cs,x≠.agg cs)(op:BinOp)(xo yo:Operand)(w:World):(eqGuard op t xo yo x y).run P w=.ok () w:=by
 cases op<;>cases x<;>simp_all [eqGuard]
theorem eqK_run{t:TypeId}{k:EqK}{a b:AV}{x y:Value}{r:Bool}(ht:eqKT P t k=true)(h:eqK k a b=some r)(ha:RepV w G a x)(hb:RepV w G b y) :
  (Op.equal t x y).run P w=.ok r w/\(∀op (xo yo:Operand),(eqGuard op t xo yo x y).run P w=.ok () w)/\NoNum x:=by
 unfold Op.equal Op.maxDepth
 cases k with
 |sc k=>
  cases k with
  |bool=>
   simp only[eqK]at h
   have hu:=eqKT_bool ht
   unfold eqS at h
   split at h<;>try cases h
   ·rw[ha.bool_inv,hb.bool_inv]
    exact⟨run_equalIn_bool w 9999 t _ _ hu,fun op xo yo=>eqGuard_quiet t (by simp) (by simp) op xo yo w,by simp,by simp,by simp,by simp⟩
   all_goals simp_all
  |int=>simp[eqKT]at ht
  |str=>simp[eqKT]at ht
 |flat ks=>
  unfold eqK at h
  split at h<;>try (cases h;done)
  all_goals try (rename_i heq;cases heq;done)
  rename_i ks' as bs heq
  cases heq
  cases ha with
  |agg _ xs hl hx=>
   cases hb with
   |agg _ ys hl' hy=>
    simp only[eqKT,Bool.and_eq_true,Bool.not_eq_true']at ht
    obtain⟨⟨hu,hf⟩,hg⟩:=ht
    have hfk:flatK P 20 t=some ks:=by simpa using hf
    refine⟨?_,fun op xo yo=>run_eqGuard_agg w op t xo yo xs ys hg,by simp,by simp,by simp,by simp⟩
    rcases flatK_ok (w:=w) (G:=G) 20 9999 t ks (by omega) hfk with⟨k,rfl,hk⟩|⟨_,hall⟩
    ·exfalso
     unfold keyT at hk
     cases k<;>simp only at hk<;>split at hk<;>simp_all
    ·exact hall xs ys as bs r ⟨by simpa using hl,fun i c v h1 h2=>hx i c v h1 (by simpa using h2)⟩ ⟨by simpa using hl',fun i c v h1 h2=>hy i c v h1 (by simpa using h2)⟩ h
 |ptr=>
  obtain⟨e,hu⟩:=eqKT_ptr ht
  have key:∀(p q:Option Addr) (r:Bool),(p=none/\r=q.isNone\/q=none/\r=p.isNone)->(Op.equalIn (9999+1) t (.pointer p) (.pointer q)).run P w=.ok r w:=by
   generalize 9999=D
   intro p q r h
   rcases h with⟨rfl,rfl⟩|⟨rfl,rfl⟩
   ·cases q<;>simp[Op.equalIn,run_underlying hu]
   ·cases p<;>simp[Op.equalIn,run_underlying hu]
  have inv:∀{a x},RepV w G a x->(a=.nilPtr->x=.pointer none)/\(∀i v k l,a=.ptr i v k l->∃p,x=.pointer (some p))/\(∀i v k l,a=.pel i v k l->∃p,x=.pointer (some p)):=by
   intro a x h
   refine⟨fun e=>by subst e;cases h;rfl,fun i v k l e=>by subst e;cases h with|ptr _ _ _ _ _ loc hp=>exact hp,fun i v k l e=>by subst e;cases h;exact⟨_,rfl⟩⟩
  unfold eqK at h
  split at h<;>try (cases h;done)
  all_goals try (rename_i heq;cases heq;done)
  ·cases h;rw[(inv ha).1 rfl,(inv hb).1 rfl]
   exact⟨key _ _ _ (.inl ⟨rfl,rfl⟩),fun op xo yo=>eqGuard_quiet t (by simp) (by simp) op xo yo w,by simp,by simp,by simp,by simp⟩
  ·cases h;obtain⟨p,hp⟩:=(inv hb).2.1 _ _ _ _ rfl;rw[(inv ha).1 rfl,hp]
   exact⟨key _ _ _ (.inl ⟨rfl,rfl⟩),fun op xo yo=>eqGuard_quiet t (by simp) (by simp) op xo yo w,by simp,by simp,by simp,by simp⟩
  ·cases h;obtain⟨p,hp⟩:=(inv hb).2.2 _ _ _ _ rfl;rw[(inv ha).1 rfl,hp]
   exact⟨key _ _ _ (.inl ⟨rfl,rfl⟩),fun op xo yo=>eqGuard_quiet t (by simp) (by simp) op xo yo w,by simp,by simp,by simp,by simp⟩
  ·cases h;obtain⟨p,hp⟩:=(inv ha).2.1 _ _ _ _ rfl;rw[(inv hb).1 rfl,hp]
   exact⟨key _ _ _ (.inr ⟨rfl,rfl⟩),fun op xo yo=>eqGuard_quiet t (by simp) (by simp) op xo yo w,by simp,by simp,by simp,by simp⟩
  ·cases h;obtain⟨p,hp⟩:=(inv ha).2.2 _ _ _ _ rfl;rw[(inv hb).1 rfl,hp]
   exact⟨key _ _ _ (.inr ⟨rfl,rfl⟩),fun op xo yo=>eqGuard_quiet t (by simp) (by simp) op xo yo w,by simp,by simp,by simp,by simp⟩
 |sl=>
  obtain⟨e,hu⟩:=eqKT_sl ht
  have key1:∀(q:Option Addr) (n c:Nat),(Op.equalIn (9999+1) t (.slice none 0 0) (.slice q n c)).run P w=.ok q.isNone w:=by
   generalize 9999=D
   intro q n c;simp[Op.equalIn,run_underlying hu]
  have key2:∀(q:Option Addr) (n c:Nat),(Op.equalIn (9999+1) t (.slice q n c) (.slice none 0 0)).run P w=.ok q.isNone w:=by
   generalize 9999=D
   intro q n c;cases q<;>simp[Op.equalIn,run_underlying hu]
  have inv:∀{a x},RepV w G a x->(a=.nilSl->x=.slice none 0 0)/\(∀s r,a=.lst s r->∃p n c,x=.slice (some p) n c)/\(∀s r,a=.own s r->∃p n c,x=.slice (some p) n c)/\(a=.emp->∃p n c,x=.slice (some p) n c):=by
   intro a x h
   refine⟨fun e=>by subst e;cases h;rfl,fun s r e=>by subst e;cases h;exact⟨_,_,_,rfl⟩,fun s r e=>by subst e;cases h;exact⟨_,_,_,rfl⟩,fun e=>by subst e;cases h;exact⟨_,_,_,rfl⟩⟩
  unfold eqK at h
  split at h<;>try (cases h;done)
  all_goals try (rename_i heq;cases heq;done)
  ·cases h;rw[(inv ha).1 rfl,(inv hb).1 rfl]
   exact⟨key1 _ _ _,fun op xo yo=>eqGuard_quiet t (by simp) (by simp) op xo yo w,by simp,by simp,by simp,by simp⟩
  ·cases h;obtain⟨p,n,c,hp⟩:=(inv hb).2.1 _ _ rfl;rw[(inv ha).1 rfl,hp]
   exact⟨key1 _ _ _,fun op xo yo=>eqGuard_quiet t (by simp) (by simp) op xo yo w,by simp,by simp,by simp,by simp⟩
  ·cases h;obtain⟨p,n,c,hp⟩:=(inv hb).2.2.1 _ _ rfl;rw[(inv ha).1 rfl,hp]
   exact⟨key1 _ _ _,fun op xo yo=>eqGuard_quiet t (by simp) (by simp) op xo yo w,by simp,by simp,by simp,by simp⟩
  ·cases h;obtain⟨p,n,c,hp⟩:=(inv hb).2.2.2 rfl;rw[(inv ha).1 rfl,hp]
   exact⟨key1 _ _ _,fun op xo yo=>eqGuard_quiet t (by simp) (by simp) op xo yo w,by simp,by simp,by simp,by simp⟩
  ·cases h;obtain⟨p,n,c,hp⟩:=(inv ha).2.1 _ _ rfl;rw[(inv hb).1 rfl,hp]
   exact⟨key2 _ _ _,fun op xo yo=>eqGuard_quiet t (by simp) (by simp) op xo yo w,by simp,by simp,by simp,by simp⟩
  ·cases h;obtain⟨p,n,c,hp⟩:=(inv ha).2.2.1 _ _ rfl;rw[(inv hb).1 rfl,hp]
   exact⟨key2 _ _ _,fun op xo yo=>eqGuard_quiet t (by simp) (by simp) op xo yo w,by simp,by simp,by simp,by simp⟩
  ·cases h;obtain⟨p,n,c,hp⟩:=(inv ha).2.2.2 rfl;rw[(inv hb).1 rfl,hp]
   exact⟨key2 _ _ _,fun op xo yo=>eqGuard_quiet t (by simp) (by simp) op xo yo w,by simp,by simp,by simp,by simp⟩
 |fn=>
  obtain⟨e1,e2,e3,hu⟩:=eqKT_fn ht
  have k1:∀D,(Op.equalIn (D+1) t .nilFunc .nilFunc).run P w=.ok true w:=fun D=>by simp[Op.equalIn,run_underlying hu]
  have k2:∀D f p q,(Op.equalIn (D+1) t .nilFunc (.func f p q)).run P w=.ok false w:=fun D f p q=>by simp[Op.equalIn,run_underlying hu]
  have k3:∀D f p q,(Op.equalIn (D+1) t (.func f p q) .nilFunc).run P w=.ok false w:=fun D f p q=>by simp[Op.equalIn,run_underlying hu]
  have inv:∀{a x},RepV w G a x->(a=.nilFn->x=.nilFunc)/\(∀f b c,a=.fn f b c->∃p q,x=.func (.func f) p q):=by
   intro a x h
   refine⟨fun e=>by subst e;cases h;rfl,fun s r c e=>by subst e;cases h;exact⟨_,_,rfl⟩⟩
  unfold eqK at h
  split at h<;>try (cases h;done)
  all_goals try (rename_i heq;cases heq;done)
  ·cases h;rw[(inv ha).1 rfl,(inv hb).1 rfl]
   exact⟨k1 9999,fun op xo yo=>eqGuard_quiet t (by simp) (by simp) op xo yo w,by simp,by simp,by simp,by simp⟩
  ·cases h;obtain⟨p,q,hp⟩:=(inv hb).2 _ _ _ rfl;rw[(inv ha).1 rfl,hp]
   exact⟨k2 9999 _ _ _,fun op xo yo=>eqGuard_quiet t (by simp) (by simp) op xo yo w,by simp,by simp,by simp,by simp⟩
  ·cases h;obtain⟨p,q,hp⟩:=(inv ha).2 _ _ _ rfl;rw[(inv hb).1 rfl,hp]
   exact⟨k3 9999 _ _ _,fun op xo yo=>eqGuard_quiet t (by simp) (by simp) op xo yo w,by simp,by simp,by simp,by simp⟩
end Ax
namespace Ax
open Go
variable {P:Program}{w:World}{G:Ghost}{β:List BxG}{ρ:Operand->Value}{o:Oper}
structure RowsAt (w:World)(G:Ghost)(sz:Nat)(rows:List (List AV))(loc:Loc):Prop where
 fit:fits sz rows=true
 cel:∀r∈rows,AV.allCells r=true
 len:loc.len=rows.length
 size:loc.sz=sz
 vlen:loc.vals.length=rows.length
 reps:∀(i:Nat) r xs,rows[i]?=some r->loc.vals[i]?=some xs->RepC w G r xs
 lies:(loc.cap=0/\rows=[]/\loc.a.isSome=true)\/∃b off c e,loc.a=some ⟨b,off,none⟩/\0<loc.cap/\w.heap[b]?=some (.cells c e (0,0))/\off+loc.cap*sz<=c.size/\rows.length<=loc.cap/\
  G.tip b=some 0/\∀(i:Nat) xs (j:Nat) x,loc.vals[i]?=some xs->xs[j]?=some x->w.cell? ⟨b,off+(i*sz+j),none⟩=some x
theorem RowsAt.cell{sz:Nat}{rows:List (List AV)}{loc:Loc}(h:RowsAt w G sz rows loc){b off:Nat}(hc:∀(i:Nat) xs (j:Nat) x,loc.vals[i]?=some xs->xs[j]?=some x->w.cell? ⟨b,off+(i*sz+j),none⟩=some x) :
  ∀(i:Nat) r (j:Nat) x,rows[i]?=some r->r[j]?=some x->∃v,w.cell? ⟨b,off+(i*sz+j),none⟩=some v/\RepV w G x v:=by
 intro i r j x h1 h2
 have hi:i<loc.vals.length:=by rw[h.vlen];exact(List.getElem?_eq_some_iff.1 h1).1
 have hv:=List.getElem?_eq_getElem hi
 obtain⟨e1,e2⟩:=h.reps i r _ h1 hv
 have hj:j<loc.vals[i].length:=by rw[<-e1];exact(List.getElem?_eq_some_iff.1 h2).1
 exact⟨_,hc i _ j _ hv (List.getElem?_eq_getElem hj),e2 j x _ h2 (List.getElem?_eq_getElem hj)⟩
def RepO(w:World)(G:Ghost):AObj->Loc->Prop
 |.rows ver sz rows,loc=>loc.mp=false/\loc.ver=ver/\RowsAt w G sz rows loc
 |.map es,loc=>loc.mp=true/\loc.cap=1/\∃b es' clock,loc.a=some ⟨b,0,none⟩/\w.heap[b]?=some (.map es' clock)/\G.tip b=some 0/\es'.size=es.length/\
   ∀(i:Nat) k v e,es[i]?=some (k,v)->es'[i]?=some e->RepV w G k e.key/\RepV w G v e.val/\v.noOwn=true/\k.noOwn=true
structure Inv (w:World)(G:Ghost)(st:Store):Prop where
 len:G.ls.length=st.length
 obj:∀(id:Nat) ob loc,st[id]?=some ob->G.ls[id]?=some loc->RepO w G ob loc
 tips:∀b p,G.tip b=some p->b<w.heap.size
theorem Inv.loc{st:Store}(h:Inv w G st){id:Nat}{ob:AObj}(hs:st[id]?=some ob):∃loc,G.ls[id]?=some loc/\RepO w G ob loc:=by
 have hi:id<st.length:=(List.getElem?_eq_some_iff.1 hs).1
 have:id<G.ls.length:=by rw[h.len];exact hi
 exact⟨G.ls[id],List.getElem?_eq_getElem this,h.obj id ob _ hs (List.getElem?_eq_getElem this)⟩
theorem rows_inv{st:Store}(hI:Inv w G st){a:AV}{v:Value}{rows:List (List AV)}(h:RepV w G a v)(hr:rowsOf st a=some rows) :
  ∃p n c,v=.slice p n c/\n=rows.length:=by
 unfold rowsOf at hr
 split at hr
 ·cases hr;cases h;exact⟨_,_,_,rfl,rfl⟩
 ·cases hr;cases h;exact⟨_,_,_,rfl,rfl⟩
 ·cases hr;cases h;exact⟨_,_,_,rfl,rfl⟩
 ·cases hr;cases h;exact⟨_,_,_,rfl,rfl⟩
 ·rename_i id ver
  split at hr
  ·rename_i v' sz rows' hst
   split at hr
   ·rename_i hv
    cases hr
    obtain⟨loc,hl,ho⟩:=hI.loc hst
    cases h with
    |mu _ _ _ loc' hp hl' hv' he=>
     rw[hl]at hl';cases hl'
     obtain⟨h1,h2,h3⟩:=ho
     refine⟨_,_,_,he (by omega),h3.len⟩
   ·cases hr
  ·cases hr
 ·cases hr
theorem q_bin{op:BinOp}{t yt:TypeId}{x y:Operand}(ho:o.op=.binOp op t x y yt){a b v:AV}(hv:binV op a b=some v)(ha:RepV w G a (ρ x))(hb:RepV w G b (ρ y)) :
  ∃u,(execOp ρ o).run P w=.ok (.value u) w/\RepV w G v u/\v.noOwn=true:=by
 unfold binV at hv
 split at hv
 ·rename_i k p l q
  split at hv
  ·rename_i hk
   subst hk
   have hx:=ha.int_inv
   have hy:=hb.int_inv
   simp only[execOp,ho,hx,hy]
   have hg:∀op (w:World),(eqGuard op t x y (.int k p) (.int k q)).run P w=.ok () w:=fun op w=>eqGuard_quiet t (by simp) (by simp) op x y w
   cases op<;>simp only[intBin]at hv<;>(try (cases hv;done))<;>(try (split at hv;· cases hv))<;>cases hv
   all_goals first
    |(refine⟨_,?_,.int _ _,rfl⟩;simp[binOp,Op.intArith,Op.intBits,hg];done)
    |(refine⟨_,?_,.bool _,rfl⟩;simp[binOp,Op.intCmp,hg];done)
    |(rename_i h0;refine⟨_,?_,.int _ _,rfl⟩;simp[binOp,Op.intDiv,hg,if_neg h0];done)
  ·cases hv
 ·rename_i p q
  obtain⟨s,hx,rfl⟩:=ha.str_inv
  obtain⟨s',hy,rfl⟩:=hb.str_inv
  simp only[execOp,ho,hx,hy]
  have hg:∀op (w:World),(eqGuard op t x y (.string s) (.string s')).run P w=.ok () w:=fun op w=>eqGuard_quiet t (by simp) (by simp) op x y w
  have h1:s.data.toList.length=s.size:=by simp
  have h2:s'.data.toList.length=s'.size:=by simp
  split at hv
  ·split at hv
   ·rename_i hle
    cases hv
    refine⟨.string (s++s'),?_,.str _ _ (by simp),rfl⟩
    have:¬(((s.size+s'.size:Nat):Int) > IntKind.i64.max):=by
     rw[h1,h2]at hle
     have:IntKind.i64.max=9223372036854775807:=rfl
     omega
    simp only[binOp,Op.stringOp,Sem.run_bind,hg,Result.andThen_ok,if_neg this,Sem.run_pure]
   ·cases hv
  ·cases hv
   exact⟨_,by simp[binOp,Op.stringOp,hg,ByteArray.toList_eq],.bool _,rfl⟩
  ·cases hv
   exact⟨_,by simp[binOp,Op.stringOp,hg,ByteArray.toList_eq],.bool _,rfl⟩
  ·cases hv
 ·cases hv
theorem binOp_eql{x:Value}(h:NoNum x)(t:TypeId)(y:Value):binOp .eql t x y=(do pure (.bool (<-Op.equal t x y))):=by
 obtain⟨h1,h2,h3,h4⟩:=h
 cases x<;>first|rfl|(cases y<;>first|rfl|simp_all)
theorem binOp_neq{x:Value}(h:NoNum x)(t:TypeId)(y:Value):binOp .neq t x y=(do pure (.bool (!(<-Op.equal t x y)))):=by
 obtain⟨h1,h2,h3,h4⟩:=h
 cases x<;>first|rfl|(cases y<;>first|rfl|simp_all)
theorem q_eqv{t yt:TypeId}{x y:Operand}{k:EqK}{neg:Bool}(ho:o.op=.binOp (if neg then .neq else .eql) t x y yt)(ht:eqKT P t k=true){a b:AV}{r:Bool}(hr:eqK k a b=some r)
  (ha:RepV w G a (ρ x))(hb:RepV w G b (ρ y)):∃u,(execOp ρ o).run P w=.ok (.value u) w/\RepV w G (.bool (if neg then !r else r)) u:=by
 obtain⟨h1,h2,h3⟩:=eqK_run ht hr ha hb
 refine⟨_,?_,.bool _⟩
 simp only[execOp,ho]
 cases neg
 ·simp[h2,binOp_eql h3,h1]
 ·simp[h2,binOp_neq h3,h1]
theorem q_muNil{t yt:TypeId}{x y:Operand}{neg:Bool}(ho:o.op=.binOp (if neg then .neq else .eql) t x y yt)(ht:eqKT P t .sl=true){st:Store}(hI:Inv w G st){id ver v sz:Nat}{rows:List (List AV)}(hst:st[id]?=some (.rows v sz rows))(hv:v=ver)
  (ha:RepV w G (.mu id ver) (ρ x))(hb:RepV w G .nilSl (ρ y)):(execOp ρ o).run P w=.ok (.value (.bool neg)) w:=by
 obtain⟨loc,hl,ho'⟩:=hI.loc hst
 obtain⟨e,hu⟩:=eqKT_sl ht
 have hy:ρ y=.slice none 0 0:=by
  generalize ρ y=z at hb
  cases hb;rfl
 obtain⟨p,n,c,hx⟩:∃p n c,ρ x=.slice (some p) n c:=by
  generalize ρ x=z at ha
  cases ha with
  |mu _ _ _ loc' hp hl' hv' he=>
   rw[hl]at hl';cases hl'
   obtain⟨h1,h2,h3⟩:=ho'
   have hz:=he (by omega)
   rcases h3.lies with⟨_,_,h4⟩|⟨b,off,c,e,h4,_⟩
   ·obtain⟨a,ha⟩:=Option.isSome_iff_exists.1 h4
    rw[ha]at hz;exact⟨_,_,_,hz⟩
   ·rw[h4]at hz;exact⟨_,_,_,hz⟩
 have h1:(Op.equal t (ρ x) (ρ y)).run P w=.ok false w:=by
  have key2:∀(q:Option Addr) (n c:Nat),(Op.equalIn (9999+1) t (.slice q n c) (.slice none 0 0)).run P w=.ok q.isNone w:=by
   generalize 9999=D
   intro q n c;cases q<;>simp[Op.equalIn,run_underlying hu]
  rw[hx,hy]
  unfold Op.equal Op.maxDepth
  exact key2 (some p) n c
 have h2:∀op (xo yo:Operand),(eqGuard op t xo yo (ρ x) (ρ y)).run P w=.ok () w:=by
  rw[hx,hy]
  exact fun op xo yo=>eqGuard_quiet t (by simp) (by simp) op xo yo w
 have h3:NoNum (ρ x):=by
  rw[hx]
  exact⟨by simp,by simp,by simp,by simp⟩
 simp only[execOp,ho]
 cases neg
 ·simp[h2,binOp_eql h3,h1]
 ·simp[h2,binOp_neq h3,h1]
theorem q_un{op:UnOp}{t:TypeId}{x:Operand}(ho:o.op=.unOp op t x){a v:AV}(hv:unV op a=some v)(ha:RepV w G a (ρ x)) :
  ∃u,(execOp ρ o).run P w=.ok (.value u) w/\RepV w G v u/\v.noOwn=true:=by
 unfold unV at hv
 split at hv
 ·rename_i k p
  split at hv
  ·cases hv
   refine⟨_,?_,.int _ _,rfl⟩
   simp only[execOp,ho,ha.int_inv]
   simp[Op.unary,Op.intArith]
  ·cases hv
 ·rename_i b
  split at hv
  ·cases hv
   refine⟨_,?_,.bool _,rfl⟩
   simp only[execOp,ho,ha.bool_inv]
   simp[Op.unary]
  ·cases hv
 ·cases hv
theorem q_conv{s d:TypeId}{x:Operand}{k k':IntKind}(ho:o.op=.convert s d x)(hs:P.underlying s=some (.int k'))(hd:P.underlying d=some (.int k)){l:IntKind}{n:Int}(ha:RepV w G (.int l n) (ρ x)) :
  (execOp ρ o).run P w=.ok (.value (.int k (k.wrap n))) w:=by
 simp only[execOp,ho,ha.int_inv]
 simp[convert,run_underlying hs,run_underlying hd,Conv.intToInt]
theorem q_len{c:Call}(ho:o.op=.call c)(hc:c.callee=.builtin .len){x:Operand}{t:TypeId}(hx:c.args.toList=[x])(ht:c.argTypes[0]?=some t){k:LK}
  (hu:match k with|.sl=>∃e,P.underlying t=some (.slice e)|.str=>P.underlying t=some .string|.mp=>∃k e,P.underlying t=some (.map k e))
  {st:Store} (hI:Inv w G st) {a:AV} {n:Nat} (hn:lenV st k a=some n) (ha:RepV w G a (ρ x)) :
  (execOp ρ o).run P w=.ok (.value (.int .i64 n)) w:=by
 have hargs:c.args = #[x]:=by
  have:=congrArg List.toArray hx;simpa using this
 simp only[execOp,ho,resolve,hc,Sem.run_bind,Sem.run_pure,Result.andThen_ok,invoke,builtin,hargs]
 simp only[Builtin.len_]
 unfold lenV at hn
 split at hn
 ·obtain⟨s',hx',rfl⟩:=ha.str_inv
  cases hn
  simp[ht,run_underlying hu,hx',goInt]
 ·cases hn
  obtain⟨km,em,hu⟩:=hu
  cases h:ρ x<;>rw[h]at ha<;>cases ha
  simp[ht,run_underlying hu,goInt,h]
 ·obtain⟨km,em,hu⟩:=hu
  split at hn
  ·rename_i es hst
   cases hn
   obtain⟨loc,hl,ho'⟩:=hI.loc hst
   generalize hxv:ρ x=xv at ha
   cases ha with
   |map _ loc' b hl' hm hb=>
    rw[hl]at hl';cases hl'
    obtain⟨h1,h2,b',es',clock,h3,h4,h5,h6,h7⟩:=ho'
    rw[hb]at h3;cases h3
    simp[ht,run_underlying hu,hxv,goInt,getObj,Sem.run,h4,h6]
  ·cases hn
 ·obtain⟨e,hu⟩:=hu
  split at hn
  ·rename_i rows hr
   cases hn
   obtain⟨p,m,cc,hx',rfl⟩:=rows_inv hI ha hr
   simp[ht,run_underlying hu,hx',goInt]
  ·cases hn
 ·cases hn
end Ax
namespace Ax
open Go
theorem paste_length{α:Type}:∀(cs:List α)(k:Nat)(vs:List α),(paste cs k vs).length=cs.length
 |[],0,[]=>rfl
 |[],0,_::_=>rfl
 |[],_+1,_=>rfl
 |_::_,0,[]=>rfl
 |_::cs,0,_::vs=>by simp[paste,paste_length cs 0 vs]
 |_::cs,k+1,vs=>by simp[paste,paste_length cs k vs]
theorem paste_get{α:Type}:∀(cs:List α)(k:Nat)(vs:List α)(i:Nat),k+vs.length<=cs.length->
  (paste cs k vs)[i]?=if k<=i/\i<k+vs.length then vs[i-k]? else cs[i]?
 |[],0,[],i,_=>by simp[paste]
 |[],0,_::_,i,h=>by simp at h
 |[],k+1,vs,i,h=>by simp at h
 |c::cs,0,[],i,_=>by simp[paste]
 |c::cs,0,v::vs,0,_=>by simp[paste]
 |c::cs,0,v::vs,i+1,h=>by
  have:=paste_get cs 0 vs i (by simp at h ⊢;omega)
  simp only[paste,List.getElem?_cons_succ,this,List.length_cons,Nat.zero_add,Nat.sub_zero,Nat.zero_le,true_and]
  by_cases hi:i<vs.length
  ·simp[hi]
  ·simp[hi]
 |c::cs,k+1,vs,0,h=>by simp[paste]
 |c::cs,k+1,vs,i+1,h=>by
  have:=paste_get cs k vs i (by simp at h;omega)
  simp only[paste,List.getElem?_cons_succ,this]
  by_cases hi:k<=i/\i<k+vs.length
  ·rw[if_pos hi,if_pos (by omega),show i+1-(k+1)=i-k by omega]
  ·rw[if_neg hi,if_neg (by omega)]
theorem paste_eq{α:Type}(cs:List α)(k:Nat)(vs:List α)(h:k+vs.length<=cs.length):paste cs k vs=cs.take k++vs++cs.drop (k+vs.length):=by
 apply List.ext_getElem?
 intro i
 rw[paste_get cs k vs i h]
 by_cases h1:i<k
 ·rw[if_neg (by omega),List.getElem?_append_left (by simp;omega),List.getElem?_append_left (by simp;omega),List.getElem?_take,if_pos h1]
 ·by_cases h2:i<k+vs.length
  ·rw[if_pos (by omega),List.getElem?_append_left (by simp;omega),List.getElem?_append_right (by simp;omega)]
   simp only[List.length_take]
   rw[Nat.min_eq_left (by omega)]
  ·rw[if_neg (by omega),List.getElem?_append_right (by simp;omega)]
   simp only[List.length_append,List.length_take,List.getElem?_drop]
   rw[Nat.min_eq_left (by omega)]
   congr 1
   omega
theorem cntL_nil(b:Nat)(xs:List Value):cntL b [] xs=0:=by cases xs<;>rfl
theorem cntL_append(b:Nat):∀(as bs:List AV)(xs ys:List Value),as.length=xs.length->cntL b (as++bs) (xs++ys)=cntL b as xs+cntL b bs ys
 |[],bs,[],ys,_=>by simp[cntL]
 |[],_,_::_,_,h=>by simp at h
 |_::_,_,[],_,h=>by simp at h
 |a::as,bs,x::xs,ys,h=>by
  simp only[List.cons_append,cntL]
  rw[cntL_append b as bs xs ys (by simpa using h)]
  omega
theorem cntL_take_drop(b n:Nat)(as:List AV)(xs:List Value)(h:as.length=xs.length):cntL b as xs=cntL b (as.take n) (xs.take n)+cntL b (as.drop n) (xs.drop n):=by
 rw[<-cntL_append b _ _ _ _ (by simp[h]),List.take_append_drop,List.take_append_drop]
theorem cntL_drop(b n:Nat)(as:List AV)(xs:List Value)(h:as.length=xs.length):cntL b (as.drop n) (xs.drop n)<=cntL b as xs:=by
 have:=cntL_take_drop b n as xs h;omega
theorem cntL_take(b n:Nat)(as:List AV)(xs:List Value)(h:as.length=xs.length):cntL b (as.take n) (xs.take n)<=cntL b as xs:=by
 have:=cntL_take_drop b n as xs h;omega
theorem cntL_paste(b:Nat)(as vs:List AV)(xs ys:List Value)(k:Nat)(h1:as.length=xs.length)(h2:vs.length=ys.length)(h:k+vs.length<=as.length) :
  cntL b (paste as k vs) (paste xs k ys)<=cntL b as xs+cntL b vs ys:=by
 rw[paste_eq _ _ _ h,paste_eq _ _ _ (by omega)]
 rw[cntL_append b _ _ _ _ (by simp;omega),cntL_append b _ _ _ _ (by simp;omega)]
 have e1:=cntL_take_drop b k as xs h1
 have e2:=cntL_drop b vs.length (as.drop k) (xs.drop k) (by simp;omega)
 rw[List.drop_drop,List.drop_drop]at e2
 rw[h2]at *
 omega
section
variable {w:World}{G:Ghost}
theorem RepC.paste{as vs:List AV}{xs ys:List Value}(h:RepC w G as xs)(k:RepC w G vs ys){n:Nat}(hn:n+vs.length<=as.length):RepC w G (Ax.paste as n vs) (Ax.paste xs n ys):=by
 refine⟨by rw[paste_length,paste_length];exact h.1,fun i c v hc hv=>?_⟩
 have h1:=h.1
 have h2:=k.1
 rw[paste_get _ _ _ _ hn]at hc
 rw[paste_get _ _ _ _ (by omega)]at hv
 rw[<-h2]at hv
 split at hc
 ·rename_i hi;rw[if_pos hi]at hv;exact k.2 _ c v hc hv
 ·rename_i hi;rw[if_neg hi]at hv;exact h.2 _ c v hc hv
theorem RepV.cells{a:AV}{v:Value}(h:RepV w G a v):RepC w G a.cells v.cells.toList/\∀b,cntL b a.cells v.cells.toList=cnt b a v:=by
 have one:∀{a:AV} {v:Value},RepV w G a v->(∀cs,a≠.agg cs)->(∀cs,v≠.agg cs)->RepC w G a.cells v.cells.toList/\∀b,cntL b a.cells v.cells.toList=cnt b a v:=by
  intro a v h h1 h2
  have e1:a.cells=[a]:=by cases a<;>first|rfl|exact absurd rfl (h1 _)
  have e2:v.cells = #[v]:=by cases v<;>first|rfl|exact absurd rfl (h2 _)
  rw[e1,e2]
  refine⟨⟨rfl,fun i c x hc hx=>?_⟩,fun b=>by simp[cntL]⟩
  cases i with
  |zero=>simp at hc hx;subst hc;subst hx;exact h
  |succ i=>simp at hc
 cases a with
 |agg cs=>
  cases h with
  |agg _ vs hl hh=>exact⟨⟨by simpa [AV.cells,Value.cells] using hl,fun i c x hc hx=>hh i c x hc (by simpa [Value.cells] using hx)⟩,fun b=>by simp[AV.cells,Value.cells,cnt]⟩
 |gone=>
  refine one h (by simp) fun cs e=>?_
  subst e
  cases h with|gone _ h=>simp[Value.oneCell']at h
 |mu id ver=>
  refine one h (by simp) fun cs e=>?_
  subst e
  cases h with|mu _ _ _ _ hp=>obtain⟨p,n,c,hp⟩:=hp;cases hp
 |ptr id ver i k=>
  refine one h (by simp) fun cs e=>?_
  subst e
  cases h with|ptr _ _ _ _ _ _ hp=>obtain⟨p,hp⟩:=hp;cases hp
 |undef=>refine one h (by simp) fun cs e=>?_;subst e;generalize hx:Value.agg cs=x at h;cases h;cases hx
 |bool _|int _ _|str _|nilPtr|nilSl|nilMap|nilFn|nilIf|tup _|lst _ _|own _ _|raw _ _|emp|pel _ _ _ _|map _|fn _ _ _=>
  refine one h (by simp) fun cs e=>?_;subst e;cases h
theorem cell_one{a:AV}{v:Value}(h:RepV w G a v)(hc:a.isCell=true):v.oneCell'=true:=by
 cases h with
 |agg _ _ _ _=>simp[AV.isCell]at hc
 |tup _ _ _ _=>simp[AV.isCell]at hc
 |undef=>simp[AV.isCell]at hc
 |gone _ h=>exact h
 |mu _ _ _ _ hp=>obtain⟨p,n,c,rfl⟩:=hp;rfl
 |ptr _ _ _ _ _ _ hp=>obtain⟨p,rfl⟩:=hp;rfl
 |_=>rfl
theorem RepC.ones{as:List AV}{xs:List Value}(h:RepC w G as xs)(hc:AV.allCells as=true):∀v∈xs,v.oneCell'=true:=by
 intro v hv
 obtain⟨i,hi,rfl⟩:=List.mem_iff_getElem.1 hv
 have hi':i<as.length:=by have:=h.1;omega
 refine cell_one (h.2 i as[i] xs[i] (List.getElem?_eq_getElem hi') (List.getElem?_eq_getElem hi)) ?_
 simp only[AV.allCells,List.all_eq_true]at hc
 exact hc _ (List.getElem_mem hi')
theorem RepC.mono{as:List AV}{xs:List Value}{w':World}{G':Ghost}(h:RepC w G as xs)(hs:Stp w G w' G')(ho:∀b,0<cntL b as xs->G'.tip b=G.tip b/\w'.heap[b]?=w.heap[b]?):RepC w' G' as xs:=
 ⟨h.1,fun i c v hc hv=>(h.2 i c v hc hv).stp hs fun b hb=>ho b (by have:=cntL_get b as xs i c v hc hv;omega)⟩
end
theorem fold_paste(off:Nat)(l:List Value)(cs:Array Value)(h:off+l.length<=cs.size) :
  (l.toArray.zipIdx.foldl (fun cs (c,j)=>cs.setIfInBounds (off+j) c) cs).toList=paste cs.toList off l:=by
 have key:∀(l:List Value) (s:Nat) (cs:Array Value),off+s+l.length<=cs.size->
   ((l.zipIdx s).foldl (fun (cs:Array Value) (x:Value×Nat)=>cs.setIfInBounds (off+x.2) x.1) cs).toList=paste cs.toList (off+s) l:=by
  intro l
  induction l with
  |nil=>intro s cs h;simp;rw[paste_eq _ _ _ (by simpa using h)];simp
  |cons v l ih=>
   intro s cs h
   simp only[List.length_cons]at h
   rw[List.zipIdx_cons,List.foldl_cons,ih (s+1) _ (by simp;omega)]
   simp only[Array.toList_setIfInBounds]
   apply List.ext_getElem?
   intro i
   rw[paste_get _ _ _ _ (by simp;omega),paste_get _ _ _ _ (by simp;omega)]
   simp only[List.length_cons]
   by_cases hi:i=off+s
   ·subst hi
    rw[if_neg (by omega),if_pos (by omega),List.getElem?_set_self (by simp;omega)]
    simp
   ·by_cases h2:off+s<=i/\i<off+s+(l.length+1)
    ·rw[if_pos (by omega),if_pos h2]
     have:i-(off+s)=(i-(off+(s+1)))+1:=by omega
     rw[this,List.getElem?_cons_succ]
    ·rw[if_neg (by omega),if_neg h2,List.getElem?_set,if_neg (by omega)]
 have:=key l 0 cs (by simpa using h)
 simp only[Nat.add_zero]at this
 rw[<-this,<-Array.foldl_toList]
 simp
end Ax
