/- Part of a proof. -/
import Derived.Test.YtgblgbgjmgjfkaaGreatA1
import Derived.Test.YtgblgbgjmgjfkaaGreatProg

open List renaming length->Q
open Option renaming some->Z,none->K
open Bool renaming true->Y,false->X
open Nat renaming beq->af5,testBit->ail
set_option maxRecDepth 100000
namespace An
open Ax Go
structure Tb where
 ow:Nat
 ag:Nat
 kd:Nat
 sz:Nat
 bs:Nat
 el:Nat
 fl:Nat->Nat
 zr:Nat->Nat
 ix:Nat
 fo:Nat
structure Hn where
 b:List Nat:=[]
 m:List Nat:=[]
 t:List Nat:=[]
 r:List Nat:=[]
 p:List (Nat×List (Nat×Nat)):=[]
 z:List (Nat×aW):=[]
variable (T:Tb)
def Wc(n t:Nat):Nat:=(n >>> (8*t)) % 256
def Tb.k(t:Nat):Nat:=(T.kd >>> (4*t)) % 16
def Tb.s(t:Nat):Nat:=Wc T.sz t
def Tb.e(t:Nat):Nat:=Wc T.el t
def arN:Nat->AV
 |1=>.int .i64 0|2=>.bool X|3=>.str []|4=>.aF|5=>.ff|6=>.gR|7=>.jx|_=>.int .u8 0
def abV:Nat->Nat->List AV
 |0,_=>[]
 |f+1,n=>if af5 n 0 then [] else arN (n % 16)::abV f (n / 16)
def Tb.z(t:Nat):List AV:=abV 40 (T.zr t)
def arO:Value->AV
 |.bool b=>.bool b|.int k n=>.int k n|.string s=>.str s.data.toList|.pointer _=>.ff|.map _=>.gR|.nilFunc=>.jx|.nilIface=>.me|_=>.aF
def MY:Value->AV
 |.agg l=>.agg (l.toList.map arO)|v=>arO v
def clO(l:List Operand):Callee->List Operand
 |.value (.func _)=>l|.value x=>x::l|_=>l
def arP:Op->List Operand
 |.move x=>[x]
 |.assign x=>[x]
 |.nilCheck x=>[x]
 |.box _ x=>[x]
 |.load _ x=>[x]
 |.unOp _ _ x=>[x]
 |.convert _ _ x=>[x]
 |.fieldAddr _ x _=>[x]
 |.field _ x _=>[x]
 |.extract x _=>[x]
 |.pick a b c=>[a,b,c]
 |.mapUpdate _ a b c=>[a,b,c]
 |.insert _ a b c=>[a,b,c]
 |.build _ p=>p.toList.map (·.2)|.buildSlice _ _ p=>p.toList.map (·.2)|.store _ a b=>[a,b]
 |.binOp _ _ a b _=>[a,b]
 |.makeSlice _ a b=>[a,b]
 |.indexAddr _ a b=>[a,b]
 |.index _ a b=>[a,b]
 |.lookup _ a b _=>[a,b]
 |.makeFunc _ a b=>a.toList++b.toList|.slice _ x l h m=>x::(l.toList++h.toList++m.toList)|.call c=>clO c.args.toList c.callee|_=>[]
def mem(t:Nat):List Nat->Bool
 |[]=>X|x::l=>af5 x t||mem t l
def look{g:Type}(t:Nat):List (Nat×g)->Option g
 |[]=>K|(k,v)::l=>if af5 k t then Z v else look t l
def idx(t:Nat):List Nat->Nat->Option Nat
 |[],_=>K|x::l,i=>if af5 x t then Z i else idx t l (i+1)
def dst(o:Oper):Nat:=match o.dst with|some d=>d|none=>1000
abbrev Dv:=Nat×List (Nat×Nat)
def arQ(t:Nat)(l:List (Nat×Nat)):Bool->Option Nat
 |true=>look t l|false=>K
def abW(D:Dv):Operand->Option Nat
 |.tmp t=>arQ t D.2 (ail D.1 t)|_=>K
def eqO(T:Tb)(t:Nat):EqK:=match T.k t with
 |2=>.sc .bool|5=>.ptr|4=>.sl|7=>.fn|_=>.flat ((T.z t).map λv=>match v with|.bool _=>.bool|.str _=>.str|_=>.int)
def arR:BinOp->Bool
 |.neq=>Y|_=>X
def arS(H:Hn)(d t:Nat)(op:BinOp):Nat->eu
 |1|3|8=>.bin op|_=>if mem d H.m then .aaB (arR op) else .eqv (eqO T t) (arR op)
def awM(H:Hn)(d t:Nat):BinOp->eu
 |.eql=>arS T H d t .eql (T.k t)|.neq=>arS T H d t .neq (T.k t)|op=>.bin op
def cvA(b:Nat):Nat->eu
 |4=>.aaC|3=>.move|_=>.conv (match T.k b with|8=>.u8|_=>.i64)
def slA(H:Hn)(d t:Nat)(l h m:Bool):Nat->eu
 |3=>.slice Y l h m 0|_=>if mem d H.m then .wC (T.s (T.e t)) else .slice X l h m (T.s (T.e t))
def ldA(H:Hn)(d t:Nat):Option Nat->eu
 |some j=>.yV j (ail T.ag t) (T.s t) (mem d H.t)|none=>.load (ail T.ag t) (T.s t) (mem d H.t)
def stA(t:Nat):Option Nat->eu
 |some j=>.yz j (T.s t)|none=>.store (T.s t)
def alA(t:Nat):Option Nat->eu
 |some j=>.yA j (T.z t)|none=>.alloc (T.z t)
def bxA(t:Nat):Option Nat->eu
 |some j=>.LP j (T.s t)|none=>.box (T.s t)
def fnA:Fn->Nat
 |.func g=>g|_=>0
def apA(H:Hn)(d e:Nat):Nat->eu
 |1=>.xK (T.s e) (Wc T.bs e) (T.z e)|_=>if mem d H.m then .j8 (T.s e) (Wc T.bs e) else .append (T.s e) (Wc T.bs e)
def lnA:Nat->LK
 |3=>.str|4=>.sl|_=>.mp
def blA(H:Hn)(d:Nat)(t:List Nat):Builtin->eu
 |.len=>.len (lnA (T.k (t.headD 0)))|.cap=>.afK|.min=>.Gu X|.max=>.Gu Y|.append=>apA T H d (T.e (t.headD 0)) (T.k ((t.drop 1).headD 0))|_=>.copy (T.s (T.e (t.headD 0)))
def clA(H:Hn)(d:Nat)(t:List Nat):Callee->eu
 |.value (.func g)=>.call g|.builtin b=>blA T H d t b|_=>.xL
def opA(H:Hn)(D:Dv)(d:Nat):Op->eu
 |.move _=>.move|.assign _=>.move|.pick _ _ _=>.pick|.binOp op t _ _ _=>awM T H d t op|.unOp op _ _=>.un op|.convert a b _=>cvA T b (T.k a)|.nilCheck _=>.nilCheck|.extract _ i=>.extract i|.field t _ f=>.field (Wc (T.fl t) (3*f)) (Wc (T.fl t) (3*f+1)) (ail T.ag (Wc (T.fl t) (3*f+2)))|.build t ps=>.build (T.z t) (ps.toList.map λq=>(Wc (T.fl t) (3*q.1),Wc (T.fl t) (3*q.1+1)))|.buildSlice t n ps=>if mem d H.m then .Ts (T.s (T.e t)) n (T.z (T.e t)) (ps.toList.map (·.1)) else .lit (T.s (T.e t)) n (T.z (T.e t)) (ps.toList.map (·.1))
 |.fieldAddr t _ f=>.fieldAddr (Wc T.fo (12*Wc T.ix t+f))|.indexAddr t _ _=>.indexAddr (T.s (T.e t))|.index _ _ _=>.index|.slice t _ l h m=>slA T H d t l.isSome h.isSome m.isSome (T.k t)|.load t a=>ldA T H d t (abW D a)|.store t a _=>stA T t (abW D a)|.alloc t=>alA T t (idx d H.b 0)|.box t _=>bxA T t (idx d H.b 0)|.makeSlice t _ _=>if mem d H.r then .EI (T.s (T.e t)) (Wc T.bs (T.e t)) (T.z (T.e t)) else .zN (T.s (T.e t)) (Wc T.bs (T.e t)) (T.z (T.e t)) (mem d H.m)
 |.makeMap _ _=>.makeMap|.mapUpdate _ _ _ _=>.mapUpdate .int|.insert _ _ _ _=>.mapUpdate .int|.lookup _ _ _ ok=>.lookup .int .jx ok|.makeFunc f a _=>.makeFunc (fnA f) a.size|.call c=>clA T H d c.argTypes.toList c.callee|_=>.wC 0
def Wd(t:Nat):Nat:=1 <<< t
def sub(a b:Nat):Nat:=a ^^^ (a &&& b)
def tmps:List Operand->Nat
 |[]=>0|.tmp t::l=>Wd t ||| tmps l
 |_::l=>tmps l
def awN(o:Oper):Nat:=match o.dst with|some d=>Wd d|none=>0
def gOf(dZ:List Oper)(o:Oper):Option (Nat×Bool):=match o.guard with
 |some (k,b)=>match dZ[k]? with|some q=>Z (dst q,b)|none=>K
 |none=>K
def gB:Option (Nat×Bool)->Nat
 |some (t,_)=>Wd t|none=>0
def abX:List Operand->Nat×Nat->Nat×Nat
 |[],s=>s|.tmp t::l,(a,b)=>abX l (a ||| Wd t,b ||| (a &&& Wd t))|_::l,s=>abX l s
def arT(dZ:List Oper):List Oper->Nat×Nat->Nat×Nat
 |[],s=>s|o::l,s=>arT dZ l (let (a,b):=abX (arP o.op) s;let g:=gB (gOf dZ o);(a ||| g,b ||| (a &&& g)))
structure Rg where
 l:Nat
 r:Nat
 w:Nat
 a:Nat
 k:Nat
 c:Nat
 o:List eN
def abY(m:Nat):List Operand->List Src
 |[]=>[]
 |.tmp t::l=>.tmp t (ail m t && !Nat.testBit (tmps l) t)::abY m l|.const v::l=>.const (MY v)::abY m l|.func f::l=>.const (.fn f [] [])::abY m l|_::l=>abY m l
def rgS(H:Hn)(D:Dv)(iY:Nat)(h:Bool)(out S:Nat)(dZ:List Oper)(o:Oper)(s:Rg):Rg:=
 let d:=awN o
 let x:=arP o.op
 let u:=tmps x
 let g:=gOf dZ o
 let U:=u ||| gB g
 let l:=sub s.l d
 let m:=(if h then sub (sub iY S) (sub out s.w) else sub iY l) &&& u
 ⟨l ||| U,s.r ||| U,s.w ||| d,s.a ||| sub d (s.r ||| U),(match g with|none=>s.k ||| m|_=>s.k),s.c ||| U ||| d,⟨o.dst,opA T H D (dst o) o.op,abY m x,g⟩::s.o⟩
def rgL(H:Hn)(D:Dv)(iY:Nat)(g:Bool)(out S:Nat)(dZ:List Oper):List Oper->Rg
 |[]=>⟨out,0,0,0,0,0,[]⟩
 |o::l=>rgS T H D iY g out S dZ o (rgL H D iY g out S dZ l)
def alW:Nat->Nat->Nat->List Nat->List Nat
 |0,n,b,l=>if af5 n 0 then l else b::l
 |k+1,n,b,l=>if af5 n 0 then l else alW k (n &&& ((1 <<< (1 <<< k))-1)) b (alW k (n >>> (1 <<< k)) (b+(1 <<< k)) l)
def Es(n:Nat):List Nat:=alW 9 n 0 []
def opB:Operand->Nat
 |.tmp t=>Wd t|_=>0
def msk:List Nat->Nat
 |[]=>0|t::l=>Wd t ||| msk l
def lkX(k:Nat)(x:List (Nat×Nat)):Nat:=(look k x).getD 0
def Kw:Code->Nat
 |.seq a b=>Kw a+Kw b|.cond _ a b=>Kw a+Kw b|.block _ b|.scope b=>Kw b|.loop _=>1|_=>0
def Kx:Code->List Code
 |.seq a b=>Kx a++Kx b|.cond _ a b=>Kx a++Kx b|.block _ b|.scope b=>Kx b|.loop b=>Kx b++[b]|_=>[]
def ann(H:Hn)(D:Dv)(iY R:Nat)(j:List (aW×List Nat)):Code->Nat->Nat->List (Nat×Nat)->Nat×aW
 |.ret,_,_,_=>(R,.ret)
 |.exit k,_,_,x=>(lkX k x,.exit k)
 |.seq a b,i,n,x=>match ann H D iY R j b (i+Kw a) n x with
  |(m,q)=>match ann H D iY R j a i m x with
   |(l,p)=>(l,.seq p q)
 |.cond c a b,i,n,x=>match ann H D iY R j a i n x with
  |(l,p)=>match ann H D iY R j b (i+Kw a) n x with
   |(m,q)=>((l ||| m) ||| opB c,.cond (match c with|.tmp t=>.tmp t (!Nat.testBit (l ||| m) t)|.const v=>.const (MY v)|_=>.const .aF) (Es (sub m l)) p (Es (sub l m)) q)
 |.block k b,i,n,x=>match ann H D iY R j b i n ((k,n)::x) with
  |(l,p)=>(l,.block k p)
 |.scope b,i,n,x=>ann H D iY R j b i n x|.loop _,i,_,_=>match j.getD i (.skip,[]) with
  |(c,h)=>(msk h,.loop c)
 |.region k dZ g,_,n,_=>match dZ.toList with
  |J=>match rgL T H D iY g n (if g then (arT J J (0,0)).2 else 0) J J with
   |r=>(r.l,let c:=aW.region r.o (if g then Z ((look k H.p).getD []) else K) (Es (sub (sub r.c n) (sub r.k r.a)));match look k H.z with|some z=>.seq z c|none=>c)
 |_,_,n,_=>(n,.skip)
def all:Code->List Oper
 |.seq a b=>all a++all b|.cond _ a b=>all a++all b|.block _ b|.scope b|.loop b=>all b|.region _ dZ _=>dZ.toList|_=>[]
def alX(d:Nat)(D:Dv):Option Nat->Dv
 |some j=>(D.1 ||| Wd d,(d,j)::D.2)
 |none=>D
def aha(H:Hn)(D:Dv)(d:Nat):Op->Dv
 |.alloc _=>alX d D (idx d H.b 0)|.box _ _=>alX d D (idx d H.b 0)|.fieldAddr _ a _=>alX d D (abW D a)|_=>D
def abZ(H:Hn):List Oper->Dv->Dv
 |[],D=>D|o::l,D=>abZ H l (aha H D (dst o) o.op)
def arU(t:Nat):Bool->Nat
 |true=>Wd t|false=>0
def arV:List Oper->Nat
 |[]=>0|o::l=>arU (dst o) (ail T.ow o.type) ||| arV l
def arW:List Nat->Nat->Nat
 |[],_=>0|t::l,k=>arU k (ail T.ow t) ||| arW l (k+1)
def y9:List ResultVar->Nat
 |[]=>0|.tmp t::l=>Wd t ||| y9 l
 |.cell t _::l=>Wd t ||| y9 l
def pre(H:Hn)(f:Func)(c:Code):Dv×Nat:=
 match all c with
 |J=>match abZ H J (0,[]) with
  |D=>(D,sub (arV T J ||| arW T f.params.toList 0 ||| ((Wd f.nfree-1) <<< f.params.size)) D.1)
def ot(H:Hn)(f:Func)(k:Nat)(h:List Nat)(x:List (Nat×List Nat))(g:List (aW×List Nat)):aW:=
 match f.body.getD .skip with
 |c=>match pre T H f c with
  |(D,iY)=>(ann T H D iY (y9 f.results.toList) g ((Kx c).getD k .skip) 0 (msk h) (x.map λq=>(q.1,msk q.2))).2
def eZ(m:Ax.Mode)(i:Nat)(H:Hn)(f:Func)(x:List (aW×List Nat)):aQ:=
 match f.body.getD .skip with
 |c=>match pre T H f c with
  |(D,iY)=>match ann T H D iY (y9 f.results.toList) x c 0 (y9 f.results.toList) [] with
   |(l,p)=>⟨i,m,f.params.size+f.nfree,Q H.b,Es (sub (Wd (f.params.size+f.nfree)-1) l),f.results.toList.map λr=>match r with
    |.tmp t=>.tmp t (ail iY t)|.cell t y=>match idx t H.b 0 with
     |some j=>.box t j (T.s y) (ail T.ag y)|none=>.cell t (T.s y) (ail T.ag y),p⟩
def kk{g:Type}{c:g}{p:g->Prop}(_:p c:=by conv=>lhs;cbv):g:=c
variable{g:Type}
@[simp]theorem aAr{c:g}{p:g->Prop}(h:p c): @kk g c p h=c:=rfl
def tf{g:Type}{c:aW->g}{p:(aW->g)->Prop}(x:aW)(_:p c:=by funext _;conv=>lhs;cbv):g:=c x
@[simp]theorem awO{c:aW->g}{p:(aW->g)->Prop}(x:aW)(h:p c): @tf g c p x h=c x:=rfl
def kf2{g:Type}{c:aW->aW->g}{p:(aW->aW->g)->Prop}(x m:aW)(_:p c:=by funext _ _;conv=>lhs;cbv):g:=c x m
@[simp]theorem awP{c:aW->aW->g}{p:(aW->aW->g)->Prop}(x m:aW)(h:p c): @kf2 g c p x m h=c x m:=rfl
def kf3{g:Type}{c:aW->aW->aW->g}{p:(aW->aW->aW->g)->Prop}(x m h:aW)(_:p c:=by funext _ _ _;conv=>lhs;cbv):g:=c x m h
@[simp]theorem awQ{c:aW->aW->aW->g}{p:(aW->aW->aW->g)->Prop}(x m j:aW)(h:p c): @kf3 g c p x m j h=c x m j:=rfl
def kf4{g:Type}{c:aW->aW->aW->aW->g}{p:(aW->aW->aW->aW->g)->Prop}(x m h j:aW)(_:p c:=by funext _ _ _ _;conv=>lhs;cbv):g:=c x m h j
@[simp]theorem awR{c:aW->aW->aW->aW->g}{p:(aW->aW->aW->aW->g)->Prop}(x m j k:aW)(h:p c): @kf4 g c p x m j k h=c x m j k:=rfl
def kf5{g:Type}{c:aW->aW->aW->aW->aW->g}{p:(aW->aW->aW->aW->aW->g)->Prop}(x m h j k:aW)(_:p c:=by funext _ _ _ _ _;conv=>lhs;cbv):g:=c x m h j k
@[simp]theorem awS{c:aW->aW->aW->aW->aW->g}{p:(aW->aW->aW->aW->aW->g)->Prop}(x m j k l:aW)(h:p c): @kf5 g c p x m j k l h=c x m j k l:=rfl
def kf6{g:Type}{c:aW->aW->aW->aW->aW->aW->g}{p:(aW->aW->aW->aW->aW->aW->g)->Prop}(x m h j k l:aW)(_:p c:=by funext _ _ _ _ _ _;conv=>lhs;cbv):g:=c x m h j k l
@[simp]theorem awT{c:aW->aW->aW->aW->aW->aW->g}{p:(aW->aW->aW->aW->aW->aW->g)->Prop}(x m j k l n:aW)(h:p c): @kf6 g c p x m j k l n h=c x m j k l n:=rfl
end An
namespace An
open Ax Go
variable (T:Tb)
def cut:Code->List Bool->Code
 |.seq _ b,Y::w=>cut b w|.seq a _,X::w=>cut a w|.seq a b,[]=>.seq a b|.cond _ _ b,w=>cut b w|.block _ b,w=>cut b w|c,_=>c
def ab0(H:Hn)(D:Dv)(iY R:Nat)(y:Nat×aW):Code->List Bool->Nat->List (Nat×Nat)->Nat×aW
 |.seq a b,Y::w,n,x=>match ab0 H D iY R y b w n x with
  |(m,q)=>match ann T H D iY R [] a 0 m x with
   |(l,p)=>(l,.seq p q)
 |.seq a b,X::w,n,x=>match ann T H D iY R [] b 0 n x with
  |(m,q)=>match ab0 H D iY R y a w m x with
   |(l,p)=>(l,.seq p q)
 |.seq _ _,[],_,_=>y|.cond c a b,w,n,x=>match ann T H D iY R [] a 0 n x with
  |(l,p)=>match ab0 H D iY R y b w n x with
   |(m,q)=>((l ||| m) ||| opB c,.cond (match c with|.tmp t=>.tmp t (!Nat.testBit (l ||| m) t)|.const v=>.const (MY v)|_=>.const .aF) (Es (sub m l)) p (Es (sub l m)) q)
 |.block k b,w,n,x=>match ab0 H D iY R y b w n ((k,n)::x) with
  |(l,p)=>(l,.block k p)
 |_,_,_,_=>y
def awU(H:Hn)(f:Func)(w:List Bool)(n:Nat)(x:List (Nat×Nat)):Nat×aW:=
 match f.body.getD .skip with
 |c=>match pre T H f c with
  |(D,iY)=>ann T H D iY (y9 f.results.toList) [] (cut c w) 0 n x
def fSq(m:Ax.Mode)(i:Nat)(H:Hn)(f:Func)(w:List Bool)(y:Nat×aW):aQ:=
 match f.body.getD .skip with
 |c=>match pre T H f c with
  |(D,iY)=>match ab0 T H D iY (y9 f.results.toList) y c w (y9 f.results.toList) [] with
   |(l,p)=>⟨i,m,f.params.size+f.nfree,Q H.b,Es (sub (Wd (f.params.size+f.nfree)-1) l),f.results.toList.map λr=>match r with
    |.tmp t=>.tmp t (ail iY t)|_=>.tmp 0 X,p⟩
end An
namespace aM
open Ax An Go Go.Proofs
def tb:Tb:=⟨0x400e200341462840000ee690802d8331bc1fee03066fcf0e0e051f19fd00001,0x300f800300060000000cc600000d9b31bf0d8c7b1e0d8f0c0d80d818c0c6180,0x11578817000007477777775777007077777070577007770707777077577777777777777700470045700745707777077777777705007007700700770057700500000077700040044700477000070077700005704700400457000077570047675500400777707000100444777007740044441000555001333008821170,0x10b0b01010101010101010000000404010101010101010101010101011313010101010101010101010101010b0b01010101010101010101010101010101010101010101010101010101010909010103030101010e0e010101010101010101010101010101010101010101040401010101010404010202010111110101010d0d010606030304040101010105050104040101010707010101040402020103030101010404050501010101010d0d01010101010104040606010101010f0f0101010101010707010303010101010101010202010303010101010101040401010105050101010101010101010101020201010101040401010101010101,0x83030040408080101040800000028280818080808080808080808080808080800080808080800080008080878780808080008000808080800080808080808080808080808080808080808888818082828180808d8d808180808000808080800080808080808080808000830300818180808202008282808081818080808c8c808484838382828080808006868185050181808686818080830301818083030080808282838380808001808f8f8181818180808303040400808080808081808080808085858181818080808080008001010084848181818080808303008081868681818181804100808080808181808101010181801010108080800,0xa30000000000000000000000000000000000000000000000000000000000000000000000000000000000000000000000000000000000000000000000ce0000000400000000000900000000000000000000000000000000000000000000000000000000000000000000000000000000000000000000000000000000007700007975000000af00000000000000000000000000000000000000580000008f00001c000000000000000000000000410000000000000045000000000000000000000000000067625d000000000000000300008837348500000000000000000000000000000000000000000000,fun|140=>0x4a0100|96=>0x30101090100|43=>0x30101290100|171=>0x2b0201a90100|136=>0x340301030100|117=>0x340301090100|133=>0x690101090100|111=>0x6d01046c0400|52=>0x30102030101030100|93=>0x30102250101090100|119=>0x30102650101690100|98=>0x30103600201090100|40=>0x260102250101240100|124=>0x3707060301051b0500|88=>0x30103030102090101030100|32|71=>0x301031c0102030101030100|108=>0x301036a0102690101160100|86=>0x2b0203030102030101510100|121=>0x340303040102690101090100|221=>0x45060d3707060301051b0500|27=>0x30104190103180102170101160100|166=>0x2b020c69010b790605a301046c0400|55=>0x350106340303040102170101030100|103=>0x30106650105600203040102250101090100|69=>0x1c0105030104030103030102030101030100|175=>0x30108030107650106650105ad0104600202090101030100|206=>0x3010a340307030106ad0105600203090102030101030100|63=>0x20040b3b010a3d01091c01081c01073901061c01051b0500|129=>0x3011004010f1c010e03010d1c010c4c010b2004070301061c01056f0500|_=>0,fun|3=>0x1|4=>0x2|9=>0x3|28|140|163=>0x4|65=>0x5|43=>0x11|96=>0x13|133=>0x43|52=>0x111|171=>0x114|93=>0x143|119=>0x144|40=>0x444|136=>0x1111|117=>0x1113|88=>0x1131|98=>0x1133|32|71=>0x1411|108=>0x1444|86=>0x11114|27=>0x14444|111=>0x41444|121=>0x111243|69=>0x411111|103=>0x1413243|55=>0x4111241|175=>0x114441331|206=>0x11111413311|124=>0x4111241114444|166=>0x11411124341444|63=>0x141164445414444|129=>0x12414414111441444|221=>0x4111114111241114444|_=>0,0x1e00000000000000000000000000001d0000000000000000000000000000000000000000000000000000000000001c0000001b000000001a00000000000000000000000000000000000000000000000000190000001800001700000016000000001500001400130012000000000011000010000000000f000000000e000d00000c000000000b000a0000000000000000000900000000080007000000000006000000000000000500000400000000000000000300000200000000000000010000000000000000000000000000000000000000000000000000000000000000,0xd060500000000000a07060503020100000000000807060504020100000000000000000000000100000000000000000c0b0504000000000000000000000000000000000000000000000001000000000000000000000001000000100f0e0d0c0b07060500000000000000000000060500000000000000000003020100000000000000000000020100000000000000000000000100000000000000000000000400000000000000000003020100000000000000060503020100000000000000000000030100000000000000000000000100000000000000000000020100000000000000000003020100000000000000000003020100000000000000000000000000000000000000000003020100000000000000050403020100000000000b0a090807060500000000000000000603020100000000000000000000020100000000000000000000000100000000000000000000020100000000000000000003020100000000000000000403020100⟩
def ab1:aW:=kk (p:=Eq (ot tb {b:=[1,2,3,7,10,12,14,17,18,19],t:=[76,181]} Tryz.f86 0 [1,2,3,4,5,6] [(2,[1,2,3,4,5])] []))
def ab2:aW:=tf (p:=Eq (λx=>ot tb {b:=[1,2,3,7,10,12,14,17,18,19],t:=[76,181]} Tryz.f86 1 [1,2,3,4,5] [(0,[1,2,3,4])] [(x,[1,2,3,4,5,6])])) ab1
def ab3:aW:=kk (p:=Eq (ot tb {b:=[1,2,3,7,10,12,14,17,18,19],t:=[76,181]} Tryz.f86 2 [1,2,3,4,7,8] [(4,[1,2,3,4,7])] []))
def ab4:aW:=kk (p:=Eq (ot tb {b:=[1,2,3,7,10,12,14,17,18,19],t:=[76,181]} Tryz.f86 3 [1,2,3,4,7,13,14,15] [(8,[1,2,3,4,7,13,14])] []))
def ab5:aW:=tf (p:=Eq (λx=>ot tb {b:=[1,2,3,7,10,12,14,17,18,19],t:=[76,181]} Tryz.f86 4 [1,2,3,4,7,13] [(6,[2,3,7])] [(x,[1,2,3,4,7,13,14,15])])) ab4
def s86:aQ:=kf3 (p:=Eq (λx y z=>eZ tb .pure 86 {b:=[1,2,3,7,10,12,14,17,18,19],t:=[76,181]} Tryz.f86 [(x,[1,2,3,4,5]),(y,[1,2,3,4,7,8]),(z,[1,2,3,4,7,13])])) ab2 ab3 ab5
def We:aW:=kk (p:=Eq (ot tb {b:=[5,8]} Tryz.f132 0 [0,1,5,6,7,8,9,10] [(2,[0,1,5,6,7,8,9])] []))
def Wf:aW:=tf (p:=Eq (λx=>ot tb {b:=[5,8]} Tryz.f132 1 [0,1,5,6,7] [(0,[5,6])] [(x,[0,1,5,6,7,8,9,10])])) We
def alY:aQ:=tf (p:=Eq (λx=>eZ tb .pure 132 {b:=[5,8]} Tryz.f132 [(x,[0,1,5,6,7])])) Wf
def Wg:aW:=kk (p:=Eq (ot tb {b:=[5]} Tryz.f154 0 [0,1,5,7] [(0,[0,1,5])] []))
def Wh:aW:=kk (p:=Eq (ot tb {b:=[5]} Tryz.f154 1 [0,1,5,8] [(2,[5])] []))
def alZ:aQ:=kf2 (p:=Eq (λx y=>eZ tb .nC 154 {b:=[5]} Tryz.f154 [(x,[0,1,5,7]),(y,[0,1,5,8])])) Wg Wh
def ab6:aW:=kk (p:=Eq (ot tb {b:=[1]} Tryz.f36 0 [1,3] [(0,[1])] []))
def ab7:aW:=kk (p:=Eq (ot tb {b:=[1]} Tryz.f36 1 [1,4] [(2,[])] []))
def s36:aQ:=kf2 (p:=Eq (λx y=>eZ tb .pure 36 {b:=[1]} Tryz.f36 [(x,[1,3]),(y,[1,4])])) ab6 ab7
def Wi:aW:=kk (p:=Eq (ot tb {b:=[4,7,9,12,14,15]} Tryz.f168 0 [2,4,16,17] [(1,[])] []))
def o6:aQ:=tf (p:=Eq (λx=>eZ tb .nC 168 {b:=[4,7,9,12,14,15]} Tryz.f168 [(x,[2,4,16,17])])) Wi
def ab8:aW:=kk (p:=Eq (ot tb {b:=[2,3],t:=[33]} Tryz.f30 0 [0,2,3] [(0,[0,2,3])] []))
def s30:aQ:=tf (p:=Eq (λx=>eZ tb .nC 30 {b:=[2,3],t:=[33]} Tryz.f30 [(x,[0,2,3])])) ab8
def Wj:aW:=kk (p:=Eq (ot tb {b:=[3,4,5,6]} Tryz.f180 0 [0,3,4] [(0,[3,4])] []))
def al2:aQ:=tf (p:=Eq (λx=>eZ tb .nC 180 {b:=[3,4,5,6]} Tryz.f180 [(x,[0,3,4])])) Wj
def C1:aW:=kk (p:=Eq (ot tb {b:=[3]} Tryz.f165 0 [0,3,5,6,7] [(0,[])] []))
def Rm:aQ:=tf (p:=Eq (λx=>eZ tb .pure 165 {b:=[3]} Tryz.f165 [(x,[0,3,5,6,7])])) C1
def ab9:aW:=kk (p:=Eq (ot tb {b:=[1,4]} Tryz.f48 0 [1,6,7,8] [(0,[])] []))
def s48:aQ:=tf (p:=Eq (λx=>eZ tb .pure 48 {b:=[1,4]} Tryz.f48 [(x,[1,6,7,8])])) ab9
def acd:aW:=kk (p:=Eq (ot tb {b:=[2]} Tryz.f42 0 [1,2,5] [(0,[])] []))
def s42:aQ:=tf (p:=Eq (λx=>eZ tb .pure 42 {b:=[2]} Tryz.f42 [(x,[1,2,5])])) acd
def Wk:aW:=kk (p:=Eq (ot tb {} Tryz.f126 0 [0,4,5] [(0,[4])] []))
def al3:aQ:=tf (p:=Eq (λx=>eZ tb .pure 126 {} Tryz.f126 [(x,[0,4,5])])) Wk
def Wl:aW:=kk (p:=Eq (ot tb {} Tryz.f124 0 [0,3] [(0,[])] []))
def Ud:aQ:=tf (p:=Eq (λx=>eZ tb .pure 124 {} Tryz.f124 [(x,[0,3])])) Wl
def ace:aW:=kk (p:=Eq (ot tb {} Tryz.f94 0 [0,1,4] [(0,[])] []))
def s94:aQ:=tf (p:=Eq (λx=>eZ tb .Bw 94 {} Tryz.f94 [(x,[0,1,4])])) ace
def acf:aQ:=kk (p:=Eq (eZ tb .Bw 146 {m:=[11,12,13],p:=[(1,[(4,6),(4,7)])]} Tryz.f146 []))
def s75:aQ:=kk (p:=Eq (eZ tb .Bw 75 {m:=[13,14,15],p:=[(1,[(4,8),(4,9)])]} Tryz.f75 []))
def yI:aQ:=kk (p:=Eq (eZ tb .Bw 137 {b:=[3],p:=[(26,[(3,8),(4,8)])]} Tryz.f137 []))
def s59:aQ:=kk (p:=Eq (eZ tb .nC 59 {b:=[3],p:=[(1,[(7,3),(7,11)])]} Tryz.f59 []))
def Ro:aQ:=kk (p:=Eq (eZ tb .nC 149 {b:=[3,4,5,6]} Tryz.f149 []))
def Oo:aQ:=kk (p:=Eq (eZ tb .pure 100 {b:=[3,4,6]} Tryz.f100 []))
def acg:aQ:=kk (p:=Eq (eZ tb .nC 164 {b:=[2,3,5]} Tryz.f164 []))
def YJ:aQ:=kk (p:=Eq (eZ tb .pure 141 {b:=[3,5]} Tryz.f141 []))
def ahc:aQ:=kk (p:=Eq (eZ tb .pure 177 {b:=[3,7]} Tryz.f177 []))
def wT:aQ:=kk (p:=Eq (eZ tb .nC 181 {b:=[2,3]} Tryz.f181 []))
def al4:aQ:=kk (p:=Eq (eZ tb .pure 131 {b:=[2]} Tryz.f131 []))
def wU:aQ:=kk (p:=Eq (eZ tb .pure 162 {b:=[1]} Tryz.f162 []))
def YK:aQ:=kk (p:=Eq (eZ tb .pure 178 {b:=[3]} Tryz.f178 []))
def Ue:aQ:=kk (p:=Eq (eZ tb .pure 17 {b:=[1,3]} Tryz.f17 []))
def Uf:aQ:=kk (p:=Eq (eZ tb .Bw 159 {b:=[3]} Tryz.f159 []))
def s44:aQ:=kk (p:=Eq (eZ tb .pure 44 {b:=[1]} Tryz.f44 []))
def s98:aQ:=kk (p:=Eq (eZ tb .pure 98 {b:=[0]} Tryz.f98 []))
def s51:aQ:=kk (p:=Eq (eZ tb .nC 51 {b:=[3]} Tryz.f51 []))
def s60:aQ:=kk (p:=Eq (eZ tb .Bw 60 {b:=[3]} Tryz.f60 []))
def s68:aQ:=kk (p:=Eq (eZ tb .nC 68 {b:=[3]} Tryz.f68 []))
def ach:aQ:=kk (p:=Eq (eZ tb .pure 111 {} Tryz.f111 []))
def aci:aQ:=kk (p:=Eq (eZ tb .pure 125 {} Tryz.f125 []))
def al6:aQ:=kk (p:=Eq (eZ tb .nC 107 {} Tryz.f107 []))
def acj:aQ:=kk (p:=Eq (eZ tb .nC 113 {} Tryz.f113 []))
def YL:aQ:=kk (p:=Eq (eZ tb .Bw 117 {} Tryz.f117 []))
def Ug:aQ:=kk (p:=Eq (eZ tb .Bw 144 {} Tryz.f144 []))
def al7:aQ:=kk (p:=Eq (eZ tb .nC 169 {} Tryz.f169 []))
def s18:aQ:=kk (p:=Eq (eZ tb .Bw 18 {} Tryz.f18 []))
def s29:aQ:=kk (p:=Eq (eZ tb .nC 29 {} Tryz.f29 []))
def s72:aQ:=kk (p:=Eq (eZ tb .nC 72 {} Tryz.f72 []))
def s93:aQ:=kk (p:=Eq (eZ tb .nC 93 {} Tryz.f93 []))
def ack:aW:=kk (p:=Eq (ot tb {b:=[1,7,10]} Tryz.f16 0 [1,3,4,5] [(2,[1,3])] []))
def acm:aW:=tf (p:=Eq (λx=>ot tb {b:=[1,7,10]} Tryz.f16 1 [1,3] [(0,[1])] [(x,[1,3,4,5])])) ack
def acn:aW:=kk (p:=Eq (ot tb {b:=[1,7,10]} Tryz.f16 2 [1,6] [(4,[1])] []))
def aco:aW:=kk (p:=Eq (ot tb {b:=[1,7,10]} Tryz.f16 3 [1,8,9] [(6,[1])] []))
def acp:aW:=kk (p:=Eq (ot tb {b:=[1,7,10]} Tryz.f16 4 [1,11,12,13] [(10,[1,11,12])] []))
def acq:aW:=tf (p:=Eq (λx=>ot tb {b:=[1,7,10]} Tryz.f16 5 [1,11] [(8,[1])] [(x,[1,11,12,13])])) acp
def s16:aQ:=kf4 (p:=Eq (λx y z u=>eZ tb .pure 16 {b:=[1,7,10]} Tryz.f16 [(x,[1,3]),(y,[1,6]),(z,[1,8,9]),(u,[1,11])])) acm acn aco acq
def vK:aW:=kk (p:=Eq (ot tb {b:=[3,4],m:=[72],p:=[(9,[(1,8),(9,8),(12,15),(100013,15),(1400013,15)])],z:=[(19,.rN 6 5)]} Tryz.f152 0 [0,3,4,6,7] [(0,[0,3,4,6])] []))
def uV:aQ:=tf (p:=Eq (λx=>eZ tb .nC 152 {b:=[3,4],m:=[72],p:=[(9,[(1,8),(9,8),(12,15),(100013,15),(1400013,15)])],z:=[(19,.rN 6 5)]} Tryz.f152 [(x,[0,3,4,6,7])])) vK
def acr:aW:=kk (p:=Eq (ot tb {b:=[1,4,6]} Tryz.f46 0 [1,8,9,10,19,20,21] [(2,[1,8,9,10])] []))
def acs:aW:=tf (p:=Eq (λx=>ot tb {b:=[1,4,6]} Tryz.f46 1 [1,8,9,10] [(0,[])] [(x,[1,8,9,10,19,20,21])])) acr
def s46:aQ:=tf (p:=Eq (λx=>eZ tb .pure 46 {b:=[1,4,6]} Tryz.f46 [(x,[1,8,9,10])])) acs
def w45:List Bool:=[Y,Y,Y,Y,Y,X,Y,Y,Y,Y,Y]
@[simp]def y45:aW:=kk (p:=Eq (awU tb {b:=[3,5,7,8,9,10,11]} Tryz.f45 w45 0 [(0,0)]).2)
def qL:aQ:=tf (p:=Eq (λz=>fSq tb .pure 45 {b:=[3,5,7,8,9,10,11]} Tryz.f45 w45 (35184372092842,z))) y45
def acu:aW:=kk (p:=Eq (ot tb {b:=[1,2,3,4,5,6],t:=[66]} Tryz.f34 0 [1,2,3,4,6,7] [(0,[2,3,6])] []))
def s34:aQ:=tf (p:=Eq (λx=>eZ tb .pure 34 {b:=[1,2,3,4,5,6],t:=[66]} Tryz.f34 [(x,[1,2,3,4,6,7])])) acu
def Wm:aW:=kk (p:=Eq (ot tb {b:=[1,3,4]} Tryz.f183 0 [1,3,4,43,44,45] [(0,[1,3,4])] []))
def Uh:aQ:=tf (p:=Eq (λx=>eZ tb .pure 183 {b:=[1,3,4]} Tryz.f183 [(x,[1,3,4,43,44,45])])) Wm
def Wn:aW:=kk (p:=Eq (ot tb {b:=[4,5,6,7]} Tryz.f148 0 [0,1,4,5] [(0,[4,5])] []))
def ahe:aQ:=tf (p:=Eq (λx=>eZ tb .nC 148 {b:=[4,5,6,7]} Tryz.f148 [(x,[0,1,4,5])])) Wn
def Wo:aW:=kk (p:=Eq (ot tb {b:=[3],m:=[121]} Tryz.f139 0 [0,3] [(1,[])] []))
def GN:aQ:=tf (p:=Eq (λx=>eZ tb .Bw 139 {b:=[3],m:=[121]} Tryz.f139 [(x,[0,3])])) Wo
def acv:aW:=kk (p:=Eq (ot tb {b:=[1,5]} Tryz.f49 0 [1,3,7,8,9] [(0,[])] []))
def s49:aQ:=tf (p:=Eq (λx=>eZ tb .pure 49 {b:=[1,5]} Tryz.f49 [(x,[1,3,7,8,9])])) acv
def Wp:aW:=kk (p:=Eq (ot tb {} Tryz.f118 0 [1,5,8,9,10] [(0,[5])] []))
def al9:aQ:=tf (p:=Eq (λx=>eZ tb .nC 118 {} Tryz.f118 [(x,[1,5,8,9,10])])) Wp
def Wq:aW:=kk (p:=Eq (ot tb {} Tryz.f122 0 [0,1,2,7] [(0,[7])] []))
def ama:aQ:=tf (p:=Eq (λx=>eZ tb .pure 122 {} Tryz.f122 [(x,[0,1,2,7])])) Wq
def Ws:aW:=kk (p:=Eq (ot tb {} Tryz.f123 0 [0,3,4] [(0,[])] []))
def amb:aQ:=tf (p:=Eq (λx=>eZ tb .pure 123 {} Tryz.f123 [(x,[0,3,4])])) Ws
def Oq:aW:=kk (p:=Eq (ot tb {} Tryz.f136 0 [0,2] [(0,[])] []))
def acw:aQ:=tf (p:=Eq (λx=>eZ tb .nC 136 {} Tryz.f136 [(x,[0,2])])) Oq
def s13:aQ:=kk (p:=Eq (eZ tb .pure 13 {b:=[3,6,7,8],r:=[33],z:=[(5,.rN 9 12),(8,.rN 9 9)]} Tryz.f13 []))
def s57:aQ:=kk (p:=Eq (eZ tb .nC 57 {b:=[3],p:=[(1,[(7,3),(7,11),(7,15)])]} Tryz.f57 []))
def s62:aQ:=kk (p:=Eq (eZ tb .Bw 62 {b:=[3],m:=[35,36],p:=[(4,[(3,8)])]} Tryz.f62 []))
def s55:aQ:=kk (p:=Eq (eZ tb .nC 55 {b:=[3],p:=[(1,[(7,3),(7,11)])]} Tryz.f55 []))
def s69:aQ:=kk (p:=Eq (eZ tb .nC 69 {b:=[3],p:=[(1,[(3,9)])]} Tryz.f69 []))
def s67:aQ:=kk (p:=Eq (eZ tb .Bw 67 {b:=[3],m:=[26]} Tryz.f67 []))
def Ky:aQ:=kk (p:=Eq (eZ tb .nC 129 {b:=[2,3,4]} Tryz.f129 []))
def YM:aQ:=kk (p:=Eq (eZ tb .pure 102 {b:=[4,7]} Tryz.f102 []))
def Bo:aQ:=kk (p:=Eq (eZ tb .pure 175 {b:=[1,3]} Tryz.f175 []))
def Bx:aQ:=kk (p:=Eq (eZ tb .pure 99 {b:=[5,6,7]} Tryz.f99 []))
def amc:aQ:=kk (p:=Eq (eZ tb .nC 187 {b:=[2,3]} Tryz.f187 []))
def amd:aQ:=kk (p:=Eq (eZ tb .pure 155 {b:=[0]} Tryz.f155 []))
def ame:aQ:=kk (p:=Eq (eZ tb .pure 171 {b:=[2]} Tryz.f171 []))
def acy:aQ:=kk (p:=Eq (eZ tb .pure 185 {b:=[3]} Tryz.f185 []))
def s96:aQ:=kk (p:=Eq (eZ tb .pure 96 {b:=[2,4]} Tryz.f96 []))
def s31:aQ:=kk (p:=Eq (eZ tb .nC 31 {b:=[2,3]} Tryz.f31 []))
def xF:aQ:=kk (p:=Eq (eZ tb .pure 95 {b:=[1]} Tryz.f95 []))
def s28:aQ:=kk (p:=Eq (eZ tb .nC 28 {b:=[5]} Tryz.f28 []))
def s53:aQ:=kk (p:=Eq (eZ tb .nC 53 {b:=[3]} Tryz.f53 []))
def s65:aQ:=kk (p:=Eq (eZ tb .nC 65 {b:=[3]} Tryz.f65 []))
def LI:aQ:=kk (p:=Eq (eZ tb .Bw 91 {b:=[3]} Tryz.f91 []))
def Ui:aQ:=kk (p:=Eq (eZ tb .pure 121 {} Tryz.f121 []))
def tg:aQ:=kk (p:=Eq (eZ tb .pure 166 {} Tryz.f166 []))
def ahf:aQ:=kk (p:=Eq (eZ tb .nC 112 {} Tryz.f112 []))
def acz:aQ:=kk (p:=Eq (eZ tb .Bw 116 {} Tryz.f116 []))
def acA:aQ:=kk (p:=Eq (eZ tb .nC 142 {} Tryz.f142 []))
def Uj:aQ:=kk (p:=Eq (eZ tb .nC 158 {} Tryz.f158 []))
def s71:aQ:=kk (p:=Eq (eZ tb .pure 71 {} Tryz.f71 []))
def s26:aQ:=kk (p:=Eq (eZ tb .nC 26 {} Tryz.f26 []))
def s41:aQ:=kk (p:=Eq (eZ tb .nC 41 {} Tryz.f41 []))
def s89:aQ:=kk (p:=Eq (eZ tb .nC 89 {} Tryz.f89 []))
def acB:aW:=kk (p:=Eq (ot tb {b:=[1,2,3,4,5,6,10,11],t:=[51,80,116,118],z:=[(28,.rN 12 12)]} Tryz.f12 0 [2,3,4,6,7] [(0,[2,3,4,6])] []))
def acC:aW:=kk (p:=Eq (ot tb {b:=[1,2,3,4,5,6,10,11],t:=[51,80,116,118],z:=[(28,.rN 12 12)]} Tryz.f12 1 [2,3,4,6,8,9,10,12,13] [(4,[2,3,4,6,8,9,10,12])] []))
def acD:aW:=tf (p:=Eq (λx=>ot tb {b:=[1,2,3,4,5,6,10,11],t:=[51,80,116,118],z:=[(28,.rN 12 12)]} Tryz.f12 2 [2,3,4,6,8,9] [(2,[2,3,6])] [(x,[2,3,4,6,8,9,10,12,13])])) acC
def s12:aQ:=kf2 (p:=Eq (λx y=>eZ tb .pure 12 {b:=[1,2,3,4,5,6,10,11],t:=[51,80,116,118],z:=[(28,.rN 12 12)]} Tryz.f12 [(x,[2,3,4,6,7]),(y,[2,3,4,6,8,9])])) acB acD
def rV:aW:=kk (p:=Eq (ot tb {b:=[3,4,5,6,8,13],t:=[75,87,230]} Tryz.f134 0 [0,3,4,5,6,7,10] [(0,[0,3,4,5,6,7])] []))
def Ot:aW:=kk (p:=Eq (ot tb {b:=[3,4,5,6,8,13],t:=[75,87,230]} Tryz.f134 1 [0,3,4,5,6,7,11,15] [(3,[0,3,4,5,6,7,11])] []))
def jt:aQ:=kf2 (p:=Eq (λx y=>eZ tb .nC 134 {b:=[3,4,5,6,8,13],t:=[75,87,230]} Tryz.f134 [(x,[0,3,4,5,6,7,10]),(y,[0,3,4,5,6,7,11,15])])) rV Ot
def acE:aW:=kk (p:=Eq (ot tb {b:=[1,2,3,4],m:=[31]} Tryz.f35 0 [2,3,5,6,7] [(2,[2,3,5,6])] []))
def acF:aW:=tf (p:=Eq (λx=>ot tb {b:=[1,2,3,4],m:=[31]} Tryz.f35 1 [2,3,5] [(0,[2])] [(x,[2,3,5,6,7])])) acE
def s35:aQ:=tf (p:=Eq (λx=>eZ tb .pure 35 {b:=[1,2,3,4],m:=[31]} Tryz.f35 [(x,[2,3,5])])) acF
def Wt:aW:=kk (p:=Eq (ot tb {} Tryz.f127 0 [0,1,5,6] [(0,[0,1])] []))
def Wu:aW:=kk (p:=Eq (ot tb {} Tryz.f127 1 [0,1,7,8] [(2,[])] []))
def amg:aQ:=kf2 (p:=Eq (λx y=>eZ tb .pure 127 {} Tryz.f127 [(x,[0,1,5,6]),(y,[0,1,7,8])])) Wt Wu
def acG:aW:=kk (p:=Eq (ot tb {} Tryz.f81 0 [0,1] [(3,[0,1])] []))
def acH:aW:=tf (p:=Eq (λx=>ot tb {} Tryz.f81 1 [0,1] [(0,[1])] [(x,[0,1])])) acG
def s81:aQ:=tf (p:=Eq (λx=>eZ tb .pure 81 {} Tryz.f81 [(x,[0,1])])) acH
def Ou:aW:=kk (p:=Eq (ot tb {b:=[2,5,7]} Tryz.f106 0 [1,2,5,70,71,72] [(0,[5])] []))
def IB:aQ:=tf (p:=Eq (λx=>eZ tb .pure 106 {b:=[2,5,7]} Tryz.f106 [(x,[1,2,5,70,71,72])])) Ou
def Wv:aW:=kk (p:=Eq (ot tb {b:=[3,4]} Tryz.f174 0 [3,4,9,10,11] [(0,[4])] []))
def amh:aQ:=tf (p:=Eq (λx=>eZ tb .pure 174 {b:=[3,4]} Tryz.f174 [(x,[3,4,9,10,11])])) Wv
def Ww:aW:=kk (p:=Eq (ot tb {b:=[3,4]} Tryz.f133 0 [0,3,4,6] [(1,[4])] []))
def Uk:aQ:=tf (p:=Eq (λx=>eZ tb .pure 133 {b:=[3,4]} Tryz.f133 [(x,[0,3,4,6])])) Ww
def acI:aW:=kk (p:=Eq (ot tb {b:=[2,6]} Tryz.f47 0 [2,7,8,9] [(0,[])] []))
def s47:aQ:=tf (p:=Eq (λx=>eZ tb .pure 47 {b:=[2,6]} Tryz.f47 [(x,[2,7,8,9])])) acI
def acJ:aW:=kk (p:=Eq (ot tb {b:=[1]} Tryz.f87 0 [1,3,4] [(0,[3])] []))
def s87:aQ:=tf (p:=Eq (λx=>eZ tb .pure 87 {b:=[1]} Tryz.f87 [(x,[1,3,4])])) acJ
def Wx:aW:=kk (p:=Eq (ot tb {} Tryz.f161 0 [0,1,5,6] [(0,[5])] []))
def ami:aQ:=tf (p:=Eq (λx=>eZ tb .Bw 161 {} Tryz.f161 [(x,[0,1,5,6])])) Wx
def Wy:aW:=kk (p:=Eq (ot tb {} Tryz.f188 0 [0,3] [(0,[0,3])] []))
def ahg:aQ:=tf (p:=Eq (λx=>eZ tb .nC 188 {} Tryz.f188 [(x,[0,3])])) Wy
def acK:aW:=kk (p:=Eq (ot tb {} Tryz.f38 0 [0,1,4] [(0,[])] []))
def s38:aQ:=tf (p:=Eq (λx=>eZ tb .Bw 38 {} Tryz.f38 [(x,[0,1,4])])) acK
def s40:aQ:=kk (p:=Eq (eZ tb .Bw 40 {m:=[22],p:=[(5,[(7,2),(9,2),(11,2),(12,2),(14,2)])]} Tryz.f40 []))
def s58:aQ:=kk (p:=Eq (eZ tb .nC 58 {b:=[3],p:=[(1,[(4,8),(4,12),(4,16)])]} Tryz.f58 []))
def ahh:aQ:=kk (p:=Eq (eZ tb .nC 157 {b:=[3],t:=[10],p:=[(1,[(9,5)])]} Tryz.f157 []))
def s56:aQ:=kk (p:=Eq (eZ tb .nC 56 {b:=[3],p:=[(1,[(4,8),(4,14)])]} Tryz.f56 []))
def s5:aQ:=kk (p:=Eq (eZ tb .pure 5 {b:=[7,8,9,10,11,12]} Tryz.f5 []))
def s92:aQ:=kk (p:=Eq (eZ tb .Bw 92 {b:=[3],m:=[13]} Tryz.f92 []))
def Ul:aQ:=kk (p:=Eq (eZ tb .nC 153 {b:=[3,4,5]} Tryz.f153 []))
def Ov:aQ:=kk (p:=Eq (eZ tb .pure 104 {b:=[2,3]} Tryz.f104 []))
def Ow:aQ:=kk (p:=Eq (eZ tb .pure 176 {b:=[4,9]} Tryz.f176 []))
def uW:aQ:=kk (p:=Eq (eZ tb .nC 167 {b:=[5,6]} Tryz.f167 []))
def amj:aQ:=kk (p:=Eq (eZ tb .pure 105 {b:=[1]} Tryz.f105 []))
def amk:aQ:=kk (p:=Eq (eZ tb .pure 156 {b:=[0]} Tryz.f156 []))
def aml:aQ:=kk (p:=Eq (eZ tb .pure 172 {b:=[2]} Tryz.f172 []))
def s10:aQ:=kk (p:=Eq (eZ tb .pure 10 {b:=[1,2]} Tryz.f10 []))
def th:aQ:=kk (p:=Eq (eZ tb .nC 150 {b:=[3]} Tryz.f150 []))
def s21:aQ:=kk (p:=Eq (eZ tb .Bw 21 {m:=[18]} Tryz.f21 []))
def s97:aQ:=kk (p:=Eq (eZ tb .pure 97 {b:=[0]} Tryz.f97 []))
def s50:aQ:=kk (p:=Eq (eZ tb .nC 50 {b:=[3]} Tryz.f50 []))
def s54:aQ:=kk (p:=Eq (eZ tb .nC 54 {b:=[3]} Tryz.f54 []))
def s66:aQ:=kk (p:=Eq (eZ tb .nC 66 {b:=[3]} Tryz.f66 []))
def zk:aQ:=kk (p:=Eq (eZ tb .pure 110 {} Tryz.f110 []))
def amm:aQ:=kk (p:=Eq (eZ tb .pure 120 {} Tryz.f120 []))
def amn:aQ:=kk (p:=Eq (eZ tb .pure 147 {} Tryz.f147 []))
def amo:aQ:=kk (p:=Eq (eZ tb .Bw 109 {} Tryz.f109 []))
def ahi:aQ:=kk (p:=Eq (eZ tb .nC 115 {} Tryz.f115 []))
def ar4:aQ:=kk (p:=Eq (eZ tb .nC 130 {} Tryz.f130 []))
def ahj:aQ:=kk (p:=Eq (eZ tb .nC 151 {} Tryz.f151 []))
def Qe:aQ:=kk (p:=Eq (eZ tb .pure 70 {} Tryz.f70 []))
def s22:aQ:=kk (p:=Eq (eZ tb .Bw 22 {} Tryz.f22 []))
def s39:aQ:=kk (p:=Eq (eZ tb .Bw 39 {} Tryz.f39 []))
def s74:aQ:=kk (p:=Eq (eZ tb .nC 74 {} Tryz.f74 []))
def aj0:aW:=kk (p:=Eq (ot tb {b:=[3,6,10],m:=[54,55],t:=[35],r:=[21],p:=[(7,[(7,4),(8,4)]),(3,[(5,1),(5,7)]),(9,[(4,8),(4,9)])],z:=[(4,.rN 7 8),(18,.rN 7 13)]} Tryz.f8 0 [2,3,6,7,27,28] [(0,[2,3,6,7])] []))
def acL:aW:=kk (p:=Eq (ot tb {b:=[3,6,10],m:=[54,55],t:=[35],r:=[21],p:=[(7,[(7,4),(8,4)]),(3,[(5,1),(5,7)]),(9,[(4,8),(4,9)])],z:=[(4,.rN 7 8),(18,.rN 7 13)]} Tryz.f8 1 [2,3,6,7] [(2,[6,7])] []))
def s8:aQ:=kf2 (p:=Eq (λx y=>eZ tb .pure 8 {b:=[3,6,10],m:=[54,55],t:=[35],r:=[21],p:=[(7,[(7,4),(8,4)]),(3,[(5,1),(5,7)]),(9,[(4,8),(4,9)])],z:=[(4,.rN 7 8),(18,.rN 7 13)]} Tryz.f8 [(x,[2,3,6,7,27,28]),(y,[2,3,6,7])])) aj0 acL
def Um:aW:=kk (p:=Eq (ot tb {b:=[5],m:=[77,92]} Tryz.f90 0 [0,1,4,5,6] [(2,[0,1,4,5])] []))
def Un:aW:=kk (p:=Eq (ot tb {b:=[5],m:=[77,92]} Tryz.f90 1 [0,1,4,9,10] [(5,[0,1,4])] []))
def uX:aW:=kf2 (p:=Eq (λx y=>ot tb {b:=[5],m:=[77,92]} Tryz.f90 2 [0,1,4] [(0,[])] [(x,[0,1,4,5,6]),(y,[0,1,4,9,10])])) Um Un
def s90:aQ:=tf (p:=Eq (λx=>eZ tb .Bw 90 {b:=[5],m:=[77,92]} Tryz.f90 [(x,[0,1,4])])) uX
def Ox:aW:=kk (p:=Eq (ot tb {b:=[4,8]} Tryz.f182 0 [2,7,8,9] [(2,[2,7,8])] []))
def Oy:aW:=tf (p:=Eq (λx=>ot tb {b:=[4,8]} Tryz.f182 1 [0,2,4,7] [(0,[])] [(x,[2,7,8,9])])) Ox
def acM:aQ:=tf (p:=Eq (λx=>eZ tb .nC 182 {b:=[4,8]} Tryz.f182 [(x,[0,2,4,7])])) Oy
def acN:aW:=kk (p:=Eq (ot tb {b:=[2,4]} Tryz.f84 0 [0,2,3] [(0,[0,2,3])] []))
def Oz:aW:=kk (p:=Eq (ot tb {b:=[2,4]} Tryz.f84 1 [0,2,3,4,5] [(3,[2,4])] []))
def s84:aQ:=kf2 (p:=Eq (λx y=>eZ tb .nC 84 {b:=[2,4]} Tryz.f84 [(x,[0,2,3]),(y,[0,2,3,4,5])])) acN Oz
def acO:aW:=kk (p:=Eq (ot tb {b:=[2,3,5,7],t:=[69,86,105]} Tryz.f11 0 [2,3,6,7] [(0,[2,3,6,7])] []))
def By:aQ:=tf (p:=Eq (λx=>eZ tb .pure 11 {b:=[2,3,5,7],t:=[69,86,105]} Tryz.f11 [(x,[2,3,6,7])])) acO
def Wz:aW:=kk (p:=Eq (ot tb {b:=[3,4,5,7,9,10]} Tryz.f103 0 [4,5,7,8] [(0,[4,5,7])] []))
def Rq:aQ:=tf (p:=Eq (λx=>eZ tb .pure 103 {b:=[3,4,5,7,9,10]} Tryz.f103 [(x,[4,5,7,8])])) Wz
def acP:aW:=kk (p:=Eq (ot tb {b:=[2,3],t:=[33]} Tryz.f33 0 [0,2,3] [(0,[0,2,3])] []))
def s33:aQ:=tf (p:=Eq (λx=>eZ tb .nC 33 {b:=[2,3],t:=[33]} Tryz.f33 [(x,[0,2,3])])) acP
def acQ:aW:=kk (p:=Eq (ot tb {b:=[2,5,8]} Tryz.f20 0 [6,44,45,46] [(0,[6])] []))
def s20:aQ:=tf (p:=Eq (λx=>eZ tb .pure 20 {b:=[2,5,8]} Tryz.f20 [(x,[6,44,45,46])])) acQ
def acR:aW:=kk (p:=Eq (ot tb {b:=[3,6]} Tryz.f25 0 [0,3,4,5] [(0,[0,3,4])] []))
def s25:aQ:=tf (p:=Eq (λx=>eZ tb .pure 25 {b:=[3,6]} Tryz.f25 [(x,[0,3,4,5])])) acR
def WA:aW:=kk (p:=Eq (ot tb {b:=[3]} Tryz.f135 0 [0,3,4] [(0,[0,3])] []))
def amr:aQ:=tf (p:=Eq (λx=>eZ tb .nC 135 {b:=[3]} Tryz.f135 [(x,[0,3,4])])) WA
def WD:aW:=kk (p:=Eq (ot tb {} Tryz.f138 0 [0,1,5,6] [(0,[5])] []))
def ams:aQ:=tf (p:=Eq (λx=>eZ tb .Bw 138 {} Tryz.f138 [(x,[0,1,5,6])])) WD
def OA:aW:=kk (p:=Eq (ot tb {} Tryz.f88 0 [0,1,5,6] [(0,[5])] []))
def s88:aQ:=tf (p:=Eq (λx=>eZ tb .nC 88 {} Tryz.f88 [(x,[0,1,5,6])])) OA
def acS:aW:=kk (p:=Eq (ot tb {} Tryz.f15 0 [0,1,5] [(0,[])] []))
def s15:aQ:=tf (p:=Eq (λx=>eZ tb .pure 15 {} Tryz.f15 [(x,[0,1,5])])) acS
def acT:aW:=kk (p:=Eq (ot tb {} Tryz.f85 0 [0,3] [(0,[0,3])] []))
def s85:aQ:=tf (p:=Eq (λx=>eZ tb .nC 85 {} Tryz.f85 [(x,[0,3])])) acT
def s77:aQ:=kk (p:=Eq (eZ tb .Bw 77 {m:=[18,19,20],p:=[(3,[(4,6),(4,7)])]} Tryz.f77 []))
def s64:aQ:=kk (p:=Eq (eZ tb .Bw 64 {b:=[3],m:=[15],p:=[(1,[(5,9)])]} Tryz.f64 []))
def s61:aQ:=kk (p:=Eq (eZ tb .Bw 61 {b:=[3],p:=[(1,[(7,3),(7,11)])]} Tryz.f61 []))
def s37:aQ:=kk (p:=Eq (eZ tb .nC 37 {b:=[3],t:=[10]} Tryz.f37 []))
def pS:aQ:=kk (p:=Eq (eZ tb .pure 163 {b:=[1,3,4]} Tryz.f163 []))
def amt:aQ:=kk (p:=Eq (eZ tb .pure 101 {b:=[1,2]} Tryz.f101 []))
def acU:aQ:=kk (p:=Eq (eZ tb .pure 173 {b:=[2,4]} Tryz.f173 []))
def Et:aQ:=kk (p:=Eq (eZ tb .pure 179 {b:=[1,3]} Tryz.f179 []))
def ahk:aQ:=kk (p:=Eq (eZ tb .nC 186 {b:=[4,5]} Tryz.f186 []))
def amu:aQ:=kk (p:=Eq (eZ tb .pure 140 {b:=[0]} Tryz.f140 []))
def iC:aQ:=kk (p:=Eq (eZ tb .pure 170 {b:=[5]} Tryz.f170 []))
def ahl:aQ:=kk (p:=Eq (eZ tb .pure 184 {b:=[2]} Tryz.f184 []))
def s43:aQ:=kk (p:=Eq (eZ tb .pure 43 {b:=[2,3]} Tryz.f43 []))
def OB:aQ:=kk (p:=Eq (eZ tb .Bw 160 {b:=[3]} Tryz.f160 []))
def Uo:aQ:=kk (p:=Eq (eZ tb .pure 82 {b:=[4]} Tryz.f82 []))
def s27:aQ:=kk (p:=Eq (eZ tb .nC 27 {b:=[2]} Tryz.f27 []))
def s52:aQ:=kk (p:=Eq (eZ tb .nC 52 {b:=[3]} Tryz.f52 []))
def s63:aQ:=kk (p:=Eq (eZ tb .nC 63 {b:=[3]} Tryz.f63 []))
def s83:aQ:=kk (p:=Eq (eZ tb .nC 83 {b:=[3]} Tryz.f83 []))
def acV:aQ:=kk (p:=Eq (eZ tb .pure 119 {} Tryz.f119 []))
def amv:aQ:=kk (p:=Eq (eZ tb .pure 143 {} Tryz.f143 []))
def amw:aQ:=kk (p:=Eq (eZ tb .nC 108 {} Tryz.f108 []))
def acW:aQ:=kk (p:=Eq (eZ tb .nC 114 {} Tryz.f114 []))
def ahn:aQ:=kk (p:=Eq (eZ tb .nC 128 {} Tryz.f128 []))
def YN:aQ:=kk (p:=Eq (eZ tb .Bw 145 {} Tryz.f145 []))
def s14:aQ:=kk (p:=Eq (eZ tb .pure 14 {} Tryz.f14 []))
def s19:aQ:=kk (p:=Eq (eZ tb .Bw 19 {} Tryz.f19 []))
def s32:aQ:=kk (p:=Eq (eZ tb .nC 32 {} Tryz.f32 []))
def s73:aQ:=kk (p:=Eq (eZ tb .nC 73 {} Tryz.f73 []))
def tbl:List (Option aQ):=[K,K,K,K,K,Z s5,K,K,Z s8,K,Z s10,Z By,Z s12,Z s13,Z s14,Z s15,Z s16,Z Ue,Z s18,Z s19,Z s20,Z s21,Z s22,K,K,Z s25,Z s26,Z s27,Z s28,Z s29,Z s30,Z s31,Z s32,Z s33,Z s34,Z s35,Z s36,Z s37,Z s38,Z s39,Z s40,Z s41,Z s42,Z s43,Z s44,Z qL,Z s46,Z s47,Z s48,Z s49,Z s50,Z s51,Z s52,Z s53,Z s54,Z s55,Z s56,Z s57,Z s58,Z s59,Z s60,Z s61,Z s62,Z s63,Z s64,Z s65,Z s66,Z s67,Z s68,Z s69,Z Qe,Z s71,Z s72,Z s73,Z s74,Z s75,K,Z s77,K,K,K,Z s81,Z Uo,Z s83,Z s84,Z s85,Z s86,Z s87,Z s88,Z s89,Z s90,Z LI,Z s92,Z s93,Z s94,Z xF,Z s96,Z s97,Z s98,Z Bx,Z Oo,Z amt,Z YM,Z Rq,Z Ov,Z amj,Z IB,Z al6,Z amw,Z amo,Z zk,Z ach,Z ahf,Z acj,Z acW,Z ahi,Z acz,Z YL,Z al9,Z acV,Z amm,Z Ui,Z ama,Z amb,Z Ud,Z aci,Z al3,Z amg,Z ahn,Z Ky,Z ar4,Z al4,Z alY,Z Uk,Z jt,Z amr,Z acw,Z yI,Z ams,Z GN,Z amu,Z YJ,Z acA,Z amv,Z Ug,Z YN,Z acf,Z amn,Z ahe,Z Ro,Z th,Z ahj,Z uV,Z Ul,Z alZ,Z amd,Z amk,Z ahh,Z Uj,Z Uf,Z OB,Z ami,Z wU,Z pS,Z acg,Z Rm,Z tg,Z uW,Z o6,Z al7,Z iC,Z ame,Z aml,Z acU,Z amh,Z Bo,Z Ow,Z ahc,Z YK,Z Et,Z al2,Z wT,Z acM,Z Uh,Z ahl,Z acy,Z ahk,Z amc,Z ahg,K,K,K,K,K,K,K,K,K,K,K,K,K,K,K,K,K]
def ND:List (Option aQ):=[]
def S:Nat->Option aQ:=aaE tbl ND
end aM
