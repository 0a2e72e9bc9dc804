/- Part of a proof. -/
import Derived.Test.YtgblgbgjmgjfkaaGreatA1
import Derived.Test.YtgblgbgjmgjfkaaGreatProg

open Nat renaming beq->aiF,testBit->aju
set_option maxRecDepth 100000
namespace An
open Ax Go
structure Tb where
 ow:Nat
 ag:Nat
 kd:Nat
 sz:Nat
 bs:Nat
 el:Nat
 fl:Nat->Nat
 zr:Nat->Nat
 ix:Nat
 fo:Nat
structure Hn where
 b:List Nat:=[]
 m:List Nat:=[]
 t:List Nat:=[]
 r:List Nat:=[]
 p:List (Nat×List (Nat×Nat)):=[]
 z:List (Nat×aT):=[]
variable (T:Tb)
def Vk(n t:Nat):Nat:=(n >>> (8*t)) % 256
def Tb.k(t:Nat):Nat:=(T.kd >>> (4*t)) % 16
def Tb.s(t:Nat):Nat:=Vk T.sz t
def Tb.e(t:Nat):Nat:=Vk T.el t
def aqa:Nat->AV
 |1=>.int .i64 0|2=>.bool false|3=>.str []|4=>.aF|5=>.eP|6=>.gu|7=>.je|_=>.int .u8 0
def aaS:Nat->Nat->List AV
 |0,_=>[]
 |f+1,n=>if aiF n 0 then [] else aqa (n % 16)::aaS f (n / 16)
def Tb.z(t:Nat):List AV:=aaS 40 (T.zr t)
def aqb:Value->AV
 |.bool b=>.bool b|.int k n=>.int k n|.string s=>.str s.data.toList|.pointer _=>.eP|.map _=>.gu|.nilFunc=>.je|.nilIface=>.lz|_=>.aF
def cAV:Value->AV
 |.agg l=>.agg (l.toList.map aqb)|v=>aqb v
def clO(l:List Operand):Callee->List Operand
 |.value (.func _)=>l|.value x=>x::l|_=>l
def aqc:Op->List Operand
 |.move x=>[x]
 |.assign x=>[x]
 |.nilCheck x=>[x]
 |.box _ x=>[x]
 |.load _ x=>[x]
 |.unOp _ _ x=>[x]
 |.convert _ _ x=>[x]
 |.fieldAddr _ x _=>[x]
 |.field _ x _=>[x]
 |.extract x _=>[x]
 |.pick a b c=>[a,b,c]
 |.mapUpdate _ a b c=>[a,b,c]
 |.insert _ a b c=>[a,b,c]
 |.build _ p=>p.toList.map (·.2)|.buildSlice _ _ p=>p.toList.map (·.2)|.store _ a b=>[a,b]
 |.binOp _ _ a b _=>[a,b]
 |.makeSlice _ a b=>[a,b]
 |.indexAddr _ a b=>[a,b]
 |.index _ a b=>[a,b]
 |.lookup _ a b _=>[a,b]
 |.makeFunc _ a b=>a.toList++b.toList|.slice _ x l h m=>x::(l.toList++h.toList++m.toList)|.call c=>clO c.args.toList c.callee|_=>[]
def mem(t:Nat):List Nat->Bool
 |[]=>false|x::l=>aiF x t||mem t l
def look{g:Type}(t:Nat):List (Nat×g)->Option g
 |[]=>none|(k,v)::l=>if aiF k t then some v else look t l
def idx(t:Nat):List Nat->Nat->Option Nat
 |[],_=>none|x::l,i=>if aiF x t then some i else idx t l (i+1)
def dst(o:Oper):Nat:=match o.dst with|some d=>d|none=>1000
abbrev Dv:=Nat×List (Nat×Nat)
def aqd(t:Nat)(l:List (Nat×Nat)):Bool->Option Nat
 |true=>look t l|false=>none
def aaT(D:Dv):Operand->Option Nat
 |.tmp t=>aqd t D.2 (aju D.1 t)|_=>none
def eqO(T:Tb)(t:Nat):EqK:=match T.k t with
 |2=>.sc .bool|5=>.ptr|4=>.sl|7=>.fn|_=>.flat ((T.z t).map λv=>match v with|.bool _=>.bool|.str _=>.str|_=>.int)
def aqe:BinOp->Bool
 |.neq=>true|_=>false
def aqf(H:Hn)(d t:Nat)(op:BinOp):Nat->fZ
 |1|3|8=>.bin op|_=>if mem d H.m then .Zy (aqe op) else .eqv (eqO T t) (aqe op)
def avc(H:Hn)(d t:Nat):BinOp->fZ
 |.eql=>aqf T H d t .eql (T.k t)|.neq=>aqf T H d t .neq (T.k t)|op=>.bin op
def cvA(b:Nat):Nat->fZ
 |4=>.Zz|3=>.move|_=>.conv (match T.k b with|8=>.u8|_=>.i64)
def slA(H:Hn)(d t:Nat)(l h m:Bool):Nat->fZ
 |3=>.slice true l h m 0|_=>if mem d H.m then .vF (T.s (T.e t)) else .slice false l h m (T.s (T.e t))
def ldA(H:Hn)(d t:Nat):Option Nat->fZ
 |some j=>.yc j (aju T.ag t) (T.s t) (mem d H.t)|none=>.load (aju T.ag t) (T.s t) (mem d H.t)
def stA(t:Nat):Option Nat->fZ
 |some j=>.xM j (T.s t)|none=>.store (T.s t)
def alA(t:Nat):Option Nat->fZ
 |some j=>.xN j (T.z t)|none=>.alloc (T.z t)
def bxA(t:Nat):Option Nat->fZ
 |some j=>.K4 j (T.s t)|none=>.box (T.s t)
def fnA:Fn->Nat
 |.func g=>g|_=>0
def apA(H:Hn)(d e:Nat):Nat->fZ
 |1=>.wU (T.s e) (Vk T.bs e) (T.z e)|_=>if mem d H.m then .jH (T.s e) (Vk T.bs e) else .append (T.s e) (Vk T.bs e)
def lnA:Nat->LK
 |3=>.str|4=>.sl|_=>.mp
def blA(H:Hn)(d:Nat)(t:List Nat):Builtin->fZ
 |.len=>.len (lnA (T.k (t.headD 0)))|.cap=>.aey|.min=>.Fu false|.max=>.Fu true|.append=>apA T H d (T.e (t.headD 0)) (T.k ((t.drop 1).headD 0))|_=>.copy (T.s (T.e (t.headD 0)))
def clA(H:Hn)(d:Nat)(t:List Nat):Callee->fZ
 |.value (.func g)=>.call g|.builtin b=>blA T H d t b|_=>.wV
def opA(H:Hn)(D:Dv)(d:Nat):Op->fZ
 |.move _=>.move|.assign _=>.move|.pick _ _ _=>.pick|.binOp op t _ _ _=>avc T H d t op|.unOp op _ _=>.un op|.convert a b _=>cvA T b (T.k a)|.nilCheck _=>.nilCheck|.extract _ i=>.extract i|.field t _ f=>.field (Vk (T.fl t) (3*f)) (Vk (T.fl t) (3*f+1)) (aju T.ag (Vk (T.fl t) (3*f+2)))|.build t ps=>.build (T.z t) (ps.toList.map λq=>(Vk (T.fl t) (3*q.1),Vk (T.fl t) (3*q.1+1)))|.buildSlice t n ps=>if mem d H.m then .Sv (T.s (T.e t)) n (T.z (T.e t)) (ps.toList.map (·.1)) else .lit (T.s (T.e t)) n (T.z (T.e t)) (ps.toList.map (·.1))
 |.fieldAddr t _ f=>.fieldAddr (Vk T.fo (12*Vk T.ix t+f))|.indexAddr t _ _=>.indexAddr (T.s (T.e t))|.index _ _ _=>.index|.slice t _ l h m=>slA T H d t l.isSome h.isSome m.isSome (T.k t)|.load t a=>ldA T H d t (aaT D a)|.store t a _=>stA T t (aaT D a)|.alloc t=>alA T t (idx d H.b 0)|.box t _=>bxA T t (idx d H.b 0)|.makeSlice t _ _=>if mem d H.r then .DZ (T.s (T.e t)) (Vk T.bs (T.e t)) (T.z (T.e t)) else .yV (T.s (T.e t)) (Vk T.bs (T.e t)) (T.z (T.e t)) (mem d H.m)
 |.makeMap _ _=>.makeMap|.mapUpdate _ _ _ _=>.mapUpdate .int|.insert _ _ _ _=>.mapUpdate .int|.lookup _ _ _ ok=>.lookup .int .je ok|.makeFunc f a _=>.makeFunc (fnA f) a.size|.call c=>clA T H d c.argTypes.toList c.callee|_=>.vF 0
def XJ(t:Nat):Nat:=1 <<< t
def sub(a b:Nat):Nat:=a ^^^ (a &&& b)
def tmps:List Operand->Nat
 |[]=>0|.tmp t::l=>XJ t ||| tmps l
 |_::l=>tmps l
def avd(o:Oper):Nat:=match o.dst with|some d=>XJ d|none=>0
def gOf(dK:List Oper)(o:Oper):Option (Nat×Bool):=match o.guard with
 |some (k,b)=>match dK[k]? with|some q=>some (dst q,b)|none=>none
 |none=>none
def gB:Option (Nat×Bool)->Nat
 |some (t,_)=>XJ t|none=>0
def aaU:List Operand->Nat×Nat->Nat×Nat
 |[],s=>s|.tmp t::l,(a,b)=>aaU l (a ||| XJ t,b ||| (a &&& XJ t))|_::l,s=>aaU l s
def aqg(dK:List Oper):List Oper->Nat×Nat->Nat×Nat
 |[],s=>s|o::l,s=>aqg dK l (let (a,b):=aaU (aqc o.op) s;let g:=gB (gOf dK o);(a ||| g,b ||| (a &&& g)))
structure Rg where
 l:Nat
 r:Nat
 w:Nat
 a:Nat
 k:Nat
 c:Nat
 o:List ct
def aaV(m:Nat):List Operand->List Src
 |[]=>[]
 |.tmp t::l=>.tmp t (aju m t && !Nat.testBit (tmps l) t)::aaV m l|.const v::l=>.const (cAV v)::aaV m l|.func f::l=>.const (.fn f [] [])::aaV m l|_::l=>aaV m l
def rgS(H:Hn)(D:Dv)(ju:Nat)(h:Bool)(out S:Nat)(dK:List Oper)(o:Oper)(s:Rg):Rg:=
 let d:=avd o
 let x:=aqc o.op
 let u:=tmps x
 let g:=gOf dK o
 let U:=u ||| gB g
 let l:=sub s.l d
 let m:=(if h then sub (sub ju S) (sub out s.w) else sub ju l) &&& u
 ⟨l ||| U,s.r ||| U,s.w ||| d,s.a ||| sub d (s.r ||| U),(match g with|none=>s.k ||| m|_=>s.k),s.c ||| U ||| d,⟨o.dst,opA T H D (dst o) o.op,aaV m x,g⟩::s.o⟩
def rgL(H:Hn)(D:Dv)(ju:Nat)(g:Bool)(out S:Nat)(dK:List Oper):List Oper->Rg
 |[]=>⟨out,0,0,0,0,0,[]⟩
 |o::l=>rgS T H D ju g out S dK o (rgL H D ju g out S dK l)
def aks:Nat->Nat->Nat->List Nat->List Nat
 |0,n,b,l=>if aiF n 0 then l else b::l
 |k+1,n,b,l=>if aiF n 0 then l else aks k (n &&& ((1 <<< (1 <<< k))-1)) b (aks k (n >>> (1 <<< k)) (b+(1 <<< k)) l)
def Nu(n:Nat):List Nat:=aks 9 n 0 []
def opB:Operand->Nat
 |.tmp t=>XJ t|_=>0
def msk:List Nat->Nat
 |[]=>0|t::l=>XJ t ||| msk l
def lkX(k:Nat)(x:List (Nat×Nat)):Nat:=(look k x).getD 0
def JP:Code->Nat
 |.seq a b=>JP a+JP b|.cond _ a b=>JP a+JP b|.block _ b|.scope b=>JP b|.loop _=>1|_=>0
def JQ:Code->List Code
 |.seq a b=>JQ a++JQ b|.cond _ a b=>JQ a++JQ b|.block _ b|.scope b=>JQ b|.loop b=>JQ b++[b]|_=>[]
def ann(H:Hn)(D:Dv)(ju R:Nat)(X:List (aT×List Nat)):Code->Nat->Nat->List (Nat×Nat)->Nat×aT
 |.ret,_,_,_=>(R,.ret)
 |.exit k,_,_,x=>(lkX k x,.exit k)
 |.seq a b,i,n,x=>match ann H D ju R X b (i+JP a) n x with
  |(m,q)=>match ann H D ju R X a i m x with
   |(l,p)=>(l,.seq p q)
 |.cond c a b,i,n,x=>match ann H D ju R X a i n x with
  |(l,p)=>match ann H D ju R X b (i+JP a) n x with
   |(m,q)=>((l ||| m) ||| opB c,.cond (match c with|.tmp t=>.tmp t (!Nat.testBit (l ||| m) t)|.const v=>.const (cAV v)|_=>.const .aF) (Nu (sub m l)) p (Nu (sub l m)) q)
 |.block k b,i,n,x=>match ann H D ju R X b i n ((k,n)::x) with
  |(l,p)=>(l,.block k p)
 |.scope b,i,n,x=>ann H D ju R X b i n x|.loop _,i,_,_=>match X.getD i (.skip,[]) with
  |(c,h)=>(msk h,.loop c)
 |.region k dK g,_,n,_=>match dK.toList with
  |Q=>match rgL T H D ju g n (if g then (aqg Q Q (0,0)).2 else 0) Q Q with
   |r=>(r.l,let c:=aT.region r.o (if g then some ((look k H.p).getD []) else none) (Nu (sub (sub r.c n) (sub r.k r.a)));match look k H.z with|some z=>.seq z c|none=>c)
 |_,_,n,_=>(n,.skip)
def all:Code->List Oper
 |.seq a b=>all a++all b|.cond _ a b=>all a++all b|.block _ b|.scope b|.loop b=>all b|.region _ dK _=>dK.toList|_=>[]
def akt(d:Nat)(D:Dv):Option Nat->Dv
 |some j=>(D.1 ||| XJ d,(d,j)::D.2)
 |none=>D
def afZ(H:Hn)(D:Dv)(d:Nat):Op->Dv
 |.alloc _=>akt d D (idx d H.b 0)|.box _ _=>akt d D (idx d H.b 0)|.fieldAddr _ a _=>akt d D (aaT D a)|_=>D
def aaW(H:Hn):List Oper->Dv->Dv
 |[],D=>D|o::l,D=>aaW H l (afZ H D (dst o) o.op)
def aqh(t:Nat):Bool->Nat
 |true=>XJ t|false=>0
def aqi:List Oper->Nat
 |[]=>0|o::l=>aqh (dst o) (aju T.ow o.type) ||| aqi l
def aqj:List Nat->Nat->Nat
 |[],_=>0|t::l,k=>aqh k (aju T.ow t) ||| aqj l (k+1)
def A6:List ResultVar->Nat
 |[]=>0|.tmp t::l=>XJ t ||| A6 l
 |.cell t _::l=>XJ t ||| A6 l
def pre(H:Hn)(f:Func)(c:Code):Dv×Nat:=
 match all c with
 |Q=>match aaW H Q (0,[]) with
  |D=>(D,sub (aqi T Q ||| aqj T f.params.toList 0 ||| ((XJ f.nfree-1) <<< f.params.size)) D.1)
def o6(H:Hn)(f:Func)(k:Nat)(h:List Nat)(x:List (Nat×List Nat))(X:List (aT×List Nat)):aT:=
 match f.body.getD .skip with
 |c=>match pre T H f c with
  |(D,ju)=>(ann T H D ju (A6 f.results.toList) X ((JQ c).getD k .skip) 0 (msk h) (x.map λq=>(q.1,msk q.2))).2
def fC(m:Ax.Mode)(i:Nat)(H:Hn)(f:Func)(x:List (aT×List Nat)):aL:=
 match f.body.getD .skip with
 |c=>match pre T H f c with
  |(D,ju)=>match ann T H D ju (A6 f.results.toList) x c 0 (A6 f.results.toList) [] with
   |(l,p)=>⟨i,m,f.params.size+f.nfree,H.b.length,Nu (sub (XJ (f.params.size+f.nfree)-1) l),f.results.toList.map λr=>match r with
    |.tmp t=>.tmp t (aju ju t)|.cell t y=>match idx t H.b 0 with
     |some j=>.box t j (T.s y) (aju T.ag y)|none=>.cell t (T.s y) (aju T.ag y),p⟩
def kk{g:Type}{c:g}{p:g->Prop}(_:p c:=by conv=>lhs;cbv):g:=c
variable{g:Type}
@[simp]theorem ayQ{c:g}{p:g->Prop}(h:p c) : @kk g c p h=c:=rfl
def uA{g:Type}{c:aT->g}{p:(aT->g)->Prop}(x:aT)(_:p c:=by funext _;conv=>lhs;cbv):g:=c x
@[simp]theorem ave{c:aT->g}{p:(aT->g)->Prop}(x:aT)(h:p c) : @uA g c p x h=c x:=rfl
def kf2{g:Type}{c:aT->aT->g}{p:(aT->aT->g)->Prop}(x l:aT)(_:p c:=by funext _ _;conv=>lhs;cbv):g:=c x l
@[simp]theorem avf{c:aT->aT->g}{p:(aT->aT->g)->Prop}(x l:aT)(h:p c) : @kf2 g c p x l h=c x l:=rfl
def kf3{g:Type}{c:aT->aT->aT->g}{p:(aT->aT->aT->g)->Prop}(x l X:aT)(_:p c:=by funext _ _ _;conv=>lhs;cbv):g:=c x l X
@[simp]theorem avg{c:aT->aT->aT->g}{p:(aT->aT->aT->g)->Prop}(x l X:aT)(h:p c) : @kf3 g c p x l X h=c x l X:=rfl
def kf4{g:Type}{c:aT->aT->aT->aT->g}{p:(aT->aT->aT->aT->g)->Prop}(x l X h:aT)(_:p c:=by funext _ _ _ _;conv=>lhs;cbv):g:=c x l X h
@[simp]theorem avh{c:aT->aT->aT->aT->g}{p:(aT->aT->aT->aT->g)->Prop}(x l X j:aT)(h:p c) : @kf4 g c p x l X j h=c x l X j:=rfl
def kf5{g:Type}{c:aT->aT->aT->aT->aT->g}{p:(aT->aT->aT->aT->aT->g)->Prop}(x l X h j:aT)(_:p c:=by funext _ _ _ _ _;conv=>lhs;cbv):g:=c x l X h j
@[simp]theorem avi{c:aT->aT->aT->aT->aT->g}{p:(aT->aT->aT->aT->aT->g)->Prop}(x l X j k:aT)(h:p c) : @kf5 g c p x l X j k h=c x l X j k:=rfl
def kf6{g:Type}{c:aT->aT->aT->aT->aT->aT->g}{p:(aT->aT->aT->aT->aT->aT->g)->Prop}(x l X h j k:aT)(_:p c:=by funext _ _ _ _ _ _;conv=>lhs;cbv):g:=c x l X h j k
@[simp]theorem avj{c:aT->aT->aT->aT->aT->aT->g}{p:(aT->aT->aT->aT->aT->aT->g)->Prop}(x l X j k m:aT)(h:p c) : @kf6 g c p x l X j k m h=c x l X j k m:=rfl
end An
namespace aO
open Ax An Go Go.Proofs
def tb:Tb:=⟨0x400e200341462840000ee690802d8331bc1fee03066fcf0e0e051f19fd00001,0x300f800300060000000cc600000d9b31bf0d8c7b1e0d8f0c0d80d818c0c6180,0x11578817000007477777775777007077777070577007770707777077577777777777777700470045700745707777077777777705007007700700770057700500000077700040044700477000070077700005704700400457000077570047675500400777707000100444777007740044441000555001333008821170,0x10b0b01010101010101010000000404010101010101010101010101011313010101010101010101010101010b0b01010101010101010101010101010101010101010101010101010101010909010103030101010e0e010101010101010101010101010101010101010101040401010101010404010202010111110101010d0d010606030304040101010105050104040101010707010101040402020103030101010404050501010101010d0d01010101010104040606010101010f0f0101010101010707010303010101010101010202010303010101010101040401010105050101010101010101010101020201010101040401010101010101,0x83030040408080101040800000028280818080808080808080808080808080800080808080800080008080878780808080008000808080800080808080808080808080808080808080808888818082828180808d8d808180808000808080800080808080808080808000830300818180808202008282808081818080808c8c808484838382828080808006868185050181808686818080830301818083030080808282838380808001808f8f8181818180808303040400808080808081808080808085858181818080808080008001010084848181818080808303008081868681818181804100808080808181808101010181801010108080800,0xa30000000000000000000000000000000000000000000000000000000000000000000000000000000000000000000000000000000000000000000000ce0000000400000000000900000000000000000000000000000000000000000000000000000000000000000000000000000000000000000000000000000000007700007975000000af00000000000000000000000000000000000000580000008f00001c000000000000000000000000410000000000000045000000000000000000000000000067625d000000000000000300008837348500000000000000000000000000000000000000000000,fun|140=>0x4a0100|96=>0x30101090100|43=>0x30101290100|171=>0x2b0201a90100|136=>0x340301030100|117=>0x340301090100|133=>0x690101090100|111=>0x6d01046c0400|52=>0x30102030101030100|93=>0x30102250101090100|119=>0x30102650101690100|98=>0x30103600201090100|40=>0x260102250101240100|124=>0x3707060301051b0500|88=>0x30103030102090101030100|32|71=>0x301031c0102030101030100|108=>0x301036a0102690101160100|86=>0x2b0203030102030101510100|121=>0x340303040102690101090100|221=>0x45060d3707060301051b0500|27=>0x30104190103180102170101160100|166=>0x2b020c69010b790605a301046c0400|55=>0x350106340303040102170101030100|103=>0x30106650105600203040102250101090100|69=>0x1c0105030104030103030102030101030100|175=>0x30108030107650106650105ad0104600202090101030100|206=>0x3010a340307030106ad0105600203090102030101030100|63=>0x20040b3b010a3d01091c01081c01073901061c01051b0500|129=>0x3011004010f1c010e03010d1c010c4c010b2004070301061c01056f0500|_=>0,fun|3=>0x1|4=>0x2|9=>0x3|28|140|163=>0x4|65=>0x5|43=>0x11|96=>0x13|133=>0x43|52=>0x111|171=>0x114|93=>0x143|119=>0x144|40=>0x444|136=>0x1111|117=>0x1113|88=>0x1131|98=>0x1133|32|71=>0x1411|108=>0x1444|86=>0x11114|27=>0x14444|111=>0x41444|121=>0x111243|69=>0x411111|103=>0x1413243|55=>0x4111241|175=>0x114441331|206=>0x11111413311|124=>0x4111241114444|166=>0x11411124341444|63=>0x141164445414444|129=>0x12414414111441444|221=>0x4111114111241114444|_=>0,0x1e00000000000000000000000000001d0000000000000000000000000000000000000000000000000000000000001c0000001b000000001a00000000000000000000000000000000000000000000000000190000001800001700000016000000001500001400130012000000000011000010000000000f000000000e000d00000c000000000b000a0000000000000000000900000000080007000000000006000000000000000500000400000000000000000300000200000000000000010000000000000000000000000000000000000000000000000000000000000000,0xd060500000000000a07060503020100000000000807060504020100000000000000000000000100000000000000000c0b0504000000000000000000000000000000000000000000000001000000000000000000000001000000100f0e0d0c0b07060500000000000000000000060500000000000000000003020100000000000000000000020100000000000000000000000100000000000000000000000400000000000000000003020100000000000000060503020100000000000000000000030100000000000000000000000100000000000000000000020100000000000000000003020100000000000000000003020100000000000000000000000000000000000000000003020100000000000000050403020100000000000b0a090807060500000000000000000603020100000000000000000000020100000000000000000000000100000000000000000000020100000000000000000003020100000000000000000403020100⟩
end aO
namespace aO
open Ax An Go Go.Proofs
def aaX:aT:=kk (p:=Eq (o6 tb {b:=[1,2,3,7,10,12,14,17,18,19],t:=[76,181]} Tryz.f86 0 [1,2,3,4,5,6] [(2,[1,2,3,4,5])] []))
def aaY:aT:=uA (p:=Eq (λx=>o6 tb {b:=[1,2,3,7,10,12,14,17,18,19],t:=[76,181]} Tryz.f86 1 [1,2,3,4,5] [(0,[1,2,3,4])] [(x,[1,2,3,4,5,6])])) aaX
def aaZ:aT:=kk (p:=Eq (o6 tb {b:=[1,2,3,7,10,12,14,17,18,19],t:=[76,181]} Tryz.f86 2 [1,2,3,4,7,8] [(4,[1,2,3,4,7])] []))
def aa0:aT:=kk (p:=Eq (o6 tb {b:=[1,2,3,7,10,12,14,17,18,19],t:=[76,181]} Tryz.f86 3 [1,2,3,4,7,13,14,15] [(8,[1,2,3,4,7,13,14])] []))
def aa1:aT:=uA (p:=Eq (λx=>o6 tb {b:=[1,2,3,7,10,12,14,17,18,19],t:=[76,181]} Tryz.f86 4 [1,2,3,4,7,13] [(6,[2,3,7])] [(x,[1,2,3,4,7,13,14,15])])) aa0
def s86:aL:=kf3 (p:=Eq (λx y z=>fC tb .pure 86 {b:=[1,2,3,7,10,12,14,17,18,19],t:=[76,181]} Tryz.f86 [(x,[1,2,3,4,5]),(y,[1,2,3,4,7,8]),(z,[1,2,3,4,7,13])])) aaY aaZ aa1
def aa2:aT:=kk (p:=Eq (o6 tb {b:=[1,4,6]} Tryz.f46 0 [1,8,9,10,19,20,21] [(2,[1,8,9,10])] []))
def aa3:aT:=uA (p:=Eq (λx=>o6 tb {b:=[1,4,6]} Tryz.f46 1 [1,8,9,10] [(0,[])] [(x,[1,8,9,10,19,20,21])])) aa2
def s46:aL:=uA (p:=Eq (λx=>fC tb .pure 46 {b:=[1,4,6]} Tryz.f46 [(x,[1,8,9,10])])) aa3
def Vl:aT:=kk (p:=Eq (o6 tb {} Tryz.f127 0 [0,1,5,6] [(0,[0,1])] []))
def Vm:aT:=kk (p:=Eq (o6 tb {} Tryz.f127 1 [0,1,7,8] [(2,[])] []))
def aku:aL:=kf2 (p:=Eq (λx y=>fC tb .pure 127 {} Tryz.f127 [(x,[0,1,5,6]),(y,[0,1,7,8])])) Vl Vm
def aa4:aT:=kk (p:=Eq (o6 tb {b:=[1,2,3,4,5,6],t:=[66]} Tryz.f34 0 [1,2,3,4,6,7] [(0,[2,3,6])] []))
def s34:aL:=uA (p:=Eq (λx=>fC tb .pure 34 {b:=[1,2,3,4,5,6],t:=[66]} Tryz.f34 [(x,[1,2,3,4,6,7])])) aa4
def aa5:aT:=kk (p:=Eq (o6 tb {b:=[2,3],t:=[33]} Tryz.f30 0 [0,2,3] [(0,[0,2,3])] []))
def s30:aL:=uA (p:=Eq (λx=>fC tb .mH 30 {b:=[2,3],t:=[33]} Tryz.f30 [(x,[0,2,3])])) aa5
def Vn:aT:=kk (p:=Eq (o6 tb {b:=[3,4,5,6]} Tryz.f180 0 [0,3,4] [(0,[3,4])] []))
def akv:aL:=uA (p:=Eq (λx=>fC tb .mH 180 {b:=[3,4,5,6]} Tryz.f180 [(x,[0,3,4])])) Vn
def Vo:aT:=kk (p:=Eq (o6 tb {b:=[3,4]} Tryz.f133 0 [0,3,4,6] [(1,[4])] []))
def Tm:aL:=uA (p:=Eq (λx=>fC tb .pure 133 {b:=[3,4]} Tryz.f133 [(x,[0,3,4,6])])) Vo
def aa6:aT:=kk (p:=Eq (o6 tb {b:=[2,6]} Tryz.f47 0 [2,7,8,9] [(0,[])] []))
def s47:aL:=uA (p:=Eq (λx=>fC tb .pure 47 {b:=[2,6]} Tryz.f47 [(x,[2,7,8,9])])) aa6
def aa7:aT:=kk (p:=Eq (o6 tb {b:=[1]} Tryz.f87 0 [1,3,4] [(0,[3])] []))
def s87:aL:=uA (p:=Eq (λx=>fC tb .pure 87 {b:=[1]} Tryz.f87 [(x,[1,3,4])])) aa7
def Vp:aT:=kk (p:=Eq (o6 tb {} Tryz.f123 0 [0,3,4] [(0,[])] []))
def akw:aL:=uA (p:=Eq (λx=>fC tb .pure 123 {} Tryz.f123 [(x,[0,3,4])])) Vp
def Vq:aT:=kk (p:=Eq (o6 tb {} Tryz.f124 0 [0,3] [(0,[])] []))
def Tn:aL:=uA (p:=Eq (λx=>fC tb .pure 124 {} Tryz.f124 [(x,[0,3])])) Vq
def aa8:aT:=kk (p:=Eq (o6 tb {} Tryz.f85 0 [0,3] [(0,[0,3])] []))
def s85:aL:=uA (p:=Eq (λx=>fC tb .mH 85 {} Tryz.f85 [(x,[0,3])])) aa8
def s58:aL:=kk (p:=Eq (fC tb .mH 58 {b:=[3],p:=[(1,[(4,8),(4,12),(4,16)])]} Tryz.f58 []))
def xV:aL:=kk (p:=Eq (fC tb .AA 137 {b:=[3],p:=[(26,[(3,8),(4,8)])]} Tryz.f137 []))
def s56:aL:=kk (p:=Eq (fC tb .mH 56 {b:=[3],p:=[(1,[(4,8),(4,14)])]} Tryz.f56 []))
def s4:aL:=kk (p:=Eq (fC tb .pure 4 {b:=[7,8,9,10,11,12]} Tryz.f4 []))
def s67:aL:=kk (p:=Eq (fC tb .AA 67 {b:=[3],m:=[26]} Tryz.f67 []))
def To:aL:=kk (p:=Eq (fC tb .mH 153 {b:=[3,4,5]} Tryz.f153 []))
def aa9:aL:=kk (p:=Eq (fC tb .pure 173 {b:=[2,4]} Tryz.f173 []))
def DG:aL:=kk (p:=Eq (fC tb .pure 179 {b:=[1,3]} Tryz.f179 []))
def akx:aL:=kk (p:=Eq (fC tb .mH 187 {b:=[2,3]} Tryz.f187 []))
def aky:aL:=kk (p:=Eq (fC tb .pure 156 {b:=[0]} Tryz.f156 []))
def akz:aL:=kk (p:=Eq (fC tb .pure 172 {b:=[2]} Tryz.f172 []))
def s10:aL:=kk (p:=Eq (fC tb .pure 10 {b:=[1,2]} Tryz.f10 []))
def Tp:aL:=kk (p:=Eq (fC tb .AA 159 {b:=[3]} Tryz.f159 []))
def s44:aL:=kk (p:=Eq (fC tb .pure 44 {b:=[1]} Tryz.f44 []))
def s50:aL:=kk (p:=Eq (fC tb .mH 50 {b:=[3]} Tryz.f50 []))
def s54:aL:=kk (p:=Eq (fC tb .mH 54 {b:=[3]} Tryz.f54 []))
def s66:aL:=kk (p:=Eq (fC tb .mH 66 {b:=[3]} Tryz.f66 []))
def yB:aL:=kk (p:=Eq (fC tb .pure 110 {} Tryz.f110 []))
def akA:aL:=kk (p:=Eq (fC tb .pure 120 {} Tryz.f120 []))
def akB:aL:=kk (p:=Eq (fC tb .pure 147 {} Tryz.f147 []))
def akC:aL:=kk (p:=Eq (fC tb .AA 109 {} Tryz.f109 []))
def af1:aL:=kk (p:=Eq (fC tb .mH 115 {} Tryz.f115 []))
def akD:aL:=kk (p:=Eq (fC tb .mH 130 {} Tryz.f130 []))
def af2:aL:=kk (p:=Eq (fC tb .mH 151 {} Tryz.f151 []))
def Pe:aL:=kk (p:=Eq (fC tb .pure 70 {} Tryz.f70 []))
def s29:aL:=kk (p:=Eq (fC tb .mH 29 {} Tryz.f29 []))
def s72:aL:=kk (p:=Eq (fC tb .mH 72 {} Tryz.f72 []))
def s93:aL:=kk (p:=Eq (fC tb .mH 93 {} Tryz.f93 []))
end aO
namespace aO
open Ax An Go Go.Proofs
def aba:aT:=kk (p:=Eq (o6 tb {b:=[1,2,3,4,5,6,10,11],t:=[51,80,116,118],z:=[(28,.qL 12 12)]} Tryz.f12 0 [2,3,4,6,7] [(0,[2,3,4,6])] []))
def abb:aT:=kk (p:=Eq (o6 tb {b:=[1,2,3,4,5,6,10,11],t:=[51,80,116,118],z:=[(28,.qL 12 12)]} Tryz.f12 1 [2,3,4,6,8,9,10,12,13] [(4,[2,3,4,6,8,9,10,12])] []))
def abd:aT:=uA (p:=Eq (λx=>o6 tb {b:=[1,2,3,4,5,6,10,11],t:=[51,80,116,118],z:=[(28,.qL 12 12)]} Tryz.f12 2 [2,3,4,6,8,9] [(2,[2,3,6])] [(x,[2,3,4,6,8,9,10,12,13])])) abb
def s12:aL:=kf2 (p:=Eq (λx y=>fC tb .pure 12 {b:=[1,2,3,4,5,6,10,11],t:=[51,80,116,118],z:=[(28,.qL 12 12)]} Tryz.f12 [(x,[2,3,4,6,7]),(y,[2,3,4,6,8,9])])) aba abd
def Vr:aT:=kk (p:=Eq (o6 tb {b:=[5,8]} Tryz.f132 0 [0,1,5,6,7,8,9,10] [(2,[0,1,5,6,7,8,9])] []))
def Vs:aT:=uA (p:=Eq (λx=>o6 tb {b:=[5,8]} Tryz.f132 1 [0,1,5,6,7] [(0,[5,6])] [(x,[0,1,5,6,7,8,9,10])])) Vr
def akG:aL:=uA (p:=Eq (λx=>fC tb .pure 132 {b:=[5,8]} Tryz.f132 [(x,[0,1,5,6,7])])) Vs
def Nv:aT:=kk (p:=Eq (o6 tb {b:=[4,8]} Tryz.f182 0 [2,7,8,9] [(2,[2,7,8])] []))
def Nw:aT:=uA (p:=Eq (λx=>o6 tb {b:=[4,8]} Tryz.f182 1 [0,2,4,7] [(0,[])] [(x,[2,7,8,9])])) Nv
def abe:aL:=uA (p:=Eq (λx=>fC tb .mH 182 {b:=[4,8]} Tryz.f182 [(x,[0,2,4,7])])) Nw
def abf:aT:=kk (p:=Eq (o6 tb {} Tryz.f81 0 [0,1] [(3,[0,1])] []))
def abg:aT:=uA (p:=Eq (λx=>o6 tb {} Tryz.f81 1 [0,1] [(0,[1])] [(x,[0,1])])) abf
def s81:aL:=uA (p:=Eq (λx=>fC tb .pure 81 {} Tryz.f81 [(x,[0,1])])) abg
def Vt:aT:=kk (p:=Eq (o6 tb {b:=[1,3,4]} Tryz.f183 0 [1,3,4,43,44,45] [(0,[1,3,4])] []))
def Tq:aL:=uA (p:=Eq (λx=>fC tb .pure 183 {b:=[1,3,4]} Tryz.f183 [(x,[1,3,4,43,44,45])])) Vt
def Vu:aT:=kk (p:=Eq (o6 tb {b:=[4,5,6,7]} Tryz.f148 0 [0,1,4,5] [(0,[4,5])] []))
def af3:aL:=uA (p:=Eq (λx=>fC tb .mH 148 {b:=[4,5,6,7]} Tryz.f148 [(x,[0,1,4,5])])) Vu
def Vv:aT:=kk (p:=Eq (o6 tb {b:=[3],m:=[121]} Tryz.f139 0 [0,3] [(1,[])] []))
def FK:aL:=uA (p:=Eq (λx=>fC tb .AA 139 {b:=[3],m:=[121]} Tryz.f139 [(x,[0,3])])) Vv
def abh:aT:=kk (p:=Eq (o6 tb {b:=[1,5]} Tryz.f49 0 [1,3,7,8,9] [(0,[])] []))
def s49:aL:=uA (p:=Eq (λx=>fC tb .pure 49 {b:=[1,5]} Tryz.f49 [(x,[1,3,7,8,9])])) abh
def Vw:aT:=kk (p:=Eq (o6 tb {b:=[3]} Tryz.f135 0 [0,3,4] [(0,[0,3])] []))
def akH:aL:=uA (p:=Eq (λx=>fC tb .mH 135 {b:=[3]} Tryz.f135 [(x,[0,3,4])])) Vw
def Vx:aT:=kk (p:=Eq (o6 tb {} Tryz.f161 0 [0,1,5,6] [(0,[5])] []))
def akI:aL:=uA (p:=Eq (λx=>fC tb .AA 161 {} Tryz.f161 [(x,[0,1,5,6])])) Vx
def Vy:aT:=kk (p:=Eq (o6 tb {} Tryz.f188 0 [0,3] [(0,[0,3])] []))
def af4:aL:=uA (p:=Eq (λx=>fC tb .mH 188 {} Tryz.f188 [(x,[0,3])])) Vy
def abi:aT:=kk (p:=Eq (o6 tb {} Tryz.f38 0 [0,1,4] [(0,[])] []))
def s38:aL:=uA (p:=Eq (λx=>fC tb .AA 38 {} Tryz.f38 [(x,[0,1,4])])) abi
def s40:aL:=kk (p:=Eq (fC tb .AA 40 {m:=[22],p:=[(5,[(7,2),(9,2),(11,2),(12,2),(14,2)])]} Tryz.f40 []))
def abj:aL:=kk (p:=Eq (fC tb .AA 146 {m:=[11,12,13],p:=[(1,[(4,6),(4,7)])]} Tryz.f146 []))
def s62:aL:=kk (p:=Eq (fC tb .AA 62 {b:=[3],m:=[35,36],p:=[(4,[(3,8)])]} Tryz.f62 []))
def s64:aL:=kk (p:=Eq (fC tb .AA 64 {b:=[3],m:=[15],p:=[(1,[(5,9)])]} Tryz.f64 []))
def s61:aL:=kk (p:=Eq (fC tb .AA 61 {b:=[3],p:=[(1,[(7,3),(7,11)])]} Tryz.f61 []))
def oM:aL:=kk (p:=Eq (fC tb .pure 163 {b:=[1,3,4]} Tryz.f163 []))
def Nx:aL:=kk (p:=Eq (fC tb .pure 104 {b:=[2,3]} Tryz.f104 []))
def Ny:aL:=kk (p:=Eq (fC tb .pure 176 {b:=[4,9]} Tryz.f176 []))
def v9:aL:=kk (p:=Eq (fC tb .mH 181 {b:=[2,3]} Tryz.f181 []))
def akJ:aL:=kk (p:=Eq (fC tb .pure 131 {b:=[2]} Tryz.f131 []))
def wg:aL:=kk (p:=Eq (fC tb .pure 162 {b:=[1]} Tryz.f162 []))
def XK:aL:=kk (p:=Eq (fC tb .pure 178 {b:=[3]} Tryz.f178 []))
def Tr:aL:=kk (p:=Eq (fC tb .pure 17 {b:=[1,3]} Tryz.f17 []))
def s31:aL:=kk (p:=Eq (fC tb .mH 31 {b:=[2,3]} Tryz.f31 []))
def s27:aL:=kk (p:=Eq (fC tb .mH 27 {b:=[2]} Tryz.f27 []))
def s52:aL:=kk (p:=Eq (fC tb .mH 52 {b:=[3]} Tryz.f52 []))
def s63:aL:=kk (p:=Eq (fC tb .mH 63 {b:=[3]} Tryz.f63 []))
def s83:aL:=kk (p:=Eq (fC tb .mH 83 {b:=[3]} Tryz.f83 []))
def abk:aL:=kk (p:=Eq (fC tb .pure 119 {} Tryz.f119 []))
def akK:aL:=kk (p:=Eq (fC tb .pure 143 {} Tryz.f143 []))
def akL:aL:=kk (p:=Eq (fC tb .mH 108 {} Tryz.f108 []))
def abl:aL:=kk (p:=Eq (fC tb .mH 114 {} Tryz.f114 []))
def abm:aL:=kk (p:=Eq (fC tb .mH 128 {} Tryz.f128 []))
def XL:aL:=kk (p:=Eq (fC tb .AA 145 {} Tryz.f145 []))
def s14:aL:=kk (p:=Eq (fC tb .pure 14 {} Tryz.f14 []))
def s71:aL:=kk (p:=Eq (fC tb .pure 71 {} Tryz.f71 []))
def s32:aL:=kk (p:=Eq (fC tb .mH 32 {} Tryz.f32 []))
def s73:aL:=kk (p:=Eq (fC tb .mH 73 {} Tryz.f73 []))
end aO
namespace aO
open Ax An Go Go.Proofs
def aiG:aT:=kk (p:=Eq (o6 tb {b:=[3,6,10],m:=[54,55],t:=[35],r:=[21],p:=[(7,[(7,4),(8,4)]),(3,[(5,1),(5,7)]),(9,[(4,8),(4,9)])],z:=[(4,.qL 7 8),(18,.qL 7 13)]} Tryz.f8 0 [2,3,6,7,27,28] [(0,[2,3,6,7])] []))
def abn:aT:=kk (p:=Eq (o6 tb {b:=[3,6,10],m:=[54,55],t:=[35],r:=[21],p:=[(7,[(7,4),(8,4)]),(3,[(5,1),(5,7)]),(9,[(4,8),(4,9)])],z:=[(4,.qL 7 8),(18,.qL 7 13)]} Tryz.f8 1 [2,3,6,7] [(2,[6,7])] []))
def s8:aL:=kf2 (p:=Eq (λx y=>fC tb .pure 8 {b:=[3,6,10],m:=[54,55],t:=[35],r:=[21],p:=[(7,[(7,4),(8,4)]),(3,[(5,1),(5,7)]),(9,[(4,8),(4,9)])],z:=[(4,.qL 7 8),(18,.qL 7 13)]} Tryz.f8 [(x,[2,3,6,7,27,28]),(y,[2,3,6,7])])) aiG abn
def uS:aT:=kk (p:=Eq (o6 tb {b:=[3,4],m:=[72],p:=[(9,[(1,8),(9,8),(12,15),(100013,15),(1400013,15)])],z:=[(19,.qL 6 5)]} Tryz.f152 0 [0,3,4,6,7] [(0,[0,3,4,6])] []))
def rS:aL:=uA (p:=Eq (λx=>fC tb .mH 152 {b:=[3,4],m:=[72],p:=[(9,[(1,8),(9,8),(12,15),(100013,15),(1400013,15)])],z:=[(19,.qL 6 5)]} Tryz.f152 [(x,[0,3,4,6,7])])) uS
def Vz:aT:=kk (p:=Eq (o6 tb {b:=[5]} Tryz.f154 0 [0,1,5,7] [(0,[0,1,5])] []))
def VB:aT:=kk (p:=Eq (o6 tb {b:=[5]} Tryz.f154 1 [0,1,5,8] [(2,[5])] []))
def akM:aL:=kf2 (p:=Eq (λx y=>fC tb .mH 154 {b:=[5]} Tryz.f154 [(x,[0,1,5,7]),(y,[0,1,5,8])])) Vz VB
def abo:aT:=kk (p:=Eq (o6 tb {b:=[1]} Tryz.f36 0 [1,3] [(0,[1])] []))
def abp:aT:=kk (p:=Eq (o6 tb {b:=[1]} Tryz.f36 1 [1,4] [(2,[])] []))
def s36:aL:=kf2 (p:=Eq (λx y=>fC tb .pure 36 {b:=[1]} Tryz.f36 [(x,[1,3]),(y,[1,4])])) abo abp
def VC:aT:=kk (p:=Eq (o6 tb {b:=[4,7,9,12,14,15]} Tryz.f168 0 [2,4,16,17] [(1,[])] []))
def og:aL:=uA (p:=Eq (λx=>fC tb .mH 168 {b:=[4,7,9,12,14,15]} Tryz.f168 [(x,[2,4,16,17])])) VC
def abq:aT:=kk (p:=Eq (o6 tb {b:=[2,3],t:=[33]} Tryz.f33 0 [0,2,3] [(0,[0,2,3])] []))
def s33:aL:=uA (p:=Eq (λx=>fC tb .mH 33 {b:=[2,3],t:=[33]} Tryz.f33 [(x,[0,2,3])])) abq
def abr:aT:=kk (p:=Eq (o6 tb {b:=[2,5,8]} Tryz.f20 0 [6,44,45,46] [(0,[6])] []))
def s20:aL:=uA (p:=Eq (λx=>fC tb .pure 20 {b:=[2,5,8]} Tryz.f20 [(x,[6,44,45,46])])) abr
def abt:aT:=kk (p:=Eq (o6 tb {b:=[3,6]} Tryz.f25 0 [0,3,4,5] [(0,[0,3,4])] []))
def s25:aL:=uA (p:=Eq (λx=>fC tb .pure 25 {b:=[3,6]} Tryz.f25 [(x,[0,3,4,5])])) abt
def VD:aT:=kk (p:=Eq (o6 tb {} Tryz.f118 0 [1,5,8,9,10] [(0,[5])] []))
def akP:aL:=uA (p:=Eq (λx=>fC tb .mH 118 {} Tryz.f118 [(x,[1,5,8,9,10])])) VD
def VE:aT:=kk (p:=Eq (o6 tb {} Tryz.f138 0 [0,1,5,6] [(0,[5])] []))
def akQ:aL:=uA (p:=Eq (λx=>fC tb .AA 138 {} Tryz.f138 [(x,[0,1,5,6])])) VE
def Nz:aT:=kk (p:=Eq (o6 tb {} Tryz.f88 0 [0,1,5,6] [(0,[5])] []))
def s88:aL:=uA (p:=Eq (λx=>fC tb .mH 88 {} Tryz.f88 [(x,[0,1,5,6])])) Nz
def abu:aT:=kk (p:=Eq (o6 tb {} Tryz.f15 0 [0,1,5] [(0,[])] []))
def s15:aL:=uA (p:=Eq (λx=>fC tb .pure 15 {} Tryz.f15 [(x,[0,1,5])])) abu
def s13:aL:=kk (p:=Eq (fC tb .pure 13 {b:=[3,6,7,8],r:=[33],z:=[(5,.qL 9 12),(8,.qL 9 9)]} Tryz.f13 []))
def s57:aL:=kk (p:=Eq (fC tb .mH 57 {b:=[3],p:=[(1,[(7,3),(7,11),(7,15)])]} Tryz.f57 []))
def s77:aL:=kk (p:=Eq (fC tb .AA 77 {m:=[18,19,20],p:=[(3,[(4,6),(4,7)])]} Tryz.f77 []))
def s55:aL:=kk (p:=Eq (fC tb .mH 55 {b:=[3],p:=[(1,[(7,3),(7,11)])]} Tryz.f55 []))
def s69:aL:=kk (p:=Eq (fC tb .mH 69 {b:=[3],p:=[(1,[(3,9)])]} Tryz.f69 []))
def s92:aL:=kk (p:=Eq (fC tb .AA 92 {b:=[3],m:=[13]} Tryz.f92 []))
def abv:aL:=kk (p:=Eq (fC tb .mH 164 {b:=[2,3,5]} Tryz.f164 []))
def Ap:aL:=kk (p:=Eq (fC tb .pure 175 {b:=[1,3]} Tryz.f175 []))
def tY:aL:=kk (p:=Eq (fC tb .mH 167 {b:=[5,6]} Tryz.f167 []))
def akS:aL:=kk (p:=Eq (fC tb .pure 105 {b:=[1]} Tryz.f105 []))
def akT:aL:=kk (p:=Eq (fC tb .pure 155 {b:=[0]} Tryz.f155 []))
def akU:aL:=kk (p:=Eq (fC tb .pure 171 {b:=[2]} Tryz.f171 []))
def abw:aL:=kk (p:=Eq (fC tb .pure 185 {b:=[3]} Tryz.f185 []))
def NA:aL:=kk (p:=Eq (fC tb .AA 160 {b:=[3]} Tryz.f160 []))
def Ts:aL:=kk (p:=Eq (fC tb .pure 82 {b:=[4]} Tryz.f82 []))
def s51:aL:=kk (p:=Eq (fC tb .mH 51 {b:=[3]} Tryz.f51 []))
def s60:aL:=kk (p:=Eq (fC tb .AA 60 {b:=[3]} Tryz.f60 []))
def s68:aL:=kk (p:=Eq (fC tb .mH 68 {b:=[3]} Tryz.f68 []))
def abx:aL:=kk (p:=Eq (fC tb .pure 111 {} Tryz.f111 []))
def Tt:aL:=kk (p:=Eq (fC tb .pure 121 {} Tryz.f121 []))
def rT:aL:=kk (p:=Eq (fC tb .pure 166 {} Tryz.f166 []))
def af5:aL:=kk (p:=Eq (fC tb .mH 112 {} Tryz.f112 []))
def aby:aL:=kk (p:=Eq (fC tb .AA 116 {} Tryz.f116 []))
def abz:aL:=kk (p:=Eq (fC tb .mH 142 {} Tryz.f142 []))
def Tu:aL:=kk (p:=Eq (fC tb .mH 158 {} Tryz.f158 []))
def s18:aL:=kk (p:=Eq (fC tb .AA 18 {} Tryz.f18 []))
def s22:aL:=kk (p:=Eq (fC tb .AA 22 {} Tryz.f22 []))
def s39:aL:=kk (p:=Eq (fC tb .AA 39 {} Tryz.f39 []))
def s74:aL:=kk (p:=Eq (fC tb .mH 74 {} Tryz.f74 []))
end aO
namespace aO
open Ax An Go Go.Proofs
def Tv:aT:=kk (p:=Eq (o6 tb {b:=[5],m:=[77,92]} Tryz.f90 0 [0,1,4,5,6] [(2,[0,1,4,5])] []))
def Tw:aT:=kk (p:=Eq (o6 tb {b:=[5],m:=[77,92]} Tryz.f90 1 [0,1,4,9,10] [(5,[0,1,4])] []))
def tZ:aT:=kf2 (p:=Eq (λx y=>o6 tb {b:=[5],m:=[77,92]} Tryz.f90 2 [0,1,4] [(0,[])] [(x,[0,1,4,5,6]),(y,[0,1,4,9,10])])) Tv Tw
def s90:aL:=uA (p:=Eq (λx=>fC tb .AA 90 {b:=[5],m:=[77,92]} Tryz.f90 [(x,[0,1,4])])) tZ
def qT:aT:=kk (p:=Eq (o6 tb {b:=[3,4,5,6,8,13],t:=[75,87,230]} Tryz.f134 0 [0,3,4,5,6,7,10] [(0,[0,3,4,5,6,7])] []))
def NC:aT:=kk (p:=Eq (o6 tb {b:=[3,4,5,6,8,13],t:=[75,87,230]} Tryz.f134 1 [0,3,4,5,6,7,11,15] [(3,[0,3,4,5,6,7,11])] []))
def iY:aL:=kf2 (p:=Eq (λx y=>fC tb .mH 134 {b:=[3,4,5,6,8,13],t:=[75,87,230]} Tryz.f134 [(x,[0,3,4,5,6,7,10]),(y,[0,3,4,5,6,7,11,15])])) qT NC
def abA:aT:=kk (p:=Eq (o6 tb {b:=[1,2,3,4],m:=[31]} Tryz.f35 0 [2,3,5,6,7] [(2,[2,3,5,6])] []))
def abB:aT:=uA (p:=Eq (λx=>o6 tb {b:=[1,2,3,4],m:=[31]} Tryz.f35 1 [2,3,5] [(0,[2])] [(x,[2,3,5,6,7])])) abA
def s35:aL:=uA (p:=Eq (λx=>fC tb .pure 35 {b:=[1,2,3,4],m:=[31]} Tryz.f35 [(x,[2,3,5])])) abB
def abC:aT:=kk (p:=Eq (o6 tb {b:=[2,4]} Tryz.f84 0 [0,2,3] [(0,[0,2,3])] []))
def ND:aT:=kk (p:=Eq (o6 tb {b:=[2,4]} Tryz.f84 1 [0,2,3,4,5] [(3,[2,4])] []))
def s84:aL:=kf2 (p:=Eq (λx y=>fC tb .mH 84 {b:=[2,4]} Tryz.f84 [(x,[0,2,3]),(y,[0,2,3,4,5])])) abC ND
def abD:aT:=kk (p:=Eq (o6 tb {b:=[2,3,5,7],t:=[69,86,105]} Tryz.f11 0 [2,3,6,7] [(0,[2,3,6,7])] []))
def AB:aL:=uA (p:=Eq (λx=>fC tb .pure 11 {b:=[2,3,5,7],t:=[69,86,105]} Tryz.f11 [(x,[2,3,6,7])])) abD
def NF:aT:=kk (p:=Eq (o6 tb {b:=[2,5,7]} Tryz.f106 0 [1,2,5,70,71,72] [(0,[5])] []))
def HI:aL:=uA (p:=Eq (λx=>fC tb .pure 106 {b:=[2,5,7]} Tryz.f106 [(x,[1,2,5,70,71,72])])) NF
def VF:aT:=kk (p:=Eq (o6 tb {b:=[3,4]} Tryz.f174 0 [3,4,9,10,11] [(0,[4])] []))
def akV:aL:=uA (p:=Eq (λx=>fC tb .pure 174 {b:=[3,4]} Tryz.f174 [(x,[3,4,9,10,11])])) VF
def B8:aT:=kk (p:=Eq (o6 tb {b:=[3]} Tryz.f165 0 [0,3,5,6,7] [(0,[])] []))
def QC:aL:=uA (p:=Eq (λx=>fC tb .pure 165 {b:=[3]} Tryz.f165 [(x,[0,3,5,6,7])])) B8
def abE:aT:=kk (p:=Eq (o6 tb {b:=[1,4]} Tryz.f48 0 [1,6,7,8] [(0,[])] []))
def s48:aL:=uA (p:=Eq (λx=>fC tb .pure 48 {b:=[1,4]} Tryz.f48 [(x,[1,6,7,8])])) abE
def VG:aT:=kk (p:=Eq (o6 tb {} Tryz.f122 0 [0,1,2,7] [(0,[7])] []))
def akW:aL:=uA (p:=Eq (λx=>fC tb .pure 122 {} Tryz.f122 [(x,[0,1,2,7])])) VG
def VH:aT:=kk (p:=Eq (o6 tb {} Tryz.f126 0 [0,4,5] [(0,[4])] []))
def akX:aL:=uA (p:=Eq (λx=>fC tb .pure 126 {} Tryz.f126 [(x,[0,4,5])])) VH
def NG:aT:=kk (p:=Eq (o6 tb {} Tryz.f136 0 [0,2] [(0,[])] []))
def abF:aL:=uA (p:=Eq (λx=>fC tb .mH 136 {} Tryz.f136 [(x,[0,2])])) NG
def abG:aT:=kk (p:=Eq (o6 tb {} Tryz.f94 0 [0,1,4] [(0,[])] []))
def s94:aL:=uA (p:=Eq (λx=>fC tb .AA 94 {} Tryz.f94 [(x,[0,1,4])])) abG
def s75:aL:=kk (p:=Eq (fC tb .AA 75 {m:=[13,14,15],p:=[(1,[(4,8),(4,9)])]} Tryz.f75 []))
def af6:aL:=kk (p:=Eq (fC tb .mH 157 {b:=[3],t:=[10],p:=[(1,[(9,5)])]} Tryz.f157 []))
def s59:aL:=kk (p:=Eq (fC tb .mH 59 {b:=[3],p:=[(1,[(7,3),(7,11)])]} Tryz.f59 []))
def QD:aL:=kk (p:=Eq (fC tb .mH 149 {b:=[3,4,5,6]} Tryz.f149 []))
def s37:aL:=kk (p:=Eq (fC tb .mH 37 {b:=[3],t:=[10]} Tryz.f37 []))
def JR:aL:=kk (p:=Eq (fC tb .mH 129 {b:=[2,3,4]} Tryz.f129 []))
def XN:aL:=kk (p:=Eq (fC tb .pure 141 {b:=[3,5]} Tryz.f141 []))
def af7:aL:=kk (p:=Eq (fC tb .pure 177 {b:=[3,7]} Tryz.f177 []))
def af8:aL:=kk (p:=Eq (fC tb .mH 186 {b:=[4,5]} Tryz.f186 []))
def akY:aL:=kk (p:=Eq (fC tb .pure 140 {b:=[0]} Tryz.f140 []))
def gY:aL:=kk (p:=Eq (fC tb .pure 170 {b:=[5]} Tryz.f170 []))
def af9:aL:=kk (p:=Eq (fC tb .pure 184 {b:=[2]} Tryz.f184 []))
def rU:aL:=kk (p:=Eq (fC tb .mH 150 {b:=[3]} Tryz.f150 []))
def s21:aL:=kk (p:=Eq (fC tb .AA 21 {m:=[18]} Tryz.f21 []))
def s28:aL:=kk (p:=Eq (fC tb .mH 28 {b:=[5]} Tryz.f28 []))
def s53:aL:=kk (p:=Eq (fC tb .mH 53 {b:=[3]} Tryz.f53 []))
def s65:aL:=kk (p:=Eq (fC tb .mH 65 {b:=[3]} Tryz.f65 []))
def K0:aL:=kk (p:=Eq (fC tb .AA 91 {b:=[3]} Tryz.f91 []))
def abH:aL:=kk (p:=Eq (fC tb .pure 125 {} Tryz.f125 []))
def akZ:aL:=kk (p:=Eq (fC tb .mH 107 {} Tryz.f107 []))
def abI:aL:=kk (p:=Eq (fC tb .mH 113 {} Tryz.f113 []))
def XO:aL:=kk (p:=Eq (fC tb .AA 117 {} Tryz.f117 []))
def Tx:aL:=kk (p:=Eq (fC tb .AA 144 {} Tryz.f144 []))
def ak0:aL:=kk (p:=Eq (fC tb .mH 169 {} Tryz.f169 []))
def s19:aL:=kk (p:=Eq (fC tb .AA 19 {} Tryz.f19 []))
def s26:aL:=kk (p:=Eq (fC tb .mH 26 {} Tryz.f26 []))
def s41:aL:=kk (p:=Eq (fC tb .mH 41 {} Tryz.f41 []))
def s89:aL:=kk (p:=Eq (fC tb .mH 89 {} Tryz.f89 []))
end aO
namespace aO
open Ax An Go Go.Proofs
def tbl:List (Option aL):=[none,none,none,none,some s4,none,none,none,some s8,none,some s10,some AB,some s12,some s13,some s14,some s15,none,some Tr,some s18,some s19,some s20,some s21,some s22,none,none,some s25,some s26,some s27,some s28,some s29,some s30,some s31,some s32,some s33,some s34,some s35,some s36,some s37,some s38,some s39,some s40,some s41,none,none,some s44,none,some s46,some s47,some s48,some s49,some s50,some s51,some s52,some s53,some s54,some s55,some s56,some s57,some s58,some s59,some s60,some s61,some s62,some s63,some s64,some s65,some s66,some s67,some s68,some s69,some Pe,some s71,some s72,some s73,some s74,some s75,none,some s77,none,none,none,some s81,some Ts,some s83,some s84,some s85,some s86,some s87,some s88,some s89,some s90,some K0,some s92,some s93,some s94,none,none,none,none,none,none,none,none,none,some Nx,some akS,some HI,some akZ,some akL,some akC,some yB,some abx,some af5,some abI,some abl,some af1,some aby,some XO,some akP,some abk,some akA,some Tt,some akW,some akw,some Tn,some abH,some akX,some aku,some abm,some JR,some akD,some akJ,some akG,some Tm,some iY,some akH,some abF,some xV,some akQ,some FK,some akY,some XN,some abz,some akK,some Tx,some XL,some abj,some akB,some af3,some QD,some rU,some af2,some rS,some To,some akM,some akT,some aky,some af6,some Tu,some Tp,some NA,some akI,some wg,some oM,some abv,some QC,some rT,some tY,some og,some ak0,some gY,some akU,some akz,some aa9,some akV,some Ap,some Ny,some af7,some XK,some DG,some akv,some v9,some abe,some Tq,some af9,some abw,some af8,some akx,some af4,none,none,none,none,none,none,none,none,none,none,none,none,none,none,none,none,none]
def MN:List (Option aL):=[]
def S:Nat->Option aL:=ZC tbl MN
end aO
