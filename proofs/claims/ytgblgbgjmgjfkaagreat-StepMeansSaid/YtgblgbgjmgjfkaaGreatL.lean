/- Part of a proof. -/
import Derived.Test.YtgblgbgjmgjfkaaGreatCode1
import Derived.Test.YtgblgbgjmgjfkaaGreatA6

open List renaming any_eq_false->ak2,mem_iff_getElem->aec,drop_length->aep,getElem_mem->acH,length_drop->aiR,drop_take->alJ,any_eq_true->ajC,length_take->aiZ,length_eq_zero_iff->amo,length_cons->aeo,drop_drop->agO
open Nat renaming ble->alH,beq->aiF,eq_of_beq_eq_true->anb,ne_of_beq_eq_false->aob,le_refl->acO,add_sub_cancel_left->ahl,zero_le->ah7
open Int renaming natCast_add->aiH,cast_ofNat_Int->ajm
open Bool renaming false_eq_true->acC
set_option maxRecDepth 100000
set_option maxHeartbeats 4000000
namespace U2
open Ax Go aO
def o8(c:UInt8):Bool:=alH 97 c.toNat&&alH c.toNat 122||alH 65 c.toNat&&alH c.toNat 90
def uB(c:UInt8):Bool:=alH 48 c.toNat&&alH c.toNat 57
theorem xu(a b:Nat):alH a b=decide (a<=b):=by
 grind [Nat.le_of_ble_eq_true,Nat.ble_eq_true_of_le]
theorem FL(w k:Nat)(c:UInt8)(st:aj):(aZ S).call w k 121 [.int .u8 c.toNat] st=some (.bool (o8 c),st):=by
 refine bE (sf:=Tt) rfl rfl (by simp) rfl (by simp) ?_;simp only[o8,xu];generalize c.toNat=n;by_cases h:97<=n;by_cases o:n<=122;have j:(97:Int)<=n:=by omega
 have g:(n:Int)<=122:=by omega
 simp_all [Tt];have j:(97:Int)<=n:=by omega
 have g:¬(n:Int)<=122:=by omega
 have m:(65:Int)<=n:=by omega
 have y:¬(n:Int)<=90:=by omega
 have l:¬n<=90:=by omega
 simp[Tt,h,o,l,j,g,m,y];have j:¬(97:Int)<=n:=by omega
 by_cases H:65<=n;have m:(65:Int)<=n:=by omega
 by_cases l:n<=90;have y:(n:Int)<=90:=by omega
 simp[Tt,h,H,l,j,m,y];have y:¬(n:Int)<=90:=by omega
 simp[Tt,h,H,l,j,m,y];have m:¬(65:Int)<=n:=by omega
 simp[Tt,h,H,j,m]
theorem JS(w k:Nat)(c:UInt8)(st:aj):(aZ S).call w k 125 [.int .u8 c.toNat] st=some (.bool (uB c),st):=by
 refine bE (sf:=abH) rfl rfl (by simp) rfl (by simp) ?_;simp only[uB,xu];generalize c.toNat=n;by_cases h:48<=n;have j:(48:Int)<=n:=by omega
 by_cases H:n<=57;have g:(n:Int)<=57:=by omega
 simp_all [abH];have g:¬(n:Int)<=57:=by omega
 simp[abH,h,H,j,g];have j:¬(48:Int)<=n:=by omega
 simp[abH,h,j]
def JT:List (List UInt8):=[[114,101,99,111,114,100],[103,108,111,98,97,108],[102,117,110,99],[118,97,114],[108,101,116],[105,102],[101,108,115,101],[119,104,105,108,101],[114,101,116,117,114,110],[112,114,105,110,116],[110,117,108,108],[110,101,119],[108,101,110],[114,101,97,100],[116,114,117,101],[102,97,108,115,101],[105,110,116],[98,111,111,108]]
def p8(l:List (List UInt8)):List (List AV):=l.map λw=>[.str w]
theorem abJ(w k:Nat)(st:aj):(aZ S).call w k 147 [] st=some (.dV 1 (p8 JT),st):=by
 refine bE (sf:=akB) rfl rfl (by simp) rfl (by simp) ?_;simp[akB,p8,JT]
def eqB:List UInt8->List UInt8->Bool
 |[],[]=>true|a::x,b::y=>aiF a.toNat b.toNat&&eqB x y|_,_=>false
theorem abK:∀x y:List UInt8,eqB x y=decide (x=y)
 |[],[]=>rfl|[],_::_=>rfl|_::_,[]=>rfl|a::x,b::y=>by
  have h:aiF a.toNat b.toNat=decide (a=b):=by
   grind [UInt8.toNat_inj,anb,aob]
  rw[eqB,abK x y,h]
  grind
def NH(s:List UInt8):List (List UInt8)->Bool
 |[]=>false|w::l=>eqB w s||NH s l
theorem Ba(s:List UInt8):∀l,NH s l=l.any λw=>decide (w=s)
 |[]=>rfl|w::l=>by rw[NH,abK,Ba s l];rfl
def DH(t:List UInt8):Bool:=NH t JT
theorem GX(l:List (List UInt8))(k:Nat)(h:k<l.length)(M:k<(p8 l).length):(p8 l)[k]'M=[.str (l[k]'h)]:=by
 simp[p8]
theorem VI(W g:Nat)(t:List UInt8)(st:aj):(aZ S).call W g 123 [.str t] st=some (.bool (DH t),st):=by
 have E:=abJ 0 0 [];refine bE (sf:=akw) rfl rfl (by simp) rfl (by simp) ?_;unfold DH;have l:JT.length<1000:=by decide
 generalize JT=L at *;simp[akw,E];have T:(p8 L).length=L.length:=by simp[p8]
 refine bN Vp.eq_1 (λk:Nat=>⟨[(0,.val (.str t)),(3,.val (.dV 1 (p8 L))),(4,.val (.int .i64 k))],[],[]⟩)
  (λk=>k<=L.length/\∀j (h:j<L.length),j<k->L[j]≠t) (λk=>L.length-k) 0 (by simp) ⟨by simp,λ_ _ h=>au h (by omega)⟩ ?_
 intro k ⟨n,o⟩ I;by_cases F:k<L.length;have H:=wk k (by omega);have M:(k:Int)<(L.length:Int):=by omega
 have O:=GX L k F;by_cases U:L[k]=t;have m:NH t L=true:=by
  grind [Ba]
 simp_all;simp[T,F,O,U,H,AV.ai];exact I (k+1) ⟨by omega,λj X h=>by
  grind⟩ (by omega)
 have G:k=L.length:=by omega
 have m:NH t L=false:=by
  rw[Ba,ak2];intro w H;obtain⟨j,X,rfl⟩:=aec.1 H
  grind
 simp_all
def pR(d:Bool)(c:UInt8):Bool:=uB c || !d&&o8 c
def yC(d:Bool):List UInt8->Nat
 |[]=>0|c::l=>if pR d c then yC d l+1 else 0
theorem En(d:Bool):∀l,yC d l<=l.length
 |[]=>acO _|c::l=>by
  simp only[yC];have:=En d l
  grind
theorem QE(d:Bool):∀l:List UInt8,∀c∈l.take (yC d l),pR d c=true
 |[],c,h=>by grind|a::l,c,h=>by
  simp only[yC]at h;split at h;rename_i j;simp only[List.take_succ_cons,List.mem_cons]at h;rcases h with rfl|h;exact j;exact QE d l c h;simp at h
theorem tw{s:List UInt8}{n:Nat}(h:n<s.length):s.drop n=s[n]::s.drop (n+1):=by simp_all
theorem JU(wl ah:Nat)(s:List UInt8)(at_:Nat)(d:Bool)(st:aj)(p:at_<=s.length)(w:s.length<1000000000) :
  (aZ S).call wl ah 122 [.str s,.int .i64 at_,.bool d] st=some (.int .i64 (yC d (s.drop at_)),st):=by
 have l:=λwl ah c st=>FL wl ah c st;have g:=λwl ah c st=>JS wl ah c st;refine bE (sf:=akW) rfl rfl (by simp) rfl (by simp) ?_;simp[akW];refine bN VG.eq_1 (λn:Nat=>⟨[(0,.val (.str s)),(1,.val (.int .i64 at_)),(2,.val (.bool d)),(7,.val (.int .i64 n))],[],[]⟩)
  (λn=>at_+n<=s.length/\yC d (s.drop at_)=n+yC d (s.drop (at_+n))) (λn=>s.length-(at_+n)) 0 (by simp) ⟨by omega,by simp⟩ ?_
 intro n ⟨v,k⟩ I;have m:=wk n (by omega);have x:IntKind.i64.wrap ((at_:Int)+(n:Int))=((at_+n:Nat):Int):=by rw[dY]<;>omega
 by_cases F:at_+n<s.length;have M:(at_:Int)+(n:Int)<(s.length:Int):=by omega
 have r:(0:Int)<=(at_:Int)+(n:Int):=by omega
 have h:((at_:Int)+(n:Int)).toNat=at_+n:=by omega
 have o:=tw F;generalize H:s[at_+n]=c at *;have t:yC d (s.drop (at_+n))=if pR d c then yC d (s.drop (at_+(n+1)))+1 else 0:=by rw[o];rfl
 cases E:uB c with
 |true=>
  have j:pR d c=true:=by simp[pR,E]
  rw[j,af rfl]at t;simp[m,x,F,M,r,h,H,g,E];exact I (n+1) ⟨by omega,by grind⟩ (by omega)
 |false=>
  cases d with
  |true=>
   have j:pR true c=false:=(by simp[pR,E]);rw[j]at t;simp[x,F,M,r,h,H,g,E,k,t]
  |false=>
   cases q:o8 c with
   |true=>
    have j:pR false c=true:=(by simp[pR,q]);rw[j,af rfl]at t;simp[m,x,F,M,r,h,H,g,l,E,q];exact I (n+1) ⟨by omega,by grind⟩ (by omega)
   |false=>
    have j:pR false c=false:=(by simp[pR,E,q]);rw[j]at t;simp[x,F,M,r,h,H,g,l,E,q,k,t]
 have z:at_+n=s.length:=by omega
 have M:¬(at_:Int)+(n:Int)<(s.length:Int):=by omega
 have U:yC d (s.drop (at_+n))=0:=by rw[z,aep];rfl
 simp[x,M,k,U]
end U2
namespace U2
open Ax Go aO
def zo(t:List UInt8):Bool:=match t with
 |[]=>false|c::_=>alH t.length 8&&o8 c && !DH t&&t.all λc=>o8 c||uB c
theorem abL{c:UInt8}{l:List UInt8}(n:l.length+1<=8)(h:o8 c=true)(H:DH (c::l)=false):zo (c::l)=(c::l).all λc=>o8 c||uB c:=by
 simp[zo,xu,n,h,H]
theorem qU(w g:Nat)(t:List UInt8)(st:aj)(L:t.length<1000000000):(aZ S).call w g 124 [.str t] st=some (.bool (zo t),st):=by
 have r:=VI 0 0 t [];have E:=λw g c st=>FL w g c st;have z:=λw g c st=>JS w g c st;obtain⟨v,p⟩:∃v,zo t=v:=⟨_,rfl⟩;rw[p];refine bE (sf:=Tn) rfl rfl (by simp) rfl (by simp) ?_;cases t with
 |nil=>
  have C:v=false:=p.symm;simp[Tn,C]
 |cons c l=>
  have n:¬((l.length:Int)+1<1):=by omega
  by_cases B:l.length+1<=8;have H:¬(8:Int)<(l.length:Int)+1:=by omega
  cases m:o8 c with
  |false=>
   have C:v=false:=(by grind [zo]);simp[Tn,n,H,E,m,C]
  |true=>
   cases q:DH (c::l) with
   |true=>
    have C:v=false:=(by grind [zo]);simp[Tn,n,H,E,m,r,q,C]
   |false=>
    rw[abL B m q]at p;simp[Tn,n,H,E,m,r,q];refine bN Vq.eq_1 (λk:Nat=>⟨[(0,.val (.str (c::l))),(3,.val (.int .i64 k))],[],[]⟩)
     (λk=>k<=(c::l).length/\∀j (h:j<(c::l).length),j<k->(o8 (c::l)[j]||uB (c::l)[j])=true) (λk=>(c::l).length-k) 0 (by simp) ⟨by simp,λ_ _ h=>au h (by omega)⟩ ?_
    generalize c::l=T at *;intro k ⟨J,K⟩ I;by_cases F:k<T.length;have s:=wk k (by omega);have no:(o8 T[k]||uB T[k])=false->v=false:=λh=>by
     grind
    have yes:(o8 T[k]||uB T[k])=true->∀j (h:j<T.length),j<k+1->(o8 T[j]||uB T[j])=true:=λh j X U=>by
     grind
    cases o:o8 T[k] with
    |true=>
     simp[F,E,o,s];exact I (k+1) ⟨by omega,yes (by rw[o];rfl)⟩ (by omega)
    |false=>
     cases y:uB T[k] with
     |true=>
      simp[F,E,z,o,y,s];exact I (k+1) ⟨by omega,yes (by grind)⟩ (by omega)
     |false=>
      simp_all
    have G:k=T.length:=(by omega);have C:v=true:=by
     rw[<-p,List.all_eq_true];intro x D;obtain⟨j,X,rfl⟩:=aec.1 D
     grind
    simp_all
  have H:(8:Int)<(l.length:Int)+1:=by omega
  have C:v=false:=by grind [zo,xu]
  simp[Tn,n,H,C]
def zp:Nat->List UInt8->Option Nat
 |n,[]=>some n|n,c::l=>if alH n ((9223372036854775807-(c.toNat-48)) / 10) then zp (10*n+(c.toNat-48)) l else none
theorem Mh{P:Nat->Prop}(h:P 0/\P 1/\P 2/\P 3/\P 4/\P 5/\P 6/\P 7/\P 8/\P 9)(k:Nat)(m:k<=9):P k:=by
 obtain⟨r,H,g,j,l,V,z,Y,n,p⟩:=h;have:k=0\/k=1\/k=2\/k=3\/k=4\/k=5\/k=6\/k=7\/k=8\/k=9:=by omega
 grind
theorem aga(k:Nat)(j:k<=9):IntKind.u8.wrap (((48+k:Nat):Int)-48)=(k:Int):=
 Mh (P:=λk=>IntKind.u8.wrap (((48+k:Nat):Int)-48)=(k:Int)) (by refine⟨?_,?_,?_,?_,?_,?_,?_,?_,?_,?_⟩<;>rfl) k j
theorem agb(k:Nat)(j:k<=9):IntKind.i64.wrap (Int.tdiv (IntKind.i64.wrap (9223372036854775807-(k:Int))) 10)=(((9223372036854775807-k) / 10:Nat):Int):=
 Mh (P:=λk=>IntKind.i64.wrap (Int.tdiv (IntKind.i64.wrap (9223372036854775807-(k:Int))) 10)=(((9223372036854775807-k) / 10:Nat):Int)) (by refine⟨?_,?_,?_,?_,?_,?_,?_,?_,?_,?_⟩<;>rfl) k j
theorem abM(W s:Nat)(t:List UInt8)(st:aj)(X:t.length<1000000000)(z:∀c∈t,uB c=true) :
  (aZ S).call W s 126 [.str t] st=some (match zp 0 t with|some n=>.eY [.int .i64 n,.bool true]|none=>.eY [.int .i64 0,.bool false],st):=by
 obtain⟨v,D⟩:∃v,zp 0 t=v:=⟨_,rfl⟩;rw[D];refine bE (sf:=akX) rfl rfl (by simp) rfl (by cases v<;>simp_all) ?_;simp[akX];refine bN VH.eq_1 (λq:Nat×Nat=>⟨[(0,.val (.str t)),(4,.val (.int .i64 q.2)),(5,.val (.int .i64 q.1))],[],[]⟩)
  (λq=>q.1<=t.length/\q.2<=9223372036854775807/\zp q.2 (t.drop q.1)=v) (λq=>t.length-q.1) (0,0) (by simp) ⟨by simp,by simp,by grind⟩ ?_
 rintro⟨k,n⟩ ⟨B,C,H⟩ I;simp only at B C H I;by_cases F:k<t.length;have J:=wk k (by omega);have y:=z _ (acH F);rw[tw F]at H;generalize l:t[k]=c at *;simp only[uB,xu,Bool.and_eq_true,aA]at y;simp only[zp,xu]at H;obtain⟨m,r⟩:∃m,c.toNat=48+m:=⟨c.toNat-48,by omega⟩;have j:m<=9:=by omega
 have E:=aga m j;have w:=agb m j;have x:IntKind.i64.wrap (m:Int)=(m:Int):=by rw[dY]<;>omega
 rw[r,ahl]at H;have K:(9223372036854775807-m) / 10<=922337203685477580:=by omega
 generalize L:(9223372036854775807-m) / 10=q at *;by_cases h:n<=q;have g:¬(q:Int)<(n:Int):=by omega
 have o:IntKind.i64.wrap (10*(n:Int))=((10*n:Nat):Int):=by rw[dY]<;>omega
 have p:IntKind.i64.wrap (((10*n:Nat):Int)+(m:Int))=((10*n+m:Nat):Int):=by rw[dY]<;>omega
 rw[cz h,af rfl]at H;simp only[Int.natCast_mul,aiH,ajm]at E o p;simp[F,l,r,E,w,x,o,p,g,J];exact I (k+1,10*n+m) ⟨by simp;omega,by simp;omega,H⟩ (by simp;omega);have g:(q:Int)<(n:Int):=by omega
 rw[eX h]at H;simp only[acC,br]at H;subst H;simp_all;have G:k=t.length:=by omega
 subst G;rw[aep]at H;simp only[zp]at H;subst H;simp
end U2
namespace U2
open Ax Go aO
def abN:List (List UInt8):=[[60,61],[61,61],[33,61],[38,38],[124,124]]
def VJ:List UInt8:=[123,125,40,41,91,93,59,58,44,46,61,43,45,42,47,37,60,33]
def XP(c:UInt8):List UInt8->Bool
 |[]=>false|a::l=>aiF c.toNat a.toNat||XP c l
theorem Eo(a b:Nat):aiF a b=decide (a=b):=by
 grind [anb,aob]
theorem JV(c:UInt8):∀l,XP c l=l.any λa=>decide (c.toNat=a.toNat)
 |[]=>rfl|a::l=>by rw[XP,Eo,JV c l];rfl
def GY(l:List UInt8):List UInt8:=if NH (l.take 2) abN then l.take 2 else match l with
 |[]=>[]
 |c::_=>if XP c VJ then [c] else []
theorem agc(wl M:Nat)(s:List UInt8)(at_:Nat)(st:aj)(q:at_<s.length)(hs:s.length<1000000000) :
  (aZ S).call wl M 127 [.str s,.int .i64 at_] st=some (.str (GY (s.drop at_)),st):=by
 obtain⟨v,p⟩:∃v,GY (s.drop at_)=v:=⟨_,rfl⟩;rw[p];refine bE (sf:=aku) rfl rfl (by simp) rfl (by simp) ?_;have o:∀w∈abN,w.length=2:=by decide
 have R:abN.length<1000:=by decide
 have Y:VJ.length<1000:=by decide
 have m:(AV.dV 1 [[AV.str [60,61]],[AV.str [61,61]],[AV.str [33,61]],[AV.str [38,38]],[AV.str [124,124]]])=.dV 1 (p8 abN):=rfl;have Z:([123,125,40,41,91,93,59,58,44,46,61,43,45,42,47,37,60,33]:List UInt8)=VJ:=rfl;simp[aku];rw[m];unfold GY at p;generalize abN=L at *;have T:(p8 L).length=L.length:=by simp[p8]
 have r:(s.drop at_).length=s.length-at_:=aiR;refine bN Vl.eq_1 (λk:Nat=>⟨[(0,.val (.str s)),(1,.val (.int .i64 at_)),(5,.val (.dV 1 (p8 L))),(6,.val (.int .i64 k))],[],[]⟩)
  (λk=>k<=L.length/\∀j (h:j<L.length),j<k->L[j]≠(s.drop at_).take 2) (λk=>L.length-k) 0 (by simp) ⟨by simp,λ_ _ h=>au h (by omega)⟩ ?_
 intro k ⟨D,l⟩ I;have W:IntKind.i64.wrap ((s.length:Int)-(at_:Int))=(s.length:Int)-(at_:Int):=by rw[dY]<;>omega
 have J:IntKind.i64.wrap ((at_:Int)+2)=(at_:Int)+2:=by rw[dY]<;>omega
 by_cases F:k<L.length;have H:=wk k (by omega);have O:=GX L k F;have G:L[k]≠(s.drop at_).take 2->∀j (h:j<L.length),j<k+1->L[j]≠(s.drop at_).take 2:=λh j X uy=>by
  by_cases n:j=k;subst n;exact h;exact l j X (by omega)
 by_cases h2:at_+2<=s.length;have z:(2:Int)<=(s.length:Int)-(at_:Int):=by omega
 have B:(at_:Int)+2<=(s.length:Int):=by omega
 have y:(at_:Int)<=(at_:Int)+2:=by omega
 have C:((at_:Int)+2).toNat=at_+2:=by omega
 have V:(s.take (at_+2)).drop at_=(s.drop at_).take 2:=by rw[alJ,ahl]
 by_cases U:(s.drop at_).take 2=L[k];have g:NH ((s.drop at_).take 2) L=true:=by
  rw[Ba,ajC];exact⟨_,acH F,by simp[U]⟩
 rw[g,af rfl]at p;simp[T,F,W,J,z,B,y,C,V,O,U,AV.ai,aD,aC];rw[<-p,U];simp[T,F,W,J,z,B,y,C,V,O,U,H,AV.ai,aD,aC];exact I (k+1) ⟨by omega,G λe=>U e.symm⟩ (by omega);have z:¬(2:Int)<=(s.length:Int)-(at_:Int):=by omega
 simp[T,F,W,z,H,aD,aC];refine I (k+1) ⟨by omega,G λe=>?_⟩ (by omega);have E:=o _ (acH F);rw[e,aiZ,r]at E;omega;have Q:k=L.length:=by omega
 have g:NH ((s.drop at_).take 2) L=false:=by
  rw[Ba,ak2];intro w H;obtain⟨j,X,rfl⟩:=aec.1 H;simpa using l j X (by omega)
 rw[g,tw q]at p;simp only[acC,br]at p;simp[T,F];rw[Z];generalize VJ=N at *;refine bN Vm.eq_1 (λk:Nat=>⟨[(0,.val (.str s)),(1,.val (.int .i64 at_)),(7,.val (.str N)),(8,.val (.int .i64 k))],[],[]⟩)
  (λk=>k<=N.length/\∀j (h:j<N.length),j<k->s[at_].toNat≠N[j].toNat) (λk=>N.length-k) 0 (by simp) ⟨by simp,λ_ _ h=>au h (by omega)⟩ ?_
 clear I l D;intro k ⟨D,l⟩ I;by_cases F:k<N.length;have H:=wk k (by omega);by_cases U:s[at_].toNat=N[k].toNat;have g:XP s[at_] N=true:=by
  rw[JV,ajC];exact⟨_,acH F,by simp[U]⟩
 rw[g,af rfl]at p;have E:s[at_]=N[k]:=UInt8.toNat_inj.1 U;have P:(N.take (k+1)).drop k=[N[k]]:=by rw[alJ,ahl,tw F];rfl
 have t:((k:Int)+1).toNat=k+1:=by omega
 have qI:(k:Int)<=(k:Int)+1:=by omega
 have x:(k:Int)+1<=(N.length:Int):=by omega
 have K:IntKind.i64.wrap ((k:Int)+1)=(k:Int)+1:=by rw[dY]<;>omega
 simp[q,F,U,K,t,qI,x,P,aD,aC];rw[<-p,E];simp[q,F,U,H,aD,aC];exact I (k+1) ⟨by omega,λj X uy=>by
  by_cases n:j=k;subst n;exact U;exact l j X (by omega)⟩ (by omega)
 have Q:k=N.length:=by omega
 have g:XP s[at_] N=false:=by
  rw[JV,ak2];intro w H;obtain⟨j,X,rfl⟩:=aec.1 H;simpa using l j X (by omega)
 rw[g]at p;simp only[acC,br]at p;simp[F,p]
end U2
namespace U2
open Ax Go aO
def GZ(c:UInt8):Bool:=aiF c.toNat 32||aiF c.toNat 9||aiF c.toNat 10||aiF c.toNat 13
def zq:List UInt8->Nat
 |[]=>0|c::l=>if aiF c.toNat 10 then 0 else zq l+1
def Ep:List UInt8->Bool
 |a::b::_=>aiF a.toNat 47&&aiF b.toNat 47|_=>false
def wh:Nat->List UInt8->Nat
 |0,_=>0|_+1,[]=>0|n+1,c::l=>if GZ c then wh n l+1 else if Ep (c::l) then zq (c::l)+wh n ((c::l).drop (zq (c::l))) else 0
def jP(l:List UInt8):Nat:=wh l.length l
theorem VK:∀l,zq l<=l.length
 |[]=>acO _|c::l=>by
  simp only[zq];have:=VK l
  grind
variable{c:UInt8}{l:List UInt8}
theorem JW(h:Ep (c::l)=true):0<zq (c::l):=by
 cases l with
 |nil=>cases h|cons d l=>
  simp_all [Ep,zq]
theorem Bb:∀(n m:Nat)(l:List UInt8),l.length<=n->l.length<=m->wh n l=wh m l
 |0,m,l,h,_=>by
  have:l=[]:=amo.1 (by omega);subst this;cases m<;>rfl
 |n+1,0,l,_,h=>by
  have:l=[]:=amo.1 (by omega);subst this;rfl
 |n+1,m+1,[],_,_=>rfl|n+1,m+1,c::l,H,g=>by
  simp only[aeo]at H g;simp only[wh];rw[Bb n m l (by omega) (by omega)];split
  rfl
  split;rename_i j;have k:=JW j;rw[Bb n m _ (by grind) (by grind)]
  rfl
theorem QF(h:GZ c=true):jP (c::l)=jP l+1:=by
 simp[jP,wh,h]
theorem XQ(h:GZ c=false)(H:Ep (c::l)=true):jP (c::l)=zq (c::l)+jP ((c::l).drop (zq (c::l))):=by
 have j:=JW H;simp only[jP,aeo,wh,h,H,acC,br,bh];rw[Bb l.length _ _ (by grind) (acO _)]
theorem Tz(h:GZ c=false)(H:Ep (c::l)=false):jP (c::l)=0:=by
 simp[jP,wh,h,H]
theorem FM:∀(n:Nat)(l:List UInt8),wh n l<=l.length
 |0,_=>ah7 _|_+1,[]=>ah7 _|n+1,c::l=>by
  simp only[wh];have h:=FM n l;have H:=FM n ((c::l).drop (zq (c::l)));have j:=VK (c::l)
  grind
theorem Er(l:List UInt8):jP l<=l.length:=FM _ _
theorem TA(l:List UInt8):Ep l=decide (l.take 2=[47,47]):=by
 have h:∀a:UInt8,decide (a.toNat=47)=decide (a=47):=λa=>by
  have:a.toNat=47↔a=47:=⟨λh=>UInt8.toNat_inj.1 h,λh=>by rw[h];rfl⟩
  grind
 match l with
 |[]=>rfl|[a]=>simp[Ep]|a::b::l=>
  grind [Ep,Eo]
theorem QG(wl ah:Nat)(s:List UInt8)(qD:Nat)(st:aj)(ha:qD<=s.length)(hs:s.length<1000000000) :
  (aZ S).call wl ah 81 [.str s,.int .i64 qD] st=some (.int .i64 ((qD+jP (s.drop qD):Nat):Int),st):=by
 obtain⟨v,T⟩:∃v,qD+jP (s.drop qD)=v:=⟨_,rfl⟩;rw[T];refine bE (sf:=s81) rfl rfl (by simp) rfl (by simp) ?_;simp[s81];refine bN abg.eq_1 (λk:Nat=>⟨[(0,.val (.str s)),(1,.val (.int .i64 k))],[],[]⟩)
  (λk=>k<=s.length/\k+jP (s.drop k)=v) (λk=>s.length-k) qD (by simp) ⟨ha,T⟩ ?_
 intro k ⟨hk,J⟩ I;by_cases F:k<s.length;have w:=wk k (by omega);have W:IntKind.i64.wrap ((s.length:Int)-(k:Int))=(s.length:Int)-(k:Int):=by rw[dY]<;>omega
 have Z:IntKind.i64.wrap ((k:Int)+2)=(k:Int)+2:=by rw[dY]<;>omega
 have hd:=tw F;have step:GZ s[k]=true->k+1+jP (s.drop (k+1))=v:=λh=>by
  grind [QF]
 have hwh:GZ s[k]=(decide (s[k].toNat=32)||decide (s[k].toNat=9)||decide (s[k].toNat=10)||decide (s[k].toNat=13)):=by simp only[GZ,Eo]
 have G:(s.drop k).length=s.length-k:=aiR;have g:=TA (s.drop k);generalize q:s[k].toNat=n at *;by_cases Q:n=32;simp[F,q,Q,w];exact I (k+1) ⟨by omega,step (by grind)⟩ (by omega);by_cases n9:n=9;simp[F,q,n9,w];exact I (k+1) ⟨by omega,step (by grind)⟩ (by omega);by_cases O:n=10;simp[F,q,O,w];exact I (k+1) ⟨by omega,step (by grind)⟩ (by omega);by_cases P:n=13;simp[F,q,P,w];exact I (k+1) ⟨by omega,step (by grind)⟩ (by omega);have K:GZ s[k]=false:=by grind
 have p:¬(n:Int)=32:=by omega
 have x:¬(n:Int)=9:=by omega
 have l:¬(n:Int)=10:=by omega
 have o:¬(n:Int)=13:=by omega
 cases t:Ep (s.drop k) with
 |false=>
  have U:v=k:=by
   grind [Tz]
  by_cases h2:k+2<=s.length;have z:(2:Int)<=(s.length:Int)-(k:Int):=by omega
  have C:(k:Int)+2<=(s.length:Int):=by omega
  have y:(k:Int)<=(k:Int)+2:=by omega
  have D:((k:Int)+2).toNat=k+2:=by omega
  have V:(s.take (k+2)).drop k=(s.drop k).take 2:=by rw[alJ,ahl]
  rw[t]at g;have r:¬(s.drop k).take 2=[47,47]:=of_decide_eq_false g.symm;simp[F,q,p,x,l,o,W,Z,z,C,y,D,V,r,U];have z:¬(2:Int)<=(s.length:Int)-(k:Int):=by omega
  simp[F,q,p,x,l,o,W,z,U]
 |true=>
  rw[t]at g;have r:(s.drop k).take 2=[47,47]:=of_decide_eq_true g.symm;have h2:k+2<=s.length:=by
   have:=congrArg List.length r;rw[aiZ,G]at this;simp at this;omega
  have z:(2:Int)<=(s.length:Int)-(k:Int):=by omega
  have C:(k:Int)+2<=(s.length:Int):=by omega
  have y:(k:Int)<=(k:Int)+2:=by omega
  have D:((k:Int)+2).toNat=k+2:=by omega
  have V:(s.take (k+2)).drop k=(s.drop k).take 2:=by rw[alJ,ahl]
  have aBe:0<zq (s.drop k):=by grind [JW]
  have pI:k+zq (s.drop k)+jP (s.drop (k+zq (s.drop k)))=v:=by
   have e:=J;rw[hd]at t e;rw[XQ K t]at e
   grind [agO]
  simp[F,q,p,x,l,o,W,Z,z,C,y,D,V,r];refine bN abf.eq_1 (λj:Nat=>⟨[(0,.val (.str s)),(1,.val (.int .i64 j))],[],[]⟩)
   (λj=>k<=j/\j<=s.length/\j+zq (s.drop j)=k+zq (s.drop k)) (λj=>s.length-j) k (by simp) ⟨by omega,by omega,rfl⟩ ?_
  intro j ⟨hkj,hj,hjr⟩ N;have X:j=k+zq (s.drop k)->j<=s.length/\j+jP (s.drop j)=v:=λh=>⟨hj,by grind⟩;by_cases Y:j<s.length;have L:=wk j (by omega);have E:=tw Y;have H:zq (s.drop j)=if aiF s[j].toNat 10 then 0 else zq (s.drop (j+1))+1:=by rw[E];rfl
  rw[Eo]at H;generalize R:s[j].toNat=m at *;by_cases M:m=10;rw[cz M,af rfl]at H;simp[Y,R,M];exact I j (X (by omega)) (by omega);have B:¬(m:Int)=10:=by omega
  rw[eX M]at H;simp only[acC,br]at H;simp[Y,R,B,L];exact N (j+1) ⟨by omega,by omega,by omega⟩ (by omega);have uy:j=s.length:=by omega
  have H:zq (s.drop j)=0:=by rw[uy,aep];rfl
  simp[Y];exact I j (X (by omega)) (by omega)
 have gW:k=s.length:=by omega
 subst gW;rw[aep]at J;have:v=s.length:=by rw[<-J];rfl
 simp[this]
end U2
namespace U2
open Ax Go aO
abbrev Aq(k:Int)(t:List UInt8)(n:Int)(a:Nat):List AV:=[.int .i64 k,.str t,.int .i64 n,.int .i64 a]
def j9:List AV:=Aq 0 [] 0 0
def xy(a:Nat)(t:List UInt8)(n:Nat):List AV×Nat:=if DH t then (Aq 3 t 0 a,n) else if zo t then (Aq 1 t 0 a,n) else (j9,0)
def zu(l:List UInt8)(n:Nat):Bool:=match l.drop n with|d::_=>o8 d | []=>false
def zv(a:Nat)(c:UInt8)(l:List UInt8)(n:Nat):List AV×Nat:=match zp 0 (l.take n) with
 |none=>(j9,0)
 |some v=>if alH 2 n&&aiF c.toNat 48||zu l n then (j9,0) else (Aq 2 [] v a,n)
def zw(a:Nat)(t:List UInt8):List AV×Nat:=match t with
 |[]=>(j9,0)
 |_=>(Aq 4 t 0 a,t.length)
def yD(a:Nat)(l:List UInt8):List AV×Nat:=match l with
 |[]=>(j9,0)
 |c::_=>if o8 c then xy a (l.take (yC false l)) (yC false l) else if uB c then zv a c l (yC true l) else zw a (GY l)
theorem QH(s:List UInt8)(a n:Nat):(s.take (a+n)).drop a=(s.drop a).take n:=by rw[alJ,ahl]
theorem TB(w g:Nat)(s:List UInt8)(a:Nat)(st:aj)(p:a<s.length)(hs:s.length<1000000000) :
  (aZ S).call w g 82 [.str s,.int .i64 a] st=some (.eY [.agg (yD a (s.drop a)).1,.int .i64 (yD a (s.drop a)).2],st):=by
 have hd:=tw p;have r:=λw g c st=>FL w g c st;have C:=λw g c st=>JS w g c st;have E:=λd=>JU 0 0 s a d [] (by omega) hs;have L:∀d,yC d (s.drop a)<=s.length-a:=λd=>by
  grind [En]
 obtain⟨z,h⟩:∃z,yD a (s.drop a)=z:=⟨_,rfl⟩;rw[h];have nZ:yD a (s.drop a)=if o8 s[a] then xy a ((s.drop a).take (yC false (s.drop a))) (yC false (s.drop a)) else if uB s[a] then zv a s[a] (s.drop a) (yC true (s.drop a)) else zw a (GY (s.drop a)):=by
  rw[hd];rfl
 rw[nZ]at h;refine bE (sf:=Ts) rfl rfl (by simp) rfl ?_ ?_;have hp:(AV.agg z.1).aH=true:=by
  rw[<-h];have K:∀k t n a,(AV.agg (Aq k t n a)).aH=true:=λ_ _ _ _=>by simp_all
  have H:∀a t n,(AV.agg (xy a t n).1).aH=true:=λa t n=>by
   grind [xy,j9]
  have m:∀a c l n,(AV.agg (zv a c l n).1).aH=true:=λa c l n=>by
   grind [zv,j9]
  have o:∀a t,(AV.agg (zw a t).1).aH=true:=λa t=>by
   unfold zw j9
   grind
  grind
 simp_all;cases j:o8 s[a] with
 |true=>
  rw[j,af rfl]at h;have hn:=L false;have E:=E false;generalize V:yC false (s.drop a)=n at *;have W:IntKind.i64.wrap ((a:Int)+(n:Int))=((a+n:Nat):Int):=by rw[dY]<;>omega
  have H:(a:Int)<=(a:Int)+(n:Int):=by omega
  have m:(a:Int)+(n:Int)<=(s.length:Int):=by omega
  have o:((a:Int)+(n:Int)).toNat=a+n:=by omega
  have T:=QH s a n;have R:((s.drop a).take n).length<1000000000:=by grind
  generalize Mi:(s.drop a).take n=t at *;have U:=λw g st=>VI w g t st;have en:=λw g st=>qU w g t st R;unfold xy at h;cases J:DH t with
  |true=>
   rw[J,af rfl]at h;subst h;simp[Ts,p,r,j,E,W,H,m,o,T,U,J]
  |false=>
   cases M:zo t with
   |true=>
    rw[J,M]at h;simp only[acC,br,bh]at h;subst h;simp[Ts,p,r,j,E,W,H,m,o,T,U,J,en,M]
   |false=>
    rw[J,M]at h;simp only[acC,br]at h;subst h;simp[Ts,p,r,j,E,W,H,m,o,T,U,J,en,M,j9]
 |false=>
  rw[j]at h;simp only[acC,br]at h;cases x:uB s[a] with
  |true=>
   rw[x,af rfl]at h;have hn:=L true;have E:=E true;have lQ:=QE true (s.drop a);generalize V:yC true (s.drop a)=n at *;have W:IntKind.i64.wrap ((a:Int)+(n:Int))=((a+n:Nat):Int):=(by rw[dY]<;>omega);have H:(a:Int)<=(a:Int)+(n:Int):=(by omega);have m:(a:Int)+(n:Int)<=(s.length:Int):=(by omega);have o:((a:Int)+(n:Int)).toNat=a+n:=(by omega);have T:=QH s a n;have R:((s.drop a).take n).length<1000000000:=(by grind);have Z:=λw g st=>abM w g ((s.drop a).take n) st R (λc hc=>by grind [pR]);generalize Mi:(s.drop a).take n=t at *;have P:zv a s[a] (s.drop a) n=match zp 0 t with
    |none=>(j9,0)
    |some v=>if alH 2 n&&aiF s[a].toNat 48||zu (s.drop a) n then (j9,0) else (Aq 2 [] v a,n):=by unfold zv;rw[Mi]
   rw[P]at h;cases e5:zp 0 t with
   |none=>
    rw[e5]at h Z;simp only at h Z;subst h;simp[Ts,p,r,C,j,x,E,W,H,m,o,T,Z,j9]
   |some v=>
    rw[e5]at h Z;simp only at h Z;have X:zu (s.drop a) n=match s.drop (a+n) with|d::_=>o8 d | []=>false:=by unfold zu;simp_all
    simp only[xu,Eo]at h;have K:(0:Int)<=(a:Int)+(n:Int):=(by omega);have key:∀b:Bool,(decide (2<=n)&&decide (s[a].toNat=48))=b->∀q:Bool,zu (s.drop a) n=q->z=if b||q then (j9,0) else (Aq 2 [] v a,n):=λb hb q O=>by simp_all
    by_cases Y:2<=n/\s[a].toNat=48;have I:z=(j9,0):=(by grind);have q1:(1:Int)<(n:Int):=(by omega);subst I;have F:=λw g st=>r w g s[a] st;have G:=λw g st=>C w g s[a] st;have p2:(s[a].toNat:Int)=48:=(by omega);rw[j]at F;rw[x]at G;rw[p2]at F G;simp[Ts,p,F,G,E,W,H,m,o,T,Z,q1,Y.2,j9];have pf:(decide (2<=n)&&decide (s[a].toNat=48))=false:=by
     grind
    by_cases N:a+n<s.length;have D:(a:Int)+(n:Int)<(s.length:Int):=(by omega);have O:zu (s.drop a) n=o8 s[a+n]:=(by rw[X,tw N]);have I:=key false pf _ O;simp only[Bool.false_or]at I;by_cases q1:2<=n;have Q:(1:Int)<(n:Int):=(by omega);have q2:¬s[a].toNat=48:=λe=>Y ⟨q1,e⟩;have B:¬(s[a].toNat:Int)=48:=(by omega);cases y:o8 s[a+n] with
    |true=>
     rw[y,af rfl]at I;subst I;simp[Ts,p,r,C,j,x,E,W,H,m,o,T,Z,Q,B,K,D,N,y,j9]
    |false=>
     rw[y]at I;simp only[acC,br]at I;subst I;simp[Ts,p,r,C,j,x,E,W,H,m,o,T,Z,Q,B,K,D,N,y]
    have Q:¬(1:Int)<(n:Int):=(by omega);cases y:o8 s[a+n] with
    |true=>
     rw[y,af rfl]at I;subst I;simp[Ts,p,r,C,j,x,E,W,H,m,o,T,Z,Q,K,D,N,y,j9]
    |false=>
     rw[y]at I;simp only[acC,br]at I;subst I;simp[Ts,p,r,C,j,x,E,W,H,m,o,T,Z,Q,K,D,N,y]
    have D:¬(a:Int)+(n:Int)<(s.length:Int):=(by omega);have O:zu (s.drop a) n=false:=(by grind);have I:=key false pf _ O;simp only[Bool.or_self,acC,br]at I;subst I;by_cases q1:2<=n;have Q:(1:Int)<(n:Int):=(by omega);have q2:¬s[a].toNat=48:=λe=>Y ⟨q1,e⟩;have B:¬(s[a].toNat:Int)=48:=(by omega);simp[Ts,p,r,C,j,x,E,W,H,m,o,T,Z,Q,B,D];have Q:¬(1:Int)<(n:Int):=(by omega);simp[Ts,p,r,C,j,x,E,W,H,m,o,T,Z,Q,D]
  |false=>
   rw[x]at h;simp only[acC,br]at h;have es:=agc 0 0 s a [] p hs;generalize GY (s.drop a)=t at *;cases t with
   |nil=>
    have I:z=(j9,0):=h.symm;simp_all [Ts,j9]
   |cons b t=>
    have I:z=(Aq 4 (b::t) 0 a,(b::t).length):=h.symm;simp_all [Ts]
end U2
namespace U2
open Ax Go aO
def Es:Nat->Nat->List UInt8->List (List AV)×Option Nat
 |0,_,_=>([],none)
 |_+1,a,[]=>([Aq 0 [] 0 a],none)
 |n+1,a,c::l=>match yD a (c::l) with
  |(_,0)=>([],some a)
  |(t,k+1)=>match Es n (a+(k+1)+jP ((c::l).drop (k+1))) (((c::l).drop (k+1)).drop (jP ((c::l).drop (k+1)))) with
   |(rows,none)=>(t::rows,none)
   |(_,some e)=>([],some e)
def Lp(s:List UInt8):List (List AV)×Option Nat:=Es (s.length+1) (jP s) (s.drop (jP s))
def QI(x:List (List AV)×Option Nat):AV×List AV:=match x with
 |(rows,none)=>(cq 4 rows,[.int .i64 0,.int .i64 0])
 |(_,some e)=>(.aF,[.int .i64 1,.int .i64 e])
def NJ(s:List UInt8):AV×List AV:=if alH s.length 6000 then QI (Lp s) else (.aF,[.int .i64 4,.int .i64 0])
theorem abO(l:List UInt8):(GY l).length<=l.length:=by
 unfold GY
 grind
theorem VL(a:Nat)(l:List UInt8):(yD a l).2<=l.length:=by
 unfold yD;split
 grind
 rename_i c r;split;unfold xy;split;exact En _ _;split;exact En _ _
 grind
 split;unfold zv;split
 grind
 split
 grind
 exact En _ _;have h:=abO (c::r);unfold zw
 grind
theorem abP(a:Nat)(l:List UInt8):∃k t n b,(yD a l).1=Aq k t n b:=by
 unfold yD;split;exact⟨_,_,_,_,rfl⟩;split;unfold xy;split
 grind
 split<;>exact⟨_,_,_,_,rfl⟩;split;unfold zv;split;exact⟨_,_,_,_,rfl⟩;split<;>exact⟨_,_,_,_,rfl⟩;unfold zw;split<;>exact⟨_,_,_,_,rfl⟩
def JX(rows:List (List AV))(x:List (List AV)×Option Nat):List (List AV)×Option Nat:=match x with
 |(r,none)=>(rows++r,none)
 |(_,some e)=>([],some e)
theorem XR(x:List (List AV)×Option Nat):QI (JX [] x)=QI x:=by
 obtain⟨r,e⟩:=x;cases e<;>rfl
variable{l:List UInt8}
theorem XS{n a:Nat}(h:l.length<n)(rows:List (List AV))(r:l=[]):JX rows (Es n a l)=(rows++[Aq 0 [] 0 a],none):=by
 subst r;cases n with
 |zero=>simp at h|succ n=>rfl
theorem XT{n a:Nat}(h:l.length<n)(rows:List (List AV))(r:l≠[])(H:(yD a l).2=0):JX rows (Es n a l)=([],some a):=by
 cases n with
 |zero=>simp at h|succ n=>
  cases l with
  |nil=>grind|cons c l=>
   simp only[Es];generalize yD a (c::l)=z at *;obtain⟨t,k⟩:=z;simp only at H;subst H
   rfl
theorem TD{n a k:Nat}(h:l.length<n)(rows:List (List AV))(r:l≠[])(H:(yD a l).2=k+1):∃m,(l.drop (k+1+jP (l.drop (k+1)))).length<m/\
  JX rows (Es n a l)=JX (rows++[(yD a l).1]) (Es m (a+(k+1)+jP (l.drop (k+1))) (l.drop (k+1+jP (l.drop (k+1))))):=by
 cases n with
 |zero=>simp at h|succ n=>
  cases l with
  |nil=>grind|cons c l=>
   refine⟨n,by grind,?_⟩
   grind [Es,agO,JX]
theorem XU(Z J:Nat)(s:List UInt8)(st:aj):(aZ S).call Z J 25 [.str s] st=some (.eY [(NJ s).1,.agg (NJ s).2],st):=by
 have O:∀z:AV×List AV,z=NJ s->(AV.eY [z.1,.agg z.2]).aH=true:=λz n=>by
  subst n;unfold NJ;split
  ·unfold QI;split;all_goals simp_all
  simp_all
 refine bE (sf:=s25) rfl rfl (by simp) rfl (O _ rfl) ?_;unfold NJ;rw[xu];by_cases R:s.length<=6000;have W:¬(6000:Int)<(s.length:Int):=by omega
 rw[cz R,af rfl];have t:s.length<1000000000:=by omega
 have L:(aZ S).call 0 0 81 [.str s,.int .i64 0] []=some (.int .i64 (jP s:Nat),[]):=by
  have:=QG 0 0 s 0 [] (ah7 _) t
  grind
 have b0:=Er s;obtain⟨F,w⟩:∃F,QI (Lp s)=F:=⟨_,rfl⟩;rw[w];simp[s25,W,L];refine bN abt.eq_1 (λq:Nat×List (List AV)×List AV=>⟨[(0,.val (.str s)),(3,.fp 0 0),(4,.val (cq 4 q.2.1)),(5,.val (.int .i64 q.1))],[[.int .i64 0,.int .i64 0],q.2.2],[]⟩)
  (λq=>q.1<=s.length/\q.2.1.length<=q.1/\∃m,(s.drop q.1).length<m/\QI (JX q.2.1 (Es m q.1 (s.drop q.1)))=F) (λq=>s.length-q.1) (jP s,[],[]) ?_ ?_ ?_
 rfl
 exact⟨by grind,by simp,s.length+1,by grind,by rw[<-w];exact XR _⟩;rintro⟨a,rows,bb⟩ ⟨Q,Y,m,l,X⟩ I;simp only at Q Y l X I;by_cases B:a<s.length;have M:s.drop a≠[]:=by grind
 have E:=TB 0 0 s a [] B t;have g:=VL a (s.drop a);rw[aiR]at g;obtain⟨K,T,N,P,G⟩:=abP a (s.drop a);rw[G]at E;by_cases n:(yD a (s.drop a)).2=0;rw[XT l rows M n]at X;have h:F=(.aF,[.int .i64 1,.int .i64 a]):=X.symm;subst h;rw[n]at E;simp[B,E];obtain⟨k,x⟩:∃k,(yD a (s.drop a)).2=k+1:=⟨(yD a (s.drop a)).2-1,by omega⟩;obtain⟨U,j,p⟩:=TD l rows M x;rw[p,G]at X;rw[x]at E g;have H:¬((k+1:Nat):Int)=0:=by omega
 have y:IntKind.i64.wrap ((a:Int)+((k+1:Nat):Int))=((a+(k+1):Nat):Int):=by rw[dY]<;>omega
 have v:=QG 0 0 s (a+(k+1)) [] (by omega) t;have D:=Er (s.drop (a+(k+1)));rw[aiR]at D;rw[agO]at X j;have o:=gP (sz:=4) (bytes:=40) (r:=rows) (new:=[Aq K T N P]) (by simp[cr]) (by simp[cZ];omega);simp only[aiH,ajm]at E H y v;simp[B,E,H,y,v,o];have:=I (a+(k+1)+jP (s.drop (a+(k+1))),rows++[Aq K T N P],Aq K T N P) ⟨by grind,by simp;omega,U,by simpa [Nat.add_assoc] using j,by simpa [Nat.add_assoc] using X⟩ (by grind);exact this;have C:a=s.length:=by omega
 have V:s.drop a=[]:=by grind
 rw[XS l rows V]at X;have h:F=(cq 4 (rows++[Aq 0 [] 0 a]),[.int .i64 0,.int .i64 0]):=X.symm;subst h;have o:=gP (sz:=4) (bytes:=40) (r:=rows) (new:=[Aq 0 [] 0 a]) (by simp[cr]) (by simp[cZ];omega);rw[C]at o ⊢;simp[o];have W:(6000:Int)<(s.length:Int):=by omega
 simp_all [eX,s25]
end U2
