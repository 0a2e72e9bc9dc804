/- Part of a proof. -/
import Derived.Test.YtlcehclecbakiaaGreatCode2
import Derived.Test.YtlcehclecbakiaaGreatA6

open List renaming any_eq_true→afE,getElem_mem→aar,any_eq_false→agz,mem_iff_getElem→abe,drop_length→abp,length_drop→acf,drop_take→agD,length_take→ad6,length_eq_zero_iff→agU,length_cons→abq,drop_drop→adx
open Nat renaming ble→agw,beq→afw,eq_of_beq_eq_true→ahh,ne_of_beq_eq_false→aix,le_refl→aaH,add_sub_cancel_left→acn,zero_le→acH
open Int renaming natCast_add→aes,cast_ofNat_Int→afy
open Bool renaming and_eq_true→Ar,false_eq_true→aaq
set_option maxRecDepth 100000
set_option maxHeartbeats 4000000
namespace U2
open Ax Go aF
def mN(c:UInt8):Bool:=agw 97 c.toNat&&agw c.toNat 122||agw 65 c.toNat&&agw c.toNat 90
def qJ(c:UInt8):Bool:=agw 48 c.toNat&&agw c.toNat 57
theorem pT(a b:Nat):agw a b=decide (a<=b):=by
 cases h:agw a b with
 |true=>exact(decide_eq_true (Nat.le_of_ble_eq_true h)).symm|false=>exact(decide_eq_false (λe=>by rw[Nat.ble_eq_true_of_le e]at h;cases h)).symm
theorem Bz(wl aa:Nat)(c:UInt8)(st:ag):(aP S).call wl aa 89 [.int .u8 c.toNat] st=some (.bool (mN c),st):=by
 refine aH (sf:=s89) rfl rfl (by simp) rfl (by simp) ?_;simp only[mN,pT];generalize c.toNat=n;by_cases h1:97<=n;by_cases h2:n<=122;have a1:(97:Int)<=n:=by omega
 have a2:(n:Int)<=122:=by omega
 simp[s89,h1,h2,a1,a2];have a1:(97:Int)<=n:=by omega
 have a2:¬(n:Int)<=122:=by omega
 have a3:(65:Int)<=n:=by omega
 have a4:¬(n:Int)<=90:=by omega
 have h4:¬n<=90:=by omega
 simp[s89,h1,h2,h4,a1,a2,a3,a4];have a1:¬(97:Int)<=n:=by omega
 by_cases h3:65<=n;have a3:(65:Int)<=n:=by omega
 by_cases h4:n<=90;have a4:(n:Int)<=90:=by omega
 simp[s89,h1,h3,h4,a1,a3,a4];have a4:¬(n:Int)<=90:=by omega
 simp[s89,h1,h3,h4,a1,a3,a4];have a3:¬(65:Int)<=n:=by omega
 simp[s89,h1,h3,a1,a3]
theorem EO(wl aa:Nat)(c:UInt8)(st:ag):(aP S).call wl aa 93 [.int .u8 c.toNat] st=some (.bool (qJ c),st):=by
 refine aH (sf:=s93) rfl rfl (by simp) rfl (by simp) ?_;simp only[qJ,pT];generalize c.toNat=n;by_cases h1:48<=n;have a1:(48:Int)<=n:=by omega
 by_cases h2:n<=57;have a2:(n:Int)<=57:=by omega
 simp[s93,h1,h2,a1,a2];have a2:¬(n:Int)<=57:=by omega
 simp[s93,h1,h2,a1,a2];have a1:¬(48:Int)<=n:=by omega
 simp[s93,h1,a1]
def EP:List (List UInt8):=[[114,101,99,111,114,100],[103,108,111,98,97,108],[102,117,110,99],[118,97,114],[108,101,116],[105,102],[101,108,115,101],[119,104,105,108,101],[114,101,116,117,114,110],[112,114,105,110,116],[110,117,108,108],[110,101,119],[108,101,110],[114,101,97,100],[116,114,117,101],[102,97,108,115,101],[105,110,116],[98,111,111,108]]
def nB(l:List (List UInt8)):List (List AV):=l.map λw=>[.str w]
theorem Vz(wl aa:Nat)(st:ag):(aP S).call wl aa 109 [] st=some (.dh 1 (nB EP),st):=by
 refine aH (sf:=adH) rfl rfl (by simp) rfl (by simp) ?_;simp[adH,nB,EP]
def eqB:List UInt8->List UInt8->Bool
 |[],[]=>true|a::x,b::y=>afw a.toNat b.toNat&&eqB x y|_,_=>false
theorem VA:∀x y:List UInt8,eqB x y=decide (x=y)
 |[],[]=>rfl|[],_::_=>rfl|_::_,[]=>rfl|a::x,b::y=>by
  have h:afw a.toNat b.toNat=decide (a=b):=by
   cases e:afw a.toNat b.toNat with
   |true=>exact(decide_eq_true (UInt8.toNat_inj.1 (ahh e))).symm|false=>exact(decide_eq_false (λq=>aix e (by rw[q]))).symm
  rw[eqB,VA x y,h];by_cases p:a=b<;>by_cases q:x=y<;>simp[p,q]
def I0(s:List UInt8):List (List UInt8)->Bool
 |[]=>false|w::l=>eqB w s||I0 s l
theorem xq(s:List UInt8):∀l,I0 s l=l.any λw=>decide (w=s)
 |[]=>rfl|w::l=>by rw[I0,VA,xq s l];rfl
def zJ(t:List UInt8):Bool:=I0 t EP
theorem Cj(l:List (List UInt8))(k:Nat)(h:k<l.length)(hh:k<(nB l).length):(nB l)[k]'hh=[.str (l[k]'h)]:=by
 simp[nB]
theorem Pr(wl aa:Nat)(t:List UInt8)(st:ag):(aP S).call wl aa 91 [.str t] st=some (.bool (zJ t),st):=by
 have ew:=Vz 0 0 [];refine aH (sf:=s91) rfl rfl (by simp) rfl (by simp) ?_;unfold zJ;have hle:EP.length<1000:=by decide
 generalize EP=L at *;simp[s91,ew];have qQ:(nB L).length=L.length:=by simp[nB]
 refine aT Vo.eq_1 (λk:Nat=>⟨[(0,.val (.str t)),(3,.val (.dh 1 (nB L))),(4,.val (.int .i64 k))],[],[]⟩)
  (λk=>k<=L.length/\∀j (h:j<L.length),j<k->L[j]≠t) (λk=>L.length-k) 0 (by simp) ⟨by simp,λ_ _ h=>absurd h (by omega)⟩ ?_
 intro k ⟨hk,hn⟩ ih;by_cases aQ:k<L.length;have hw:=wk k (by omega);have lq:(k:Int)<(L.length:Int):=by omega
 have hg:=Cj L k aQ;by_cases he:L[k]=t;have hm:I0 t L=true:=by
  rw[xq,afE];exact⟨_,aar aQ,by simpa using he⟩
 simp[qQ,aQ,hg,he,hm,AV.view];simp[qQ,aQ,hg,he,hw,AV.view];exact ih (k+1) ⟨by omega,λj hj h=>by
  by_cases oe:j=k;subst oe;exact he;exact hn j hj (by omega)⟩ (by omega)
 have cL:k=L.length:=by omega
 have hm:I0 t L=false:=by
  rw[xq,agz];intro w hw;obtain⟨j,hj,rfl⟩:=abe.1 hw;simpa using hn j hj (by omega)
 simp[qQ,aQ,hm]
def pR(d:Bool)(c:UInt8):Bool:=qJ c || !d&&mN c
def tT(d:Bool):List UInt8->Nat
 |[]=>0|c::l=>if pR d c then tT d l+1 else 0
theorem AA(d:Bool):∀l,tT d l<=l.length
 |[]=>aaH _|c::l=>by
  simp only[tT];have:=AA d l;split<;>simp<;>omega
theorem Le(d:Bool):∀l:List UInt8,∀c∈l.take (tT d l),pR d c=true
 |[],c,h=>by simp[tT]at h|a::l,c,h=>by
  simp only[tT]at h;split at h;rename_i hp;simp only[List.take_succ_cons,List.mem_cons]at h;rcases h with rfl|h;exact hp;exact Le d l c h;simp at h
theorem ox{s:List UInt8}{n:Nat}(h:n<s.length):s.drop n=s[n]::s.drop (n+1):=List.drop_eq_getElem_cons h
theorem adQ(wl aa:Nat)(s:List UInt8)(at_:Nat)(d:Bool)(st:ag)(ha:at_<=s.length)(hs:s.length<1000000000) :
  (aP S).call wl aa 90 [.str s,.int .i64 at_,.bool d] st=some (.int .i64 (tT d (s.drop at_)),st):=by
 have el:=λwl aa c st=>Bz wl aa c st;have ed:=λwl aa c st=>EO wl aa c st;refine aH (sf:=s90) rfl rfl (by simp) rfl (by simp) ?_;simp[s90];refine aT Vn.eq_1 (λn:Nat=>⟨[(0,.val (.str s)),(1,.val (.int .i64 at_)),(2,.val (.bool d)),(7,.val (.int .i64 n))],[],[]⟩)
  (λn=>at_+n<=s.length/\tT d (s.drop at_)=n+tT d (s.drop (at_+n))) (λn=>s.length-(at_+n)) 0 (by simp) ⟨by omega,by simp⟩ ?_
 intro n ⟨hn,hr⟩ ih;have hw:=wk n (by omega);have nR:IntKind.i64.wrap ((at_:Int)+(n:Int))=((at_+n:Nat):Int):=by rw[cI]<;>omega
 by_cases aQ:at_+n<s.length;have lq:(at_:Int)+(n:Int)<(s.length:Int):=by omega
 have h0:(0:Int)<=(at_:Int)+(n:Int):=by omega
 have hnn:((at_:Int)+(n:Int)).toNat=at_+n:=by omega
 have hd:=ox aQ;generalize hc:s[at_+n]=c at *;have xu:tT d (s.drop (at_+n))=if pR d c then tT d (s.drop (at_+(n+1)))+1 else 0:=by rw[hd];rfl
 cases e1:qJ c with
 |true=>
  have hp:pR d c=true:=by simp[pR,e1]
  rw[hp,if_pos rfl]at xu;simp[hw,nR,aQ,lq,h0,hnn,hc,ed,e1];exact ih (n+1) ⟨by omega,by rw[hr,xu];omega⟩ (by omega)
 |false=>
  cases d with
  |true=>
   have hp:pR true c=false:=(by simp[pR,e1]);rw[hp]at xu;simp[nR,aQ,lq,h0,hnn,hc,ed,e1,hr,xu]
  |false=>
   cases e2:mN c with
   |true=>
    have hp:pR false c=true:=(by simp[pR,e2]);rw[hp,if_pos rfl]at xu;simp[hw,nR,aQ,lq,h0,hnn,hc,ed,el,e1,e2];exact ih (n+1) ⟨by omega,by rw[hr,xu];omega⟩ (by omega)
   |false=>
    have hp:pR false c=false:=(by simp[pR,e1,e2]);rw[hp]at xu;simp[nR,aQ,lq,h0,hnn,hc,ed,el,e1,e2,hr,xu]
 have hnl:at_+n=s.length:=by omega
 have lq:¬(at_:Int)+(n:Int)<(s.length:Int):=by omega
 have he:tT d (s.drop (at_+n))=0:=by rw[hnl,abp];rfl
 simp[nR,lq,hr,he]
end U2
namespace U2
open Ax Go aF
def vA(t:List UInt8):Bool:=match t with
 |[]=>false|c::_=>agw t.length 8&&mN c && !zJ t&&t.all λc=>mN c||qJ c
theorem VB{c:UInt8}{l:List UInt8}(h8:l.length+1<=8)(h1:mN c=true)(h2:zJ (c::l)=false):vA (c::l)=(c::l).all λc=>mN c||qJ c:=by
 simp[vA,pT,h8,h1,h2]
theorem oy(wl aa:Nat)(t:List UInt8)(st:ag)(ht:t.length<1000000000):(aP S).call wl aa 92 [.str t] st=some (.bool (vA t),st):=by
 have ew:=Pr 0 0 t [];have el:=λwl aa c st=>Bz wl aa c st;have ed:=λwl aa c st=>EO wl aa c st;obtain⟨v,hv⟩:∃v,vA t=v:=⟨_,rfl⟩;rw[hv];refine aH (sf:=s92) rfl rfl (by simp) rfl (by simp) ?_;cases t with
 |nil=>
  have Ig:v=false:=hv.symm;simp[s92,Ig]
 |cons c l=>
  have h1:¬((l.length:Int)+1<1):=by omega
  by_cases h8:l.length+1<=8;have h8':¬(8:Int)<(l.length:Int)+1:=by omega
  cases e1:mN c with
  |false=>
   have Ig:v=false:=(by rw[<-hv];simp[vA,e1]);simp[s92,h1,h8',el,e1,Ig]
  |true=>
   cases e2:zJ (c::l) with
   |true=>
    have Ig:v=false:=(by rw[<-hv];simp[vA,e2]);simp[s92,h1,h8',el,e1,ew,e2,Ig]
   |false=>
    rw[VB h8 e1 e2]at hv;simp[s92,h1,h8',el,e1,ew,e2];refine aT Vp.eq_1 (λk:Nat=>⟨[(0,.val (.str (c::l))),(3,.val (.int .i64 k))],[],[]⟩)
     (λk=>k<=(c::l).length/\∀j (h:j<(c::l).length),j<k->(mN (c::l)[j]||qJ (c::l)[j])=true) (λk=>(c::l).length-k) 0 (by simp) ⟨by simp,λ_ _ h=>absurd h (by omega)⟩ ?_
    generalize c::l=T at *;intro k ⟨hk,hn⟩ ih;by_cases aQ:k<T.length;have hw:=wk k (by omega);have no:(mN T[k]||qJ T[k])=false->v=false:=λh=>by
     rw[<-hv,List.all_eq_false];exact⟨_,aar aQ,by simp[h]⟩
    have yes:(mN T[k]||qJ T[k])=true->∀j (h:j<T.length),j<k+1->(mN T[j]||qJ T[j])=true:=λh j hj oe=>by
     by_cases ER:j=k;subst ER;exact h;exact hn j hj (by omega)
    cases a1:mN T[k] with
    |true=>
     simp[aQ,el,a1,hw];exact ih (k+1) ⟨by omega,yes (by rw[a1];rfl)⟩ (by omega)
    |false=>
     cases a2:qJ T[k] with
     |true=>
      simp[aQ,el,ed,a1,a2,hw];exact ih (k+1) ⟨by omega,yes (by rw[a1,a2];rfl)⟩ (by omega)
     |false=>
      have Ig:=no (by rw[a1,a2];rfl);simp[aQ,el,ed,a1,a2,Ig]
    have cL:k=T.length:=(by omega);have Ig:v=true:=by
     rw[<-hv,List.all_eq_true];intro x hx;obtain⟨j,hj,rfl⟩:=abe.1 hx;exact hn j hj (by omega)
    simp[aQ,Ig]
  have h8':(8:Int)<(l.length:Int)+1:=by omega
  have Ig:v=false:=by rw[<-hv];simp[vA,pT];omega
  simp[s92,h1,h8',Ig]
def vC:Nat->List UInt8->Option Nat
 |n,[]=>some n|n,c::l=>if agw n ((9223372036854775807-(c.toNat-48)) / 10) then vC (10*n+(c.toNat-48)) l else none
theorem Hl{P:Nat->Prop}(h:P 0/\P 1/\P 2/\P 3/\P 4/\P 5/\P 6/\P 7/\P 8/\P 9)(k:Nat)(hk:k<=9):P k:=by
 obtain⟨h0,h1,h2,h3,h4,h5,h6,h7,h8,h9⟩:=h;have:k=0\/k=1\/k=2\/k=3\/k=4\/k=5\/k=6\/k=7\/k=8\/k=9:=by omega
 rcases this with h|h|h|h|h|h|h|h|h|h<;>subst h<;>assumption
theorem ZK(k:Nat)(hk:k<=9):IntKind.u8.wrap (((48+k:Nat):Int)-48)=(k:Int):=
 Hl (P:=λk=>IntKind.u8.wrap (((48+k:Nat):Int)-48)=(k:Int)) (by refine⟨?_,?_,?_,?_,?_,?_,?_,?_,?_,?_⟩<;>rfl) k hk
theorem ZL(k:Nat)(hk:k<=9):IntKind.i64.wrap (Int.tdiv (IntKind.i64.wrap (9223372036854775807-(k:Int))) 10)=(((9223372036854775807-k) / 10:Nat):Int):=
 Hl (P:=λk=>IntKind.i64.wrap (Int.tdiv (IntKind.i64.wrap (9223372036854775807-(k:Int))) 10)=(((9223372036854775807-k) / 10:Nat):Int)) (by refine⟨?_,?_,?_,?_,?_,?_,?_,?_,?_,?_⟩<;>rfl) k hk
theorem VC(wl aa:Nat)(t:List UInt8)(st:ag)(ht:t.length<1000000000)(hd:∀c∈t,qJ c=true) :
  (aP S).call wl aa 94 [.str t] st=some (match vC 0 t with|some n=>.ir [.int .i64 n,.bool true]|none=>.ir [.int .i64 0,.bool false],st):=by
 obtain⟨v,hv⟩:∃v,vC 0 t=v:=⟨_,rfl⟩;rw[hv];refine aH (sf:=s94) rfl rfl (by simp) rfl (by cases v<;>simp[AV.ay,AV.au]) ?_;simp[s94];refine aT Vq.eq_1 (λq:Nat×Nat=>⟨[(0,.val (.str t)),(4,.val (.int .i64 q.2)),(5,.val (.int .i64 q.1))],[],[]⟩)
  (λq=>q.1<=t.length/\q.2<=9223372036854775807/\vC q.2 (t.drop q.1)=v) (λq=>t.length-q.1) (0,0) (by simp) ⟨by simp,by simp,by simpa using hv⟩ ?_
 rintro⟨k,n⟩ ⟨hk,hn,hr⟩ ih;simp only at hk hn hr ih;by_cases aQ:k<t.length;have hw:=wk k (by omega);have hc:=hd _ (aar aQ);rw[ox aQ]at hr;generalize MQ:t[k]=c at *;simp only[qJ,pT,Ar,decide_eq_true_eq]at hc;simp only[vC,pT]at hr;obtain⟨m,hm⟩:∃m,c.toNat=48+m:=⟨c.toNat-48,by omega⟩;have hm9:m<=9:=by omega
 have e1:=ZK m hm9;have e2:=ZL m hm9;have e3:IntKind.i64.wrap (m:Int)=(m:Int):=by rw[cI]<;>omega
 rw[hm,acn]at hr;have hb:(9223372036854775807-m) / 10<=922337203685477580:=by omega
 generalize hq:(9223372036854775807-m) / 10=q at *;by_cases hle:n<=q;have Tw:¬(q:Int)<(n:Int):=by omega
 have e4:IntKind.i64.wrap (10*(n:Int))=((10*n:Nat):Int):=by rw[cI]<;>omega
 have e5:IntKind.i64.wrap (((10*n:Nat):Int)+(m:Int))=((10*n+m:Nat):Int):=by rw[cI]<;>omega
 rw[decide_eq_true hle,if_pos rfl]at hr;simp only[Int.natCast_mul,aes,afy]at e1 e4 e5;simp[aQ,MQ,hm,e1,e2,e3,e4,e5,Tw,hw];exact ih (k+1,10*n+m) ⟨by simp;omega,by simp;omega,hr⟩ (by simp;omega);have Tw:(q:Int)<(n:Int):=by omega
 rw[decide_eq_false hle]at hr;simp only[aaq,if_false]at hr;subst hr;simp only[aes,afy]at e1;simp[aQ,MQ,hm,e1,e2,e3,Tw];have cL:k=t.length:=by omega
 subst cL;rw[abp]at hr;simp only[vC]at hr;subst hr;simp
end U2
namespace U2
open Ax Go aF
def VD:List (List UInt8):=[[60,61],[61,61],[33,61],[38,38],[124,124]]
def Pu:List UInt8:=[123,125,40,41,91,93,59,58,44,46,61,43,45,42,47,37,60,33]
def Rf(c:UInt8):List UInt8->Bool
 |[]=>false|a::l=>afw c.toNat a.toNat||Rf c l
theorem vD(a b:Nat):afw a b=decide (a=b):=by
 cases h:afw a b with
 |true=>exact(decide_eq_true (ahh h)).symm|false=>exact(decide_eq_false (aix h)).symm
theorem ES(c:UInt8):∀l,Rf c l=l.any λa=>decide (c.toNat=a.toNat)
 |[]=>rfl|a::l=>by rw[Rf,vD,ES c l];rfl
def Ck(l:List UInt8):List UInt8:=if I0 (l.take 2) VD then l.take 2 else match l with
 |[]=>[]
 |c::_=>if Rf c Pu then [c] else []
theorem ZM(wl aa:Nat)(s:List UInt8)(at_:Nat)(st:ag)(ha:at_<s.length)(hs:s.length<1000000000) :
  (aP S).call wl aa 95 [.str s,.int .i64 at_] st=some (.str (Ck (s.drop at_)),st):=by
 obtain⟨v,hv⟩:∃v,Ck (s.drop at_)=v:=⟨_,rfl⟩;rw[hv];refine aH (sf:=s95) rfl rfl (by simp) rfl (by simp) ?_;have hL2:∀w∈VD,w.length=2:=by decide
 have hLl:VD.length<1000:=by decide
 have hOl:Pu.length<1000:=by decide
 have anj:(AV.dh 1 [[AV.str [60,61]],[AV.str [61,61]],[AV.str [33,61]],[AV.str [38,38]],[AV.str [124,124]]])=.dh 1 (nB VD):=rfl;have mw:([123,125,40,41,91,93,59,58,44,46,61,43,45,42,47,37,60,33]:List UInt8)=Pu:=rfl;simp[s95];rw[anj];unfold Ck at hv;generalize VD=L at *;have qQ:(nB L).length=L.length:=by simp[nB]
 have hdl:(s.drop at_).length=s.length-at_:=acf;refine aT Vr.eq_1 (λk:Nat=>⟨[(0,.val (.str s)),(1,.val (.int .i64 at_)),(5,.val (.dh 1 (nB L))),(6,.val (.int .i64 k))],[],[]⟩)
  (λk=>k<=L.length/\∀j (h:j<L.length),j<k->L[j]≠(s.drop at_).take 2) (λk=>L.length-k) 0 (by simp) ⟨by simp,λ_ _ h=>absurd h (by omega)⟩ ?_
 intro k ⟨hk,hn⟩ ih;have w0:IntKind.i64.wrap ((s.length:Int)-(at_:Int))=(s.length:Int)-(at_:Int):=by rw[cI]<;>omega
 have w1:IntKind.i64.wrap ((at_:Int)+2)=(at_:Int)+2:=by rw[cI]<;>omega
 by_cases aQ:k<L.length;have hw:=wk k (by omega);have hg:=Cj L k aQ;have nx:L[k]≠(s.drop at_).take 2->∀j (h:j<L.length),j<k+1->L[j]≠(s.drop at_).take 2:=λh j hj oe=>by
  by_cases ER:j=k;subst ER;exact h;exact hn j hj (by omega)
 by_cases h2:at_+2<=s.length;have SU:(2:Int)<=(s.length:Int)-(at_:Int):=by omega
 have h3:(at_:Int)+2<=(s.length:Int):=by omega
 have Gh:(at_:Int)<=(at_:Int)+2:=by omega
 have h4:((at_:Int)+2).toNat=at_+2:=by omega
 have h5:(s.take (at_+2)).drop at_=(s.drop at_).take 2:=by rw[agD,acn]
 by_cases he:(s.drop at_).take 2=L[k];have hm:I0 ((s.drop at_).take 2) L=true:=by
  rw[xq,afE];exact⟨_,aar aQ,by simp[he]⟩
 rw[hm,if_pos rfl]at hv;simp[qQ,aQ,w0,w1,SU,h3,Gh,h4,h5,hg,he,AV.view,ai,ah];rw[<-hv,he];simp[qQ,aQ,w0,w1,SU,h3,Gh,h4,h5,hg,he,hw,AV.view,ai,ah];exact ih (k+1) ⟨by omega,nx λe=>he e.symm⟩ (by omega);have SU:¬(2:Int)<=(s.length:Int)-(at_:Int):=by omega
 simp[qQ,aQ,w0,SU,hw,ai,ah];refine ih (k+1) ⟨by omega,nx λe=>?_⟩ (by omega);have e1:=hL2 _ (aar aQ);rw[e,ad6,hdl]at e1;omega;have cL:k=L.length:=by omega
 have hm:I0 ((s.drop at_).take 2) L=false:=by
  rw[xq,agz];intro w hw;obtain⟨j,hj,rfl⟩:=abe.1 hw;simpa using hn j hj (by omega)
 rw[hm,ox ha]at hv;simp only[aaq,if_false]at hv;simp[qQ,aQ];rw[mw];generalize Pu=N at *;refine aT Vs.eq_1 (λk:Nat=>⟨[(0,.val (.str s)),(1,.val (.int .i64 at_)),(7,.val (.str N)),(8,.val (.int .i64 k))],[],[]⟩)
  (λk=>k<=N.length/\∀j (h:j<N.length),j<k->s[at_].toNat≠N[j].toNat) (λk=>N.length-k) 0 (by simp) ⟨by simp,λ_ _ h=>absurd h (by omega)⟩ ?_
 clear ih hn hk;intro k ⟨hk,hn⟩ ih;by_cases aQ:k<N.length;have hw:=wk k (by omega);by_cases he:s[at_].toNat=N[k].toNat;have hm:Rf s[at_] N=true:=by
  rw[ES,afE];exact⟨_,aar aQ,by simp[he]⟩
 rw[hm,if_pos rfl]at hv;have e1:s[at_]=N[k]:=UInt8.toNat_inj.1 he;have e2:(N.take (k+1)).drop k=[N[k]]:=by rw[agD,acn,ox aQ];rfl
 have hk1:((k:Int)+1).toNat=k+1:=by omega
 have SN:(k:Int)<=(k:Int)+1:=by omega
 have hk3:(k:Int)+1<=(N.length:Int):=by omega
 have G4:IntKind.i64.wrap ((k:Int)+1)=(k:Int)+1:=by rw[cI]<;>omega
 simp[ha,aQ,he,G4,hk1,SN,hk3,e2,ai,ah];rw[<-hv,e1];simp[ha,aQ,he,hw,ai,ah];exact ih (k+1) ⟨by omega,λj hj oe=>by
  by_cases ER:j=k;subst ER;exact he;exact hn j hj (by omega)⟩ (by omega)
 have cL:k=N.length:=by omega
 have hm:Rf s[at_] N=false:=by
  rw[ES,agz];intro w hw;obtain⟨j,hj,rfl⟩:=abe.1 hw;simpa using hn j hj (by omega)
 rw[hm]at hv;simp only[aaq,if_false]at hv;simp[aQ,hv]
end U2
namespace U2
open Ax Go aF
def Cl(c:UInt8):Bool:=afw c.toNat 32||afw c.toNat 9||afw c.toNat 10||afw c.toNat 13
def vE:List UInt8->Nat
 |[]=>0|c::l=>if afw c.toNat 10 then 0 else vE l+1
def AB:List UInt8->Bool
 |a::b::_=>afw a.toNat 47&&afw b.toNat 47|_=>false
def sA:Nat->List UInt8->Nat
 |0,_=>0|_+1,[]=>0|n+1,c::l=>if Cl c then sA n l+1 else if AB (c::l) then vE (c::l)+sA n ((c::l).drop (vE (c::l))) else 0
def g8(l:List UInt8):Nat:=sA l.length l
theorem Pv:∀l,vE l<=l.length
 |[]=>aaH _|c::l=>by
  simp only[vE];have:=Pv l;split<;>simp<;>omega
theorem ET{c:UInt8}{l:List UInt8}(h:AB (c::l)=true):0<vE (c::l):=by
 cases l with
 |nil=>cases h|cons d l=>
  simp only[AB,vD,Ar,decide_eq_true_eq]at h;simp[vE,vD,h.1]
theorem xx:∀(n m:Nat)(l:List UInt8),l.length<=n->l.length<=m->sA n l=sA m l
 |0,m,l,h,_=>by
  have:l=[]:=agU.1 (by omega);subst this;cases m<;>rfl
 |n+1,0,l,_,h=>by
  have:l=[]:=agU.1 (by omega);subst this;rfl
 |n+1,m+1,[],_,_=>rfl|n+1,m+1,c::l,h1,h2=>by
  simp only[abq]at h1 h2;simp only[sA];rw[xx n m l (by omega) (by omega)];split
  rfl
  split;rename_i hc;have hp:=ET hc;rw[xx n m _ (by rw[acf,abq];omega) (by rw[acf,abq];omega)]
  rfl
theorem Lf{c:UInt8}{l:List UInt8}(h:Cl c=true):g8 (c::l)=g8 l+1:=by
 simp[g8,sA,h]
theorem Rg{c:UInt8}{l:List UInt8}(h:Cl c=false)(hc:AB (c::l)=true):g8 (c::l)=vE (c::l)+g8 ((c::l).drop (vE (c::l))):=by
 have hp:=ET hc;simp only[g8,abq,sA,h,hc,aaq,if_false,if_true];rw[xx l.length _ _ (by rw[acf,abq];omega) (aaH _)]
theorem NC{c:UInt8}{l:List UInt8}(h:Cl c=false)(hc:AB (c::l)=false):g8 (c::l)=0:=by
 simp[g8,sA,h,hc]
theorem BA:∀(n:Nat)(l:List UInt8),sA n l<=l.length
 |0,_=>acH _|_+1,[]=>acH _|n+1,c::l=>by
  simp only[sA];have h1:=BA n l;have h2:=BA n ((c::l).drop (vE (c::l)));have h3:=Pv (c::l);rw[acf]at h2;split;simp;omega;split;simp only[abq]at *;omega;exact acH _
theorem AD(l:List UInt8):g8 l<=l.length:=BA _ _
theorem ND(l:List UInt8):AB l=decide (l.take 2=[47,47]):=by
 have h:∀a:UInt8,decide (a.toNat=47)=decide (a=47):=λa=>by
  have:a.toNat=47↔a=47:=⟨λh=>UInt8.toNat_inj.1 h,λh=>by rw[h];rfl⟩;simp only[this]
 match l with
 |[]=>rfl|[a]=>simp[AB]|a::b::l=>
  simp only[AB,vD,h];simp
theorem Lg(wl aa:Nat)(s:List UInt8)(Cm:Nat)(st:ag)(ha:Cm<=s.length)(hs:s.length<1000000000) :
  (aP S).call wl aa 64 [.str s,.int .i64 Cm] st=some (.int .i64 ((Cm+g8 (s.drop Cm):Nat):Int),st):=by
 obtain⟨v,hv⟩:∃v,Cm+g8 (s.drop Cm)=v:=⟨_,rfl⟩;rw[hv];refine aH (sf:=s64) rfl rfl (by simp) rfl (by simp) ?_;simp[s64];refine aT Vc.eq_1 (λk:Nat=>⟨[(0,.val (.str s)),(1,.val (.int .i64 k))],[],[]⟩)
  (λk=>k<=s.length/\k+g8 (s.drop k)=v) (λk=>s.length-k) Cm (by simp) ⟨ha,hv⟩ ?_
 intro k ⟨hk,hr⟩ ih;by_cases aQ:k<s.length;have hw:=wk k (by omega);have w0:IntKind.i64.wrap ((s.length:Int)-(k:Int))=(s.length:Int)-(k:Int):=by rw[cI]<;>omega
 have w1:IntKind.i64.wrap ((k:Int)+2)=(k:Int)+2:=by rw[cI]<;>omega
 have hd:=ox aQ;have step:Cl s[k]=true->k+1+g8 (s.drop (k+1))=v:=λh=>by
  rw[hd,Lf h]at hr;omega
 have hwh:Cl s[k]=(decide (s[k].toNat=32)||decide (s[k].toNat=9)||decide (s[k].toNat=10)||decide (s[k].toNat=13)):=by simp only[Cl,vD]
 have hdl:(s.drop k).length=s.length-k:=acf;have ZN:=ND (s.drop k);generalize hn:s[k].toNat=n at *;by_cases n32:n=32;simp[aQ,hn,n32,hw];exact ih (k+1) ⟨by omega,step (by rw[hwh];simp[n32])⟩ (by omega);by_cases n9:n=9;simp[aQ,hn,n9,hw];exact ih (k+1) ⟨by omega,step (by rw[hwh];simp[n9])⟩ (by omega);by_cases n10:n=10;simp[aQ,hn,n10,hw];exact ih (k+1) ⟨by omega,step (by rw[hwh];simp[n10])⟩ (by omega);by_cases n13:n=13;simp[aQ,hn,n13,hw];exact ih (k+1) ⟨by omega,step (by rw[hwh];simp[n13])⟩ (by omega);have hwf:Cl s[k]=false:=by rw[hwh];simp[n32,n9,n10,n13]
 have a32:¬(n:Int)=32:=by omega
 have a9:¬(n:Int)=9:=by omega
 have a10:¬(n:Int)=10:=by omega
 have a13:¬(n:Int)=13:=by omega
 cases hc:AB (s.drop k) with
 |false=>
  have hz:v=k:=by
   rw[hd]at hr hc;rw[NC hwf hc]at hr;omega
  by_cases h2:k+2<=s.length;have SU:(2:Int)<=(s.length:Int)-(k:Int):=by omega
  have h3:(k:Int)+2<=(s.length:Int):=by omega
  have Gh:(k:Int)<=(k:Int)+2:=by omega
  have h4:((k:Int)+2).toNat=k+2:=by omega
  have h5:(s.take (k+2)).drop k=(s.drop k).take 2:=by rw[agD,acn]
  rw[hc]at ZN;have h6:¬(s.drop k).take 2=[47,47]:=of_decide_eq_false ZN.symm;simp[aQ,hn,a32,a9,a10,a13,w0,w1,SU,h3,Gh,h4,h5,h6,hz];have SU:¬(2:Int)<=(s.length:Int)-(k:Int):=by omega
  simp[aQ,hn,a32,a9,a10,a13,w0,SU,hz]
 |true=>
  rw[hc]at ZN;have h6:(s.drop k).take 2=[47,47]:=of_decide_eq_true ZN.symm;have h2:k+2<=s.length:=by
   have:=congrArg List.length h6;rw[ad6,hdl]at this;simp at this;omega
  have SU:(2:Int)<=(s.length:Int)-(k:Int):=by omega
  have h3:(k:Int)+2<=(s.length:Int):=by omega
  have Gh:(k:Int)<=(k:Int)+2:=by omega
  have h4:((k:Int)+2).toNat=k+2:=by omega
  have h5:(s.take (k+2)).drop k=(s.drop k).take 2:=by rw[agD,acn]
  have arf:0<vE (s.drop k):=by rw[hd]at hc ⊢;exact ET hc
  have EU:k+vE (s.drop k)+g8 (s.drop (k+vE (s.drop k)))=v:=by
   have e:=hr;rw[hd]at hc e;rw[Rg hwf hc]at e;rw[<-hd,adx]at e;omega
  simp[aQ,hn,a32,a9,a10,a13,w0,w1,SU,h3,Gh,h4,h5,h6];refine aT Vb.eq_1 (λj:Nat=>⟨[(0,.val (.str s)),(1,.val (.int .i64 j))],[],[]⟩)
   (λj=>k<=j/\j<=s.length/\j+vE (s.drop j)=k+vE (s.drop k)) (λj=>s.length-j) k (by simp) ⟨by omega,by omega,rfl⟩ ?_
  intro j ⟨hkj,hj,hjr⟩ Rh;have nZ:j=k+vE (s.drop k)->j<=s.length/\j+g8 (s.drop j)=v:=λh=>⟨hj,by rw[h];exact EU⟩;by_cases kJ:j<s.length;have NF:=wk j (by omega);have hdj:=ox kJ;have hcj:vE (s.drop j)=if afw s[j].toNat 10 then 0 else vE (s.drop (j+1))+1:=by rw[hdj];rfl
  rw[vD]at hcj;generalize hm:s[j].toNat=m at *;by_cases m10:m=10;rw[decide_eq_true m10,if_pos rfl]at hcj;simp[kJ,hm,m10];exact ih j (nZ (by omega)) (by omega);have ans:¬(m:Int)=10:=by omega
  rw[decide_eq_false m10]at hcj;simp only[aaq,if_false]at hcj;simp[kJ,hm,ans,NF];exact Rh (j+1) ⟨by omega,by omega,by omega⟩ (by omega);have oe:j=s.length:=by omega
  have hcj:vE (s.drop j)=0:=by rw[oe,abp];rfl
  simp[kJ];exact ih j (nZ (by omega)) (by omega)
 have cL:k=s.length:=by omega
 subst cL;rw[abp]at hr;have:v=s.length:=by rw[<-hr];rfl
 simp[this]
end U2
namespace U2
open Ax Go aF
abbrev wE(k:Int)(t:List UInt8)(n:Int)(a:Nat):List AV:=[.int .i64 k,.str t,.int .i64 n,.int .i64 a]
def iX:List AV:=wE 0 [] 0 0
def tA(a:Nat)(t:List UInt8)(n:Nat):List AV×Nat:=if zJ t then (wE 3 t 0 a,n) else if vA t then (wE 1 t 0 a,n) else (iX,0)
def vF(l:List UInt8)(n:Nat):Bool:=match l.drop n with|d::_=>mN d | []=>false
def vG(a:Nat)(c:UInt8)(l:List UInt8)(n:Nat):List AV×Nat:=match vC 0 (l.take n) with
 |none=>(iX,0)
 |some v=>if agw 2 n&&afw c.toNat 48||vF l n then (iX,0) else (wE 2 [] v a,n)
def vH(a:Nat)(t:List UInt8):List AV×Nat:=match t with
 |[]=>(iX,0)
 |_=>(wE 4 t 0 a,t.length)
def tU(a:Nat)(l:List UInt8):List AV×Nat:=match l with
 |[]=>(iX,0)
 |c::_=>if mN c then tA a (l.take (tT false l)) (tT false l) else if qJ c then vG a c l (tT true l) else vH a (Ck l)
theorem Lh(s:List UInt8)(a n:Nat):(s.take (a+n)).drop a=(s.drop a).take n:=by rw[agD,acn]
theorem adR(wl aa:Nat)(s:List UInt8)(a:Nat)(st:ag)(ha:a<s.length)(hs:s.length<1000000000) :
  (aP S).call wl aa 65 [.str s,.int .i64 a] st=some (.ir [.agg (tU a (s.drop a)).1,.int .i64 (tU a (s.drop a)).2],st):=by
 have hd:=ox ha;have el:=λwl aa c st=>Bz wl aa c st;have ed:=λwl aa c st=>EO wl aa c st;have er:=λd=>adQ 0 0 s a d [] (by omega) hs;have hle:∀d,tT d (s.drop a)<=s.length-a:=λd=>by
  have:=AA d (s.drop a)
  rwa [acf]at this
 obtain⟨z,hz⟩:∃z,tU a (s.drop a)=z:=⟨_,rfl⟩;rw[hz];have mw:tU a (s.drop a)=if mN s[a] then tA a ((s.drop a).take (tT false (s.drop a))) (tT false (s.drop a)) else if qJ s[a] then vG a s[a] (s.drop a) (tT true (s.drop a)) else vH a (Ck (s.drop a)):=by
  rw[hd];rfl
 rw[mw]at hz;refine aH (sf:=Nv) rfl rfl (by simp) rfl ?_ ?_;have hp:(AV.agg z.1).ay=true:=by
  rw[<-hz];have h0:∀k t n a,(AV.agg (wE k t n a)).ay=true:=λ_ _ _ _=>by simp[AV.ay,AV.au]
  have h1:∀a t n,(AV.agg (tA a t n).1).ay=true:=λa t n=>by
   unfold tA iX;split;exact h0 _ _ _ _;split<;>exact h0 _ _ _ _
  have h2:∀a c l n,(AV.agg (vG a c l n).1).ay=true:=λa c l n=>by
   unfold vG iX;split;exact h0 _ _ _ _;split<;>exact h0 _ _ _ _
  have h3:∀a t,(AV.agg (vH a t).1).ay=true:=λa t=>by
   unfold vH iX;split<;>exact h0 _ _ _ _
  split;exact h1 _ _ _;split;exact h2 _ _ _ _;exact h3 _ _
 simp[AV.ay,AV.au]at hp ⊢;exact hp;cases e1:mN s[a] with
 |true=>
  rw[e1,if_pos rfl]at hz;have hn:=hle false;have er:=er false;generalize hnn:tT false (s.drop a)=n at *;have w0:IntKind.i64.wrap ((a:Int)+(n:Int))=((a+n:Nat):Int):=by rw[cI]<;>omega
  have h1:(a:Int)<=(a:Int)+(n:Int):=by omega
  have h2:(a:Int)+(n:Int)<=(s.length:Int):=by omega
  have h3:((a:Int)+(n:Int)).toNat=a+n:=by omega
  have Pw:=Lh s a n;have aQ:((s.drop a).take n).length<1000000000:=by rw[ad6,acf];omega
  generalize Kb:(s.drop a).take n=t at *;have ew:=λwl aa st=>Pr wl aa t st;have en:=λwl aa st=>oy wl aa t st aQ;unfold tA at hz;cases e2:zJ t with
  |true=>
   rw[e2,if_pos rfl]at hz;subst hz;simp[Nv,ha,el,e1,er,w0,h1,h2,h3,Pw,ew,e2]
  |false=>
   cases e3:vA t with
   |true=>
    rw[e2,e3]at hz;simp only[aaq,if_false,if_true]at hz;subst hz;simp[Nv,ha,el,e1,er,w0,h1,h2,h3,Pw,ew,e2,en,e3]
   |false=>
    rw[e2,e3]at hz;simp only[aaq,if_false]at hz;subst hz;simp[Nv,ha,el,e1,er,w0,h1,h2,h3,Pw,ew,e2,en,e3,iX]
 |false=>
  rw[e1]at hz;simp only[aaq,if_false]at hz;cases e4:qJ s[a] with
  |true=>
   rw[e4,if_pos rfl]at hz;have hn:=hle true;have er:=er true;have jZ:=Le true (s.drop a);generalize hnn:tT true (s.drop a)=n at *;have w0:IntKind.i64.wrap ((a:Int)+(n:Int))=((a+n:Nat):Int):=(by rw[cI]<;>omega);have h1:(a:Int)<=(a:Int)+(n:Int):=(by omega);have h2:(a:Int)+(n:Int)<=(s.length:Int):=(by omega);have h3:((a:Int)+(n:Int)).toNat=a+n:=(by omega);have Pw:=Lh s a n;have aQ:((s.drop a).take n).length<1000000000:=(by rw[ad6,acf];omega);have SW:=λwl aa st=>VC wl aa ((s.drop a).take n) st aQ (λc hc=>by simpa [pR] using jZ c hc);generalize Kb:(s.drop a).take n=t at *;have ant:vG a s[a] (s.drop a) n=match vC 0 t with
    |none=>(iX,0)
    |some v=>if agw 2 n&&afw s[a].toNat 48||vF (s.drop a) n then (iX,0) else (wE 2 [] v a,n):=by unfold vG;rw[Kb]
   rw[ant]at hz;cases e5:vC 0 t with
   |none=>
    rw[e5]at hz SW;simp only at hz SW;subst hz;simp[Nv,ha,el,ed,e1,e4,er,w0,h1,h2,h3,Pw,SW,iX]
   |some v=>
    rw[e5]at hz SW;simp only at hz SW;have hnx:vF (s.drop a) n=match s.drop (a+n) with|d::_=>mN d | []=>false:=by unfold vF;rw[adx]
    simp only[pT,vD]at hz;have h0:(0:Int)<=(a:Int)+(n:Int):=(by omega);have key:∀b:Bool,(decide (2<=n)&&decide (s[a].toNat=48))=b->∀q:Bool,vF (s.drop a) n=q->z=if b||q then (iX,0) else (wE 2 [] v a,n):=λb hb q hq=>by rw[<-hz,hb,hq]
    by_cases p1:2<=n/\s[a].toNat=48;have CJ:z=(iX,0):=(by rw[key true (by simp[p1]) _ rfl];rfl);have q1:(1:Int)<(n:Int):=(by omega);subst CJ;have adS:=λwl aa st=>el wl aa s[a] st;have adT:=λwl aa st=>ed wl aa s[a] st;have p2:(s[a].toNat:Int)=48:=(by omega);rw[e1]at adS;rw[e4]at adT;rw[p2]at adS adT;simp[Nv,ha,adS,adT,er,w0,h1,h2,h3,Pw,SW,q1,p1.2,iX];have pf:(decide (2<=n)&&decide (s[a].toNat=48))=false:=by
     rw[Bool.and_eq_false_iff,decide_eq_false_iff_not,decide_eq_false_iff_not];by_cases h:2<=n;exact .inr λe=>p1 ⟨h,e⟩;exact .inl h
    by_cases kH:a+n<s.length;have NG:(a:Int)+(n:Int)<(s.length:Int):=(by omega);have hq:vF (s.drop a) n=mN s[a+n]:=(by rw[hnx,ox kH]);have CJ:=key false pf _ hq;simp only[Bool.false_or]at CJ;by_cases q1:2<=n;have ZO:(1:Int)<(n:Int):=(by omega);have q2:¬s[a].toNat=48:=λe=>p1 ⟨q1,e⟩;have q2':¬(s[a].toNat:Int)=48:=(by omega);cases e6:mN s[a+n] with
    |true=>
     rw[e6,if_pos rfl]at CJ;subst CJ;simp[Nv,ha,el,ed,e1,e4,er,w0,h1,h2,h3,Pw,SW,ZO,q2',h0,NG,kH,e6,iX]
    |false=>
     rw[e6]at CJ;simp only[aaq,if_false]at CJ;subst CJ;simp[Nv,ha,el,ed,e1,e4,er,w0,h1,h2,h3,Pw,SW,ZO,q2',h0,NG,kH,e6]
    have ZO:¬(1:Int)<(n:Int):=(by omega);cases e6:mN s[a+n] with
    |true=>
     rw[e6,if_pos rfl]at CJ;subst CJ;simp[Nv,ha,el,ed,e1,e4,er,w0,h1,h2,h3,Pw,SW,ZO,h0,NG,kH,e6,iX]
    |false=>
     rw[e6]at CJ;simp only[aaq,if_false]at CJ;subst CJ;simp[Nv,ha,el,ed,e1,e4,er,w0,h1,h2,h3,Pw,SW,ZO,h0,NG,kH,e6]
    have NG:¬(a:Int)+(n:Int)<(s.length:Int):=(by omega);have hq:vF (s.drop a) n=false:=(by rw[hnx,List.drop_eq_nil_of_le (by omega)]);have CJ:=key false pf _ hq;simp only[Bool.or_self,aaq,if_false]at CJ;subst CJ;by_cases q1:2<=n;have ZO:(1:Int)<(n:Int):=(by omega);have q2:¬s[a].toNat=48:=λe=>p1 ⟨q1,e⟩;have q2':¬(s[a].toNat:Int)=48:=(by omega);simp[Nv,ha,el,ed,e1,e4,er,w0,h1,h2,h3,Pw,SW,ZO,q2',NG];have ZO:¬(1:Int)<(n:Int):=(by omega);simp[Nv,ha,el,ed,e1,e4,er,w0,h1,h2,h3,Pw,SW,ZO,NG]
  |false=>
   rw[e4]at hz;simp only[aaq,if_false]at hz;have es:=ZM 0 0 s a [] ha hs;generalize Ck (s.drop a)=t at *;cases t with
   |nil=>
    have CJ:z=(iX,0):=hz.symm;subst CJ;simp[Nv,ha,el,ed,e1,e4,es,iX]
   |cons b t=>
    have CJ:z=(wE 4 (b::t) 0 a,(b::t).length):=hz.symm;subst CJ;simp[Nv,ha,el,ed,e1,e4,es]
end U2
namespace U2
open Ax Go aF
def zK:Nat->Nat->List UInt8->List (List AV)×Option Nat
 |0,_,_=>([],none)
 |_+1,a,[]=>([wE 0 [] 0 a],none)
 |n+1,a,c::l=>match tU a (c::l) with
  |(_,0)=>([],some a)
  |(t,k+1)=>match zK n (a+(k+1)+g8 ((c::l).drop (k+1))) (((c::l).drop (k+1)).drop (g8 ((c::l).drop (k+1)))) with
   |(rows,none)=>(t::rows,none)
   |(_,some e)=>([],some e)
def Gi(s:List UInt8):List (List AV)×Option Nat:=zK (s.length+1) (g8 s) (s.drop (g8 s))
def Li(x:List (List AV)×Option Nat):AV×List AV:=match x with
 |(rows,none)=>(bF 4 rows,[.int .i64 0,.int .i64 0])
 |(_,some e)=>(.U,[.int .i64 1,.int .i64 e])
def I1(s:List UInt8):AV×List AV:=if agw s.length 6000 then Li (Gi s) else (.U,[.int .i64 4,.int .i64 0])
theorem VE(l:List UInt8):(Ck l).length<=l.length:=by
 unfold Ck;split;rw[ad6];omega;split;exact aaH _;split<;>simp
theorem Px(a:Nat)(l:List UInt8):(tU a l).2<=l.length:=by
 unfold tU;split;exact acH _;rename_i c r;split;unfold tA;split;exact AA _ _;split;exact AA _ _;exact acH _;split;unfold vG;split;exact acH _;split;exact acH _;exact AA _ _;have h:=VE (c::r);unfold vH;split;exact acH _;exact h
theorem VF(a:Nat)(l:List UInt8):∃k t n b,(tU a l).1=wE k t n b:=by
 unfold tU;split;exact⟨_,_,_,_,rfl⟩;split;unfold tA;split;exact⟨_,_,_,_,rfl⟩;split<;>exact⟨_,_,_,_,rfl⟩;split;unfold vG;split;exact⟨_,_,_,_,rfl⟩;split<;>exact⟨_,_,_,_,rfl⟩;unfold vH;split<;>exact⟨_,_,_,_,rfl⟩
def EW(rows:List (List AV))(x:List (List AV)×Option Nat):List (List AV)×Option Nat:=match x with
 |(r,none)=>(rows++r,none)
 |(_,some e)=>([],some e)
theorem Ri(x:List (List AV)×Option Nat):Li (EW [] x)=Li x:=by
 obtain⟨r,e⟩:=x;cases e<;>rfl
theorem Rj{n a:Nat}{l:List UInt8}(h:l.length<n)(rows:List (List AV))(h0:l=[]):EW rows (zK n a l)=(rows++[wE 0 [] 0 a],none):=by
 subst h0;cases n with
 |zero=>simp at h|succ n=>rfl
theorem Rk{n a:Nat}{l:List UInt8}(h:l.length<n)(rows:List (List AV))(h0:l≠[])(h1:(tU a l).2=0):EW rows (zK n a l)=([],some a):=by
 cases n with
 |zero=>simp at h|succ n=>
  cases l with
  |nil=>exact absurd rfl h0|cons c l=>
   simp only[zK];generalize tU a (c::l)=z at *;obtain⟨t,k⟩:=z;simp only at h1;subst h1
   rfl
theorem NH{n a k:Nat}{l:List UInt8}(h:l.length<n)(rows:List (List AV))(h0:l≠[])(h1:(tU a l).2=k+1):∃m,(l.drop (k+1+g8 (l.drop (k+1)))).length<m/\
  EW rows (zK n a l)=EW (rows++[(tU a l).1]) (zK m (a+(k+1)+g8 (l.drop (k+1))) (l.drop (k+1+g8 (l.drop (k+1))))):=by
 cases n with
 |zero=>simp at h|succ n=>
  cases l with
  |nil=>exact absurd rfl h0|cons c l=>
   refine⟨n,by rw[acf,abq];simp only[abq]at h;omega,?_⟩;simp only[zK];generalize tU a (c::l)=z at *;obtain⟨t,k'⟩:=z;simp only at h1;subst h1;simp only[adx];generalize zK n (a+(k+1)+g8 ((c::l).drop (k+1))) ((c::l).drop (k+1+g8 ((c::l).drop (k+1))))=y;obtain⟨r,e⟩:=y;cases e with
   |none=>simp[EW]|some e=>rfl
theorem Rl(wl aa:Nat)(s:List UInt8)(st:ag):(aP S).call wl aa 31 [.str s] st=some (.ir [(I1 s).1,.agg (I1 s).2],st):=by
 have hV:∀z:AV×List AV,z=I1 s->(AV.ir [z.1,.agg z.2]).ay=true:=λz hz=>by
  subst hz;unfold I1;split;unfold Li;split;simp[AV.ay,AV.au];simp[AV.ay,AV.au];simp[AV.ay,AV.au]
 refine aH (sf:=s31) rfl rfl (by simp) rfl (hV _ rfl) ?_;unfold I1;rw[pT];by_cases hl:s.length<=6000;have yX:¬(6000:Int)<(s.length:Int):=by omega
 rw[decide_eq_true hl,if_pos rfl];have hs:s.length<1000000000:=by omega
 have e0:(aP S).call 0 0 64 [.str s,.int .i64 0] []=some (.int .i64 (g8 s:Nat),[]):=by
  have:=Lg 0 0 s 0 [] (acH _) hs;simpa using this
 have b0:=AD s;obtain⟨F,hF⟩:∃F,Li (Gi s)=F:=⟨_,rfl⟩;rw[hF];simp[s31,yX,e0];refine aT UR.eq_1 (λq:Nat×List (List AV)×List AV=>⟨[(0,.val (.str s)),(3,.fp 0 0),(4,.val (bF 4 q.2.1)),(5,.val (.int .i64 q.1))],[[.int .i64 0,.int .i64 0],q.2.2],[]⟩)
  (λq=>q.1<=s.length/\q.2.1.length<=q.1/\∃m,(s.drop q.1).length<m/\Li (EW q.2.1 (zK m q.1 (s.drop q.1)))=F) (λq=>s.length-q.1) (g8 s,[],[]) ?_ ?_ ?_
 rfl
 exact⟨by simpa using b0,by simp,s.length+1,by rw[acf];omega,by rw[<-hF];exact Ri _⟩;rintro⟨a,rows,bb⟩ ⟨ha,qQ,m,hm,hj⟩ ih;simp only at ha qQ hm hj ih;by_cases aQ:a<s.length;have jJ:s.drop a≠[]:=by rw[ox aQ];exact List.cons_ne_nil _ _
 have e1:=adR 0 0 s a [] aQ hs;have hle:=Px a (s.drop a);rw[acf]at hle;obtain⟨kd,tx,nn,pp,ff⟩:=VF a (s.drop a);rw[ff]at e1;by_cases hz:(tU a (s.drop a)).2=0;rw[Rk hm rows jJ hz]at hj;have hF':F=(.U,[.int .i64 1,.int .i64 a]):=hj.symm;subst hF';rw[hz]at e1;simp[aQ,e1];obtain⟨k,hk⟩:∃k,(tU a (s.drop a)).2=k+1:=⟨(tU a (s.drop a)).2-1,by omega⟩;obtain⟨m',hm',hj'⟩:=NH hm rows jJ hk;rw[hj',ff]at hj;rw[hk]at e1 hle;have hkz:¬((k+1:Nat):Int)=0:=by omega
 have hw:IntKind.i64.wrap ((a:Int)+((k+1:Nat):Int))=((a+(k+1):Nat):Int):=by rw[cI]<;>omega
 have eb:=Lg 0 0 s (a+(k+1)) [] (by omega) hs;have hbl:=AD (s.drop (a+(k+1)));rw[acf]at hbl;rw[adx]at hj hm';have nC:=eB (sz:=4) (bytes:=40) (r:=rows) (new:=[wE kd tx nn pp]) (by simp[bw]) (by simp[dQ];omega);simp only[aes,afy]at e1 hkz hw eb;simp[aQ,e1,hkz,hw,eb,nC];have:=ih (a+(k+1)+g8 (s.drop (a+(k+1))),rows++[wE kd tx nn pp],wE kd tx nn pp) ⟨by simp only;omega,by simp;omega,m',by simpa [Nat.add_assoc] using hm',by simpa [Nat.add_assoc] using hj⟩ (by simp only;omega);exact this;have Mu:a=s.length:=by omega
 have tP:s.drop a=[]:=by rw[Mu,abp]
 rw[Rj hm rows tP]at hj;have hF':F=(bF 4 (rows++[wE 0 [] 0 a]),[.int .i64 0,.int .i64 0]):=hj.symm;subst hF';have nC:=eB (sz:=4) (bytes:=40) (r:=rows) (new:=[wE 0 [] 0 a]) (by simp[bw]) (by simp[dQ];omega);rw[Mu]at nC ⊢;simp[nC];have yX:(6000:Int)<(s.length:Int):=by omega
 rw[decide_eq_false hl];simp[s31,yX]
end U2
