/- Part of a proof. -/
import Derived.Test.YtpnadocbfbbboaaGreatCode2

open List renaming any_eq_true->aeB,getElem_mem->aaq,any_eq_false->agU,mem_iff_getElem->abo,drop_length->aaC,length_drop->acF,drop_take->agp,length_take->aep,length_eq_zero_iff->agK,length_cons->abr,drop_drop->adC
open Nat renaming ble->agj,beq->aez,eq_of_beq_eq_true->ag2,ne_of_beq_eq_false->ahz,le_refl->aau,add_sub_cancel_left->adE,zero_le->adF
open Int renaming natCast_add->aeo,cast_ofNat_Int->aeA
open Bool renaming and_eq_true->aac,false_eq_true->aan
set_option maxRecDepth 100000
set_option maxHeartbeats 4000000
namespace U2
open Ax Go bY
def mU(c:UInt8):Bool:=agj 97 c.toNat&&agj c.toNat 122||agj 65 c.toNat&&agj c.toNat 90
def qS(c:UInt8):Bool:=agj 48 c.toNat&&agj c.toNat 57
theorem pX(a b:Nat):agj a b=decide (a<=b):=by
 cases h:agj a b with
 |true=>exact(bM (Nat.le_of_ble_eq_true h)).symm|false=>exact(cu (λe=>by rw[Nat.ble_eq_true_of_le e]at h;cases h)).symm
theorem BK(wl aa:Nat)(c:UInt8)(st:ay):(aZ S).call wl aa 58 [.int .u8 c.toNat] st=some (.bool (mU c),st):=by
 refine bT (sf:=s58) rfl rfl (by simp) rfl (by simp) ?_;simp only[mU,pX];generalize c.toNat=n;by_cases h1:97<=n;by_cases h2:n<=122;have a1:(97:Int)<=n:=by omega
 have a2:(n:Int)<=122:=by omega
 simp[s58,h1,h2,a1,a2];have a1:(97:Int)<=n:=by omega
 have a2:¬(n:Int)<=122:=by omega
 have a3:(65:Int)<=n:=by omega
 have a4:¬(n:Int)<=90:=by omega
 have h4:¬n<=90:=by omega
 simp[s58,h1,h2,h4,a1,a2,a3,a4];have a1:¬(97:Int)<=n:=by omega
 by_cases h3:65<=n;have a3:(65:Int)<=n:=by omega
 by_cases h4:n<=90;have a4:(n:Int)<=90:=by omega
 simp[s58,h1,h3,h4,a1,a3,a4];have a4:¬(n:Int)<=90:=by omega
 simp[s58,h1,h3,h4,a1,a3,a4];have a3:¬(65:Int)<=n:=by omega
 simp[s58,h1,h3,a1,a3]
theorem EU(wl aa:Nat)(c:UInt8)(st:ay):(aZ S).call wl aa 62 [.int .u8 c.toNat] st=some (.bool (qS c),st):=by
 refine bT (sf:=s62) rfl rfl (by simp) rfl (by simp) ?_;simp only[qS,pX];generalize c.toNat=n;by_cases h1:48<=n;have a1:(48:Int)<=n:=by omega
 by_cases h2:n<=57;have a2:(n:Int)<=57:=by omega
 simp[s62,h1,h2,a1,a2];have a2:¬(n:Int)<=57:=by omega
 simp[s62,h1,h2,a1,a2];have a1:¬(48:Int)<=n:=by omega
 simp[s62,h1,a1]
def EV:List (List UInt8):=[[114,101,99,111,114,100],[103,108,111,98,97,108],[102,117,110,99],[118,97,114],[108,101,116],[105,102],[101,108,115,101],[119,104,105,108,101],[114,101,116,117,114,110],[112,114,105,110,116],[110,117,108,108],[110,101,119],[108,101,110],[114,101,97,100],[116,114,117,101],[102,97,108,115,101],[105,110,116],[98,111,111,108]]
def nA(l:List (List UInt8)):List (List AV):=l.map λw=>[.str w]
theorem Ui(wl aa:Nat)(st:ay):(aZ S).call wl aa 90 [] st=some (.eE 1 (nA EV),st):=by
 refine bT (sf:=s90) rfl rfl (by simp) rfl (by simp) ?_;simp[s90,nA,EV]
def eqB:List UInt8->List UInt8->Bool
 |[],[]=>true|a::x,b::y=>aez a.toNat b.toNat&&eqB x y|_,_=>false
theorem Uj:∀x y:List UInt8,eqB x y=decide (x=y)
 |[],[]=>rfl|[],_::_=>rfl|_::_,[]=>rfl|a::x,b::y=>by
  have h:aez a.toNat b.toNat=decide (a=b):=by
   cases e:aez a.toNat b.toNat with
   |true=>exact(bM (UInt8.toNat_inj.1 (ag2 e))).symm|false=>exact(cu (λq=>ahz e (by rw[q]))).symm
  rw[eqB,Uj x y,h];by_cases p:a=b<;>by_cases q:x=y<;>simp[p,q]
def IL(s:List UInt8):List (List UInt8)->Bool
 |[]=>false|w::l=>eqB w s||IL s l
theorem xF(s:List UInt8):∀l,IL s l=l.any λw=>decide (w=s)
 |[]=>rfl|w::l=>by rw[IL,Uj,xF s l];rfl
def zD(t:List UInt8):Bool:=IL t EV
theorem Cu(l:List (List UInt8))(k:Nat)(h:k<l.length)(hh:k<(nA l).length):(nA l)[k]'hh=[.str (l[k]'h)]:=by
 simp[nA]
theorem OI(wl aa:Nat)(t:List UInt8)(st:ay):(aZ S).call wl aa 60 [.str t] st=some (.bool (zD t),st):=by
 have ew:=Ui 0 0 [];refine bT (sf:=s60) rfl rfl (by simp) rfl (by simp) ?_;unfold zD;have hle:EV.length<1000:=by decide
 generalize EV=L at *;simp[s60,ew];have qi:(nA L).length=L.length:=by simp[nA]
 refine bH TE.eq_1 (λk:Nat=>⟨[(0,.val (.str t)),(3,.val (.eE 1 (nA L))),(4,.val (.int .i64 k))],[],[]⟩)
  (λk=>k<=L.length/\∀j (h:j<L.length),j<k->L[j]≠t) (λk=>L.length-k) 0 (by simp) ⟨by simp,λ_ _ h=>aU h (by omega)⟩ ?_
 intro k ⟨hk,hn⟩ ih;by_cases bC:k<L.length;have hw:=wk k (by omega);have kG:(k:Int)<(L.length:Int):=by omega
 have hg:=Cu L k bC;by_cases he:L[k]=t;have hm:IL t L=true:=by
  rw[xF,aeB];exact⟨_,aaq bC,by simpa using he⟩
 simp[qi,bC,hg,he,hm,AV.ai];simp[qi,bC,hg,he,hw,AV.ai];exact ih (k+1) ⟨by omega,λj hj h=>by
  by_cases wF:j=k;subst wF;exact he;exact hn j hj (by omega)⟩ (by omega)
 have fR:k=L.length:=by omega
 have hm:IL t L=false:=by
  rw[xF,agU];intro w hw;obtain⟨j,hj,rfl⟩:=abo.1 hw;simpa using hn j hj (by omega)
 simp[qi,bC,hm]
def pR(d:Bool)(c:UInt8):Bool:=qS c || !d&&mU c
def uq(d:Bool):List UInt8->Nat
 |[]=>0|c::l=>if pR d c then uq d l+1 else 0
theorem Ay(d:Bool):∀l,uq d l<=l.length
 |[]=>aau _|c::l=>by
  simp only[uq];have:=Ay d l;split<;>simp<;>omega
theorem KI(d:Bool):∀l:List UInt8,∀c∈l.take (uq d l),pR d c=true
 |[],c,h=>by simp[uq]at h|a::l,c,h=>by
  simp only[uq]at h;split at h;rename_i hp;simp only[List.take_succ_cons,List.mem_cons]at h;rcases h with rfl|h;exact hp;exact KI d l c h;simp at h
theorem oh{s:List UInt8}{n:Nat}(h:n<s.length):s.drop n=s[n]::s.drop (n+1):=List.drop_eq_getElem_cons h
theorem EW(wl aa:Nat)(s:List UInt8)(at_:Nat)(d:Bool)(st:ay)(ha:at_<=s.length)(hs:s.length<1000000000) :
  (aZ S).call wl aa 59 [.str s,.int .i64 at_,.bool d] st=some (.int .i64 (uq d (s.drop at_)),st):=by
 have el:=λwl aa c st=>BK wl aa c st;have ed:=λwl aa c st=>EU wl aa c st;refine bT (sf:=s59) rfl rfl (by simp) rfl (by simp) ?_;simp[s59];refine bH TD.eq_1 (λn:Nat=>⟨[(0,.val (.str s)),(1,.val (.int .i64 at_)),(2,.val (.bool d)),(7,.val (.int .i64 n))],[],[]⟩)
  (λn=>at_+n<=s.length/\uq d (s.drop at_)=n+uq d (s.drop (at_+n))) (λn=>s.length-(at_+n)) 0 (by simp) ⟨by omega,by simp⟩ ?_
 intro n ⟨hn,hr⟩ ih;have hw:=wk n (by omega);have C4:IntKind.i64.wrap ((at_:Int)+(n:Int))=((at_+n:Nat):Int):=by rw[eR]<;>omega
 by_cases bC:at_+n<s.length;have kG:(at_:Int)+(n:Int)<(s.length:Int):=by omega
 have h0:(0:Int)<=(at_:Int)+(n:Int):=by omega
 have hnn:((at_:Int)+(n:Int)).toNat=at_+n:=by omega
 have hd:=oh bC;generalize hc:s[at_+n]=c at *;have xG:uq d (s.drop (at_+n))=if pR d c then uq d (s.drop (at_+(n+1)))+1 else 0:=by rw[hd];rfl
 cases e1:qS c with
 |true=>
  have hp:pR d c=true:=by simp[pR,e1]
  rw[hp,ah rfl]at xG;simp[hw,C4,bC,kG,h0,hnn,hc,ed,e1];exact ih (n+1) ⟨by omega,by rw[hr,xG];omega⟩ (by omega)
 |false=>
  cases d with
  |true=>
   have hp:pR true c=false:=(by simp[pR,e1]);rw[hp]at xG;simp[C4,bC,kG,h0,hnn,hc,ed,e1,hr,xG]
  |false=>
   cases e2:mU c with
   |true=>
    have hp:pR false c=true:=(by simp[pR,e2]);rw[hp,ah rfl]at xG;simp[hw,C4,bC,kG,h0,hnn,hc,ed,el,e1,e2];exact ih (n+1) ⟨by omega,by rw[hr,xG];omega⟩ (by omega)
   |false=>
    have hp:pR false c=false:=(by simp[pR,e1,e2]);rw[hp]at xG;simp[C4,bC,kG,h0,hnn,hc,ed,el,e1,e2,hr,xG]
 have N3:at_+n=s.length:=by omega
 have kG:¬(at_:Int)+(n:Int)<(s.length:Int):=by omega
 have he:uq d (s.drop (at_+n))=0:=by rw[N3,aaC];rfl
 simp[C4,kG,hr,he]
end U2
namespace U2
open Ax Go bY
def vO(t:List UInt8):Bool:=match t with
 |[]=>false|c::_=>agj t.length 8&&mU c && !zD t&&t.all λc=>mU c||qS c
theorem Uk{c:UInt8}{l:List UInt8}(h8:l.length+1<=8)(h1:mU c=true)(h2:zD (c::l)=false):vO (c::l)=(c::l).all λc=>mU c||qS c:=by
 simp[vO,pX,h8,h1,h2]
theorem om(wl aa:Nat)(t:List UInt8)(st:ay)(ht:t.length<1000000000):(aZ S).call wl aa 61 [.str t] st=some (.bool (vO t),st):=by
 have ew:=OI 0 0 t [];have el:=λwl aa c st=>BK wl aa c st;have ed:=λwl aa c st=>EU wl aa c st;obtain⟨v,hv⟩:∃v,vO t=v:=⟨_,rfl⟩;rw[hv];refine bT (sf:=s61) rfl rfl (by simp) rfl (by simp) ?_;cases t with
 |nil=>
  have FZ:v=false:=hv.symm;simp[s61,FZ]
 |cons c l=>
  have h1:¬((l.length:Int)+1<1):=by omega
  by_cases h8:l.length+1<=8;have h8':¬(8:Int)<(l.length:Int)+1:=by omega
  cases e1:mU c with
  |false=>
   have FZ:v=false:=(by rw[<-hv];simp[vO,e1]);simp[s61,h1,h8',el,e1,FZ]
  |true=>
   cases e2:zD (c::l) with
   |true=>
    have FZ:v=false:=(by rw[<-hv];simp[vO,e2]);simp[s61,h1,h8',el,e1,ew,e2,FZ]
   |false=>
    rw[Uk h8 e1 e2]at hv;simp[s61,h1,h8',el,e1,ew,e2];refine bH TF.eq_1 (λk:Nat=>⟨[(0,.val (.str (c::l))),(3,.val (.int .i64 k))],[],[]⟩)
     (λk=>k<=(c::l).length/\∀j (h:j<(c::l).length),j<k->(mU (c::l)[j]||qS (c::l)[j])=true) (λk=>(c::l).length-k) 0 (by simp) ⟨by simp,λ_ _ h=>aU h (by omega)⟩ ?_
    generalize c::l=T at *;intro k ⟨hk,hn⟩ ih;by_cases bC:k<T.length;have hw:=wk k (by omega);have no:(mU T[k]||qS T[k])=false->v=false:=λh=>by
     rw[<-hv,List.all_eq_false];exact⟨_,aaq bC,by simp[h]⟩
    have yes:(mU T[k]||qS T[k])=true->∀j (h:j<T.length),j<k+1->(mU T[j]||qS T[j])=true:=λh j hj wF=>by
     by_cases EY:j=k;subst EY;exact h;exact hn j hj (by omega)
    cases a1:mU T[k] with
    |true=>
     simp[bC,el,a1,hw];exact ih (k+1) ⟨by omega,yes (by rw[a1];rfl)⟩ (by omega)
    |false=>
     cases a2:qS T[k] with
     |true=>
      simp[bC,el,ed,a1,a2,hw];exact ih (k+1) ⟨by omega,yes (by rw[a1,a2];rfl)⟩ (by omega)
     |false=>
      have FZ:=no (by rw[a1,a2];rfl);simp[bC,el,ed,a1,a2,FZ]
    have fR:k=T.length:=(by omega);have FZ:v=true:=by
     rw[<-hv,List.all_eq_true];intro x hx;obtain⟨j,hj,rfl⟩:=abo.1 hx;exact hn j hj (by omega)
    simp[bC,FZ]
  have h8':(8:Int)<(l.length:Int)+1:=by omega
  have FZ:v=false:=by rw[<-hv];simp[vO,pX];omega
  simp[s61,h1,h8',FZ]
def vP:Nat->List UInt8->Option Nat
 |n,[]=>some n|n,c::l=>if agj n ((9223372036854775807-(c.toNat-48)) / 10) then vP (10*n+(c.toNat-48)) l else none
theorem Hq{P:Nat->Prop}(h:P 0/\P 1/\P 2/\P 3/\P 4/\P 5/\P 6/\P 7/\P 8/\P 9)(k:Nat)(hk:k<=9):P k:=by
 obtain⟨h0,h1,h2,h3,h4,h5,h6,h7,h8,h9⟩:=h;have:k=0\/k=1\/k=2\/k=3\/k=4\/k=5\/k=6\/k=7\/k=8\/k=9:=by omega
 rcases this with h|h|h|h|h|h|h|h|h|h<;>subst h<;>assumption
theorem XD(k:Nat)(hk:k<=9):IntKind.u8.wrap (((48+k:Nat):Int)-48)=(k:Int):=
 Hq (P:=λk=>IntKind.u8.wrap (((48+k:Nat):Int)-48)=(k:Int)) (by refine⟨?_,?_,?_,?_,?_,?_,?_,?_,?_,?_⟩<;>rfl) k hk
theorem XE(k:Nat)(hk:k<=9):IntKind.i64.wrap (Int.tdiv (IntKind.i64.wrap (9223372036854775807-(k:Int))) 10)=(((9223372036854775807-k) / 10:Nat):Int):=
 Hq (P:=λk=>IntKind.i64.wrap (Int.tdiv (IntKind.i64.wrap (9223372036854775807-(k:Int))) 10)=(((9223372036854775807-k) / 10:Nat):Int)) (by refine⟨?_,?_,?_,?_,?_,?_,?_,?_,?_,?_⟩<;>rfl) k hk
theorem Ul(wl aa:Nat)(t:List UInt8)(st:ay)(ht:t.length<1000000000)(hd:∀c∈t,qS c=true) :
  (aZ S).call wl aa 63 [.str t] st=some (match vP 0 t with|some n=>.fK [.int .i64 n,.bool true]|none=>.fK [.int .i64 0,.bool false],st):=by
 obtain⟨v,hv⟩:∃v,vP 0 t=v:=⟨_,rfl⟩;rw[hv];refine bT (sf:=s63) rfl rfl (by simp) rfl (by cases v<;>simp[AV.aB,AV.ax]) ?_;simp[s63];refine bH TH.eq_1 (λq:Nat×Nat=>⟨[(0,.val (.str t)),(4,.val (.int .i64 q.2)),(5,.val (.int .i64 q.1))],[],[]⟩)
  (λq=>q.1<=t.length/\q.2<=9223372036854775807/\vP q.2 (t.drop q.1)=v) (λq=>t.length-q.1) (0,0) (by simp) ⟨by simp,by simp,by simpa using hv⟩ ?_
 rintro⟨k,n⟩ ⟨hk,hn,hr⟩ ih;simp only at hk hn hr ih;by_cases bC:k<t.length;have hw:=wk k (by omega);have hc:=hd _ (aaq bC);rw[oh bC]at hr;generalize GI:t[k]=c at *;simp only[qS,pX,aac,aK]at hc;simp only[vP,pX]at hr;obtain⟨m,hm⟩:∃m,c.toNat=48+m:=⟨c.toNat-48,by omega⟩;have hm9:m<=9:=by omega
 have e1:=XD m hm9;have e2:=XE m hm9;have e3:IntKind.i64.wrap (m:Int)=(m:Int):=by rw[eR]<;>omega
 rw[hm,adE]at hr;have hb:(9223372036854775807-m) / 10<=922337203685477580:=by omega
 generalize hq:(9223372036854775807-m) / 10=q at *;by_cases hle:n<=q;have RW:¬(q:Int)<(n:Int):=by omega
 have e4:IntKind.i64.wrap (10*(n:Int))=((10*n:Nat):Int):=by rw[eR]<;>omega
 have e5:IntKind.i64.wrap (((10*n:Nat):Int)+(m:Int))=((10*n+m:Nat):Int):=by rw[eR]<;>omega
 rw[bM hle,ah rfl]at hr;simp only[Int.natCast_mul,aeo,aeA]at e1 e4 e5;simp[bC,GI,hm,e1,e2,e3,e4,e5,RW,hw];exact ih (k+1,10*n+m) ⟨by simp;omega,by simp;omega,hr⟩ (by simp;omega);have RW:(q:Int)<(n:Int):=by omega
 rw[cu hle]at hr;simp only[aan,aS]at hr;subst hr;simp only[aeo,aeA]at e1;simp[bC,GI,hm,e1,e2,e3,RW];have fR:k=t.length:=by omega
 subst fR;rw[aaC]at hr;simp only[vP]at hr;subst hr;simp
end U2
namespace U2
open Ax Go bY
def Um:List (List UInt8):=[[60,61],[61,61],[33,61],[38,38],[124,124]]
def OJ:List UInt8:=[123,125,40,41,91,93,59,58,44,46,61,43,45,42,47,37,60,33]
def Qp(c:UInt8):List UInt8->Bool
 |[]=>false|a::l=>aez c.toNat a.toNat||Qp c l
theorem vQ(a b:Nat):aez a b=decide (a=b):=by
 cases h:aez a b with
 |true=>exact(bM (ag2 h)).symm|false=>exact(cu (ahz h)).symm
theorem EZ(c:UInt8):∀l,Qp c l=l.any λa=>decide (c.toNat=a.toNat)
 |[]=>rfl|a::l=>by rw[Qp,vQ,EZ c l];rfl
def Cv(l:List UInt8):List UInt8:=if IL (l.take 2) Um then l.take 2 else match l with
 |[]=>[]
 |c::_=>if Qp c OJ then [c] else []
theorem XF(wl aa:Nat)(s:List UInt8)(at_:Nat)(st:ay)(ha:at_<s.length)(hs:s.length<1000000000) :
  (aZ S).call wl aa 64 [.str s,.int .i64 at_] st=some (.str (Cv (s.drop at_)),st):=by
 obtain⟨v,hv⟩:∃v,Cv (s.drop at_)=v:=⟨_,rfl⟩;rw[hv];refine bT (sf:=s64) rfl rfl (by simp) rfl (by simp) ?_;have hL2:∀w∈Um,w.length=2:=by decide
 have hLl:Um.length<1000:=by decide
 have hOl:OJ.length<1000:=by decide
 have akW:(AV.eE 1 [[AV.str [60,61]],[AV.str [61,61]],[AV.str [33,61]],[AV.str [38,38]],[AV.str [124,124]]])=.eE 1 (nA Um):=rfl;have lU:([123,125,40,41,91,93,59,58,44,46,61,43,45,42,47,37,60,33]:List UInt8)=OJ:=rfl;simp[s64];rw[akW];unfold Cv at hv;generalize Um=L at *;have qi:(nA L).length=L.length:=by simp[nA]
 have hdl:(s.drop at_).length=s.length-at_:=acF;refine bH TI.eq_1 (λk:Nat=>⟨[(0,.val (.str s)),(1,.val (.int .i64 at_)),(5,.val (.eE 1 (nA L))),(6,.val (.int .i64 k))],[],[]⟩)
  (λk=>k<=L.length/\∀j (h:j<L.length),j<k->L[j]≠(s.drop at_).take 2) (λk=>L.length-k) 0 (by simp) ⟨by simp,λ_ _ h=>aU h (by omega)⟩ ?_
 intro k ⟨hk,hn⟩ ih;have w0:IntKind.i64.wrap ((s.length:Int)-(at_:Int))=(s.length:Int)-(at_:Int):=by rw[eR]<;>omega
 have w1:IntKind.i64.wrap ((at_:Int)+2)=(at_:Int)+2:=by rw[eR]<;>omega
 by_cases bC:k<L.length;have hw:=wk k (by omega);have hg:=Cu L k bC;have nx:L[k]≠(s.drop at_).take 2->∀j (h:j<L.length),j<k+1->L[j]≠(s.drop at_).take 2:=λh j hj wF=>by
  by_cases EY:j=k;subst EY;exact h;exact hn j hj (by omega)
 by_cases h2:at_+2<=s.length;have OK:(2:Int)<=(s.length:Int)-(at_:Int):=by omega
 have h3:(at_:Int)+2<=(s.length:Int):=by omega
 have LO:(at_:Int)<=(at_:Int)+2:=by omega
 have h4:((at_:Int)+2).toNat=at_+2:=by omega
 have h5:(s.take (at_+2)).drop at_=(s.drop at_).take 2:=by rw[agp,adE]
 by_cases he:(s.drop at_).take 2=L[k];have hm:IL ((s.drop at_).take 2) L=true:=by
  rw[xF,aeB];exact⟨_,aaq bC,by simp[he]⟩
 rw[hm,ah rfl]at hv;simp[qi,bC,w0,w1,OK,h3,LO,h4,h5,hg,he,AV.ai,aD,aC];rw[<-hv,he];simp[qi,bC,w0,w1,OK,h3,LO,h4,h5,hg,he,hw,AV.ai,aD,aC];exact ih (k+1) ⟨by omega,nx λe=>he e.symm⟩ (by omega);have OK:¬(2:Int)<=(s.length:Int)-(at_:Int):=by omega
 simp[qi,bC,w0,OK,hw,aD,aC];refine ih (k+1) ⟨by omega,nx λe=>?_⟩ (by omega);have e1:=hL2 _ (aaq bC);rw[e,aep,hdl]at e1;omega;have fR:k=L.length:=by omega
 have hm:IL ((s.drop at_).take 2) L=false:=by
  rw[xF,agU];intro w hw;obtain⟨j,hj,rfl⟩:=abo.1 hw;simpa using hn j hj (by omega)
 rw[hm,oh ha]at hv;simp only[aan,aS]at hv;simp[qi,bC];rw[lU];generalize OJ=N at *;refine bH TJ.eq_1 (λk:Nat=>⟨[(0,.val (.str s)),(1,.val (.int .i64 at_)),(7,.val (.str N)),(8,.val (.int .i64 k))],[],[]⟩)
  (λk=>k<=N.length/\∀j (h:j<N.length),j<k->s[at_].toNat≠N[j].toNat) (λk=>N.length-k) 0 (by simp) ⟨by simp,λ_ _ h=>aU h (by omega)⟩ ?_
 clear ih hn hk;intro k ⟨hk,hn⟩ ih;by_cases bC:k<N.length;have hw:=wk k (by omega);by_cases he:s[at_].toNat=N[k].toNat;have hm:Qp s[at_] N=true:=by
  rw[EZ,aeB];exact⟨_,aaq bC,by simp[he]⟩
 rw[hm,ah rfl]at hv;have e1:s[at_]=N[k]:=UInt8.toNat_inj.1 he;have e2:(N.take (k+1)).drop k=[N[k]]:=by rw[agp,adE,oh bC];rfl
 have hk1:((k:Int)+1).toNat=k+1:=by omega
 have lJ:(k:Int)<=(k:Int)+1:=by omega
 have hk3:(k:Int)+1<=(N.length:Int):=by omega
 have G9:IntKind.i64.wrap ((k:Int)+1)=(k:Int)+1:=by rw[eR]<;>omega
 simp[ha,bC,he,G9,hk1,lJ,hk3,e2,aD,aC];rw[<-hv,e1];simp[ha,bC,he,hw,aD,aC];exact ih (k+1) ⟨by omega,λj hj wF=>by
  by_cases EY:j=k;subst EY;exact he;exact hn j hj (by omega)⟩ (by omega)
 have fR:k=N.length:=by omega
 have hm:Qp s[at_] N=false:=by
  rw[EZ,agU];intro w hw;obtain⟨j,hj,rfl⟩:=abo.1 hw;simpa using hn j hj (by omega)
 rw[hm]at hv;simp only[aan,aS]at hv;simp[bC,hv]
end U2
namespace U2
open Ax Go bY
def Cw(c:UInt8):Bool:=aez c.toNat 32||aez c.toNat 9||aez c.toNat 10||aez c.toNat 13
def vR:List UInt8->Nat
 |[]=>0|c::l=>if aez c.toNat 10 then 0 else vR l+1
def Az:List UInt8->Bool
 |a::b::_=>aez a.toNat 47&&aez b.toNat 47|_=>false
def sK:Nat->List UInt8->Nat
 |0,_=>0|_+1,[]=>0|n+1,c::l=>if Cw c then sK n l+1 else if Az (c::l) then vR (c::l)+sK n ((c::l).drop (vR (c::l))) else 0
def iP(l:List UInt8):Nat:=sK l.length l
theorem OL:∀l,vR l<=l.length
 |[]=>aau _|c::l=>by
  simp only[vR];have:=OL l;split<;>simp<;>omega
variable{c:UInt8}{l:List UInt8}
theorem E1(h:Az (c::l)=true):0<vR (c::l):=by
 cases l with
 |nil=>cases h|cons d l=>
  simp only[Az,vQ,aac,aK]at h;simp[vR,vQ,h.1]
theorem xH:∀(n m:Nat)(l:List UInt8),l.length<=n->l.length<=m->sK n l=sK m l
 |0,m,l,h,_=>by
  have:l=[]:=agK.1 (by omega);subst this;cases m<;>rfl
 |n+1,0,l,_,h=>by
  have:l=[]:=agK.1 (by omega);subst this;rfl
 |n+1,m+1,[],_,_=>rfl|n+1,m+1,c::l,h1,h2=>by
  simp only[abr]at h1 h2;simp only[sK];rw[xH n m l (by omega) (by omega)];split
  rfl
  split;rename_i hc;have hp:=E1 hc;rw[xH n m _ (by rw[acF,abr];omega) (by rw[acF,abr];omega)]
  rfl
theorem KJ(h:Cw c=true):iP (c::l)=iP l+1:=by
 simp[iP,sK,h]
theorem Qq(h:Cw c=false)(hc:Az (c::l)=true):iP (c::l)=vR (c::l)+iP ((c::l).drop (vR (c::l))):=by
 have hp:=E1 hc;simp only[iP,abr,sK,h,hc,aan,aS,aQ];rw[xH l.length _ _ (by rw[acF,abr];omega) (aau _)]
theorem MR(h:Cw c=false)(hc:Az (c::l)=false):iP (c::l)=0:=by
 simp[iP,sK,h,hc]
theorem BO:∀(n:Nat)(l:List UInt8),sK n l<=l.length
 |0,_=>adF _|_+1,[]=>adF _|n+1,c::l=>by
  simp only[sK];have h1:=BO n l;have h2:=BO n ((c::l).drop (vR (c::l)));have h3:=OL (c::l);rw[acF]at h2;split;simp;omega;split;simp only[abr]at *;omega;exact adF _
theorem AA(l:List UInt8):iP l<=l.length:=BO _ _
theorem MS(l:List UInt8):Az l=decide (l.take 2=[47,47]):=by
 have h:∀a:UInt8,decide (a.toNat=47)=decide (a=47):=λa=>by
  have:a.toNat=47↔a=47:=⟨λh=>UInt8.toNat_inj.1 h,λh=>by rw[h];rfl⟩;simp only[this]
 match l with
 |[]=>rfl|[a]=>simp[Az]|a::b::l=>
  simp only[Az,vQ,h];simp
theorem KK(wl aa:Nat)(s:List UInt8)(nF:Nat)(st:ay)(ha:nF<=s.length)(hs:s.length<1000000000) :
  (aZ S).call wl aa 39 [.str s,.int .i64 nF] st=some (.int .i64 ((nF+iP (s.drop nF):Nat):Int),st):=by
 obtain⟨v,hv⟩:∃v,nF+iP (s.drop nF)=v:=⟨_,rfl⟩;rw[hv];refine bT (sf:=s39) rfl rfl (by simp) rfl (by simp) ?_;simp[s39];refine bH Tq.eq_1 (λk:Nat=>⟨[(0,.val (.str s)),(1,.val (.int .i64 k))],[],[]⟩)
  (λk=>k<=s.length/\k+iP (s.drop k)=v) (λk=>s.length-k) nF (by simp) ⟨ha,hv⟩ ?_
 intro k ⟨hk,hr⟩ ih;by_cases bC:k<s.length;have hw:=wk k (by omega);have w0:IntKind.i64.wrap ((s.length:Int)-(k:Int))=(s.length:Int)-(k:Int):=by rw[eR]<;>omega
 have w1:IntKind.i64.wrap ((k:Int)+2)=(k:Int)+2:=by rw[eR]<;>omega
 have hd:=oh bC;have step:Cw s[k]=true->k+1+iP (s.drop (k+1))=v:=λh=>by
  rw[hd,KJ h]at hr;omega
 have hwh:Cw s[k]=(decide (s[k].toNat=32)||decide (s[k].toNat=9)||decide (s[k].toNat=10)||decide (s[k].toNat=13)):=by simp only[Cw,vQ]
 have hdl:(s.drop k).length=s.length-k:=acF;have XG:=MS (s.drop k);generalize hn:s[k].toNat=n at *;by_cases n32:n=32;simp[bC,hn,n32,hw];exact ih (k+1) ⟨by omega,step (by rw[hwh];simp[n32])⟩ (by omega);by_cases n9:n=9;simp[bC,hn,n9,hw];exact ih (k+1) ⟨by omega,step (by rw[hwh];simp[n9])⟩ (by omega);by_cases n10:n=10;simp[bC,hn,n10,hw];exact ih (k+1) ⟨by omega,step (by rw[hwh];simp[n10])⟩ (by omega);by_cases n13:n=13;simp[bC,hn,n13,hw];exact ih (k+1) ⟨by omega,step (by rw[hwh];simp[n13])⟩ (by omega);have hwf:Cw s[k]=false:=by rw[hwh];simp[n32,n9,n10,n13]
 have a32:¬(n:Int)=32:=by omega
 have a9:¬(n:Int)=9:=by omega
 have a10:¬(n:Int)=10:=by omega
 have a13:¬(n:Int)=13:=by omega
 cases hc:Az (s.drop k) with
 |false=>
  have hz:v=k:=by
   rw[hd]at hr hc;rw[MR hwf hc]at hr;omega
  by_cases h2:k+2<=s.length;have OK:(2:Int)<=(s.length:Int)-(k:Int):=by omega
  have h3:(k:Int)+2<=(s.length:Int):=by omega
  have LO:(k:Int)<=(k:Int)+2:=by omega
  have h4:((k:Int)+2).toNat=k+2:=by omega
  have h5:(s.take (k+2)).drop k=(s.drop k).take 2:=by rw[agp,adE]
  rw[hc]at XG;have h6:¬(s.drop k).take 2=[47,47]:=of_decide_eq_false XG.symm;simp[bC,hn,a32,a9,a10,a13,w0,w1,OK,h3,LO,h4,h5,h6,hz];have OK:¬(2:Int)<=(s.length:Int)-(k:Int):=by omega
  simp[bC,hn,a32,a9,a10,a13,w0,OK,hz]
 |true=>
  rw[hc]at XG;have h6:(s.drop k).take 2=[47,47]:=of_decide_eq_true XG.symm;have h2:k+2<=s.length:=by
   have:=congrArg List.length h6;rw[aep,hdl]at this;simp at this;omega
  have OK:(2:Int)<=(s.length:Int)-(k:Int):=by omega
  have h3:(k:Int)+2<=(s.length:Int):=by omega
  have LO:(k:Int)<=(k:Int)+2:=by omega
  have h4:((k:Int)+2).toNat=k+2:=by omega
  have h5:(s.take (k+2)).drop k=(s.drop k).take 2:=by rw[agp,adE]
  have aoR:0<vR (s.drop k):=by rw[hd]at hc ⊢;exact E1 hc
  have E2:k+vR (s.drop k)+iP (s.drop (k+vR (s.drop k)))=v:=by
   have e:=hr;rw[hd]at hc e;rw[Qq hwf hc]at e;rw[<-hd,adC]at e;omega
  simp[bC,hn,a32,a9,a10,a13,w0,w1,OK,h3,LO,h4,h5,h6];refine bH Tp.eq_1 (λj:Nat=>⟨[(0,.val (.str s)),(1,.val (.int .i64 j))],[],[]⟩)
   (λj=>k<=j/\j<=s.length/\j+vR (s.drop j)=k+vR (s.drop k)) (λj=>s.length-j) k (by simp) ⟨by omega,by omega,rfl⟩ ?_
  intro j ⟨hkj,hj,ZN⟩ ihj;have nu:j=k+vR (s.drop k)->j<=s.length/\j+iP (s.drop j)=v:=λh=>⟨hj,by rw[h];exact E2⟩;by_cases z6:j<s.length;have hwj:=wk j (by omega);have hdj:=oh z6;have hcj:vR (s.drop j)=if aez s[j].toNat 10 then 0 else vR (s.drop (j+1))+1:=by rw[hdj];rfl
  rw[vQ]at hcj;generalize hm:s[j].toNat=m at *;by_cases m10:m=10;rw[bM m10,ah rfl]at hcj;simp[z6,hm,m10];exact ih j (nu (by omega)) (by omega);have ak6:¬(m:Int)=10:=by omega
  rw[cu m10]at hcj;simp only[aan,aS]at hcj;simp[z6,hm,ak6,hwj];exact ihj (j+1) ⟨by omega,by omega,by omega⟩ (by omega);have wF:j=s.length:=by omega
  have hcj:vR (s.drop j)=0:=by rw[wF,aaC];rfl
  simp[z6];exact ih j (nu (by omega)) (by omega)
 have fR:k=s.length:=by omega
 subst fR;rw[aaC]at hr;have:v=s.length:=by rw[<-hr];rfl
 simp[this]
end U2
namespace U2
open Ax Go bY
abbrev wP(k:Int)(t:List UInt8)(n:Int)(a:Nat):List AV:=[.int .i64 k,.str t,.int .i64 n,.int .i64 a]
def jn:List AV:=wP 0 [] 0 0
def tR(a:Nat)(t:List UInt8)(n:Nat):List AV×Nat:=if zD t then (wP 3 t 0 a,n) else if vO t then (wP 1 t 0 a,n) else (jn,0)
def vU(l:List UInt8)(n:Nat):Bool:=match l.drop n with|d::_=>mU d | []=>false
def vW(a:Nat)(c:UInt8)(l:List UInt8)(n:Nat):List AV×Nat:=match vP 0 (l.take n) with
 |none=>(jn,0)
 |some v=>if agj 2 n&&aez c.toNat 48||vU l n then (jn,0) else (wP 2 [] v a,n)
def vY(a:Nat)(t:List UInt8):List AV×Nat:=match t with
 |[]=>(jn,0)
 |_=>(wP 4 t 0 a,t.length)
def ur(a:Nat)(l:List UInt8):List AV×Nat:=match l with
 |[]=>(jn,0)
 |c::_=>if mU c then tR a (l.take (uq false l)) (uq false l) else if qS c then vW a c l (uq true l) else vY a (Cv l)
theorem KL(s:List UInt8)(a n:Nat):(s.take (a+n)).drop a=(s.drop a).take n:=by rw[agp,adE]
theorem abR(wl aa:Nat)(s:List UInt8)(a:Nat)(st:ay)(ha:a<s.length)(hs:s.length<1000000000) :
  (aZ S).call wl aa 40 [.str s,.int .i64 a] st=some (.fK [.agg (ur a (s.drop a)).1,.int .i64 (ur a (s.drop a)).2],st):=by
 have hd:=oh ha;have el:=λwl aa c st=>BK wl aa c st;have ed:=λwl aa c st=>EU wl aa c st;have er:=λd=>EW 0 0 s a d [] (by omega) hs;have hle:∀d,uq d (s.drop a)<=s.length-a:=λd=>by
  have:=Ay d (s.drop a)
  rwa [acF]at this
 obtain⟨z,hz⟩:∃z,ur a (s.drop a)=z:=⟨_,rfl⟩;rw[hz];have lU:ur a (s.drop a)=if mU s[a] then tR a ((s.drop a).take (uq false (s.drop a))) (uq false (s.drop a)) else if qS s[a] then vW a s[a] (s.drop a) (uq true (s.drop a)) else vY a (Cv (s.drop a)):=by
  rw[hd];rfl
 rw[lU]at hz;refine bT (sf:=MF) rfl rfl (by simp) rfl ?_ ?_;have hp:(AV.agg z.1).aB=true:=by
  rw[<-hz];have h0:∀k t n a,(AV.agg (wP k t n a)).aB=true:=λ_ _ _ _=>by simp[AV.aB,AV.ax]
  have h1:∀a t n,(AV.agg (tR a t n).1).aB=true:=λa t n=>by
   unfold tR jn;split;exact h0 _ _ _ _;split<;>exact h0 _ _ _ _
  have h2:∀a c l n,(AV.agg (vW a c l n).1).aB=true:=λa c l n=>by
   unfold vW jn;split;exact h0 _ _ _ _;split<;>exact h0 _ _ _ _
  have h3:∀a t,(AV.agg (vY a t).1).aB=true:=λa t=>by
   unfold vY jn;split<;>exact h0 _ _ _ _
  split;exact h1 _ _ _;split;exact h2 _ _ _ _;exact h3 _ _
 simp[AV.aB,AV.ax]at hp ⊢;exact hp;cases e1:mU s[a] with
 |true=>
  rw[e1,ah rfl]at hz;have hn:=hle false;have er:=er false;generalize hnn:uq false (s.drop a)=n at *;have w0:IntKind.i64.wrap ((a:Int)+(n:Int))=((a+n:Nat):Int):=by rw[eR]<;>omega
  have h1:(a:Int)<=(a:Int)+(n:Int):=by omega
  have h2:(a:Int)+(n:Int)<=(s.length:Int):=by omega
  have h3:((a:Int)+(n:Int)).toNat=a+n:=by omega
  have yw:=KL s a n;have bC:((s.drop a).take n).length<1000000000:=by rw[aep,acF];omega
  generalize JB:(s.drop a).take n=t at *;have ew:=λwl aa st=>OI wl aa t st;have en:=λwl aa st=>om wl aa t st bC;unfold tR at hz;cases e2:zD t with
  |true=>
   rw[e2,ah rfl]at hz;subst hz;simp[MF,ha,el,e1,er,w0,h1,h2,h3,yw,ew,e2]
  |false=>
   cases e3:vO t with
   |true=>
    rw[e2,e3]at hz;simp only[aan,aS,aQ]at hz;subst hz;simp[MF,ha,el,e1,er,w0,h1,h2,h3,yw,ew,e2,en,e3]
   |false=>
    rw[e2,e3]at hz;simp only[aan,aS]at hz;subst hz;simp[MF,ha,el,e1,er,w0,h1,h2,h3,yw,ew,e2,en,e3,jn]
 |false=>
  rw[e1]at hz;simp only[aan,aS]at hz;cases e4:qS s[a] with
  |true=>
   rw[e4,ah rfl]at hz;have hn:=hle true;have er:=er true;have ko:=KI true (s.drop a);generalize hnn:uq true (s.drop a)=n at *;have w0:IntKind.i64.wrap ((a:Int)+(n:Int))=((a+n:Nat):Int):=(by rw[eR]<;>omega);have h1:(a:Int)<=(a:Int)+(n:Int):=(by omega);have h2:(a:Int)+(n:Int)<=(s.length:Int):=(by omega);have h3:((a:Int)+(n:Int)).toNat=a+n:=(by omega);have yw:=KL s a n;have bC:((s.drop a).take n).length<1000000000:=(by rw[aep,acF];omega);have Ra:=λwl aa st=>Ul wl aa ((s.drop a).take n) st bC (λc hc=>by simpa [pR] using ko c hc);generalize JB:(s.drop a).take n=t at *;have ak7:vW a s[a] (s.drop a) n=match vP 0 t with
    |none=>(jn,0)
    |some v=>if agj 2 n&&aez s[a].toNat 48||vU (s.drop a) n then (jn,0) else (wP 2 [] v a,n):=by unfold vW;rw[JB]
   rw[ak7]at hz;cases e5:vP 0 t with
   |none=>
    rw[e5]at hz Ra;simp only at hz Ra;subst hz;simp[MF,ha,el,ed,e1,e4,er,w0,h1,h2,h3,yw,Ra,jn]
   |some v=>
    rw[e5]at hz Ra;simp only at hz Ra;have hnx:vU (s.drop a) n=match s.drop (a+n) with|d::_=>mU d | []=>false:=by unfold vU;rw[adC]
    simp only[pX,vQ]at hz;have h0:(0:Int)<=(a:Int)+(n:Int):=(by omega);have key:∀b:Bool,(decide (2<=n)&&decide (s[a].toNat=48))=b->∀q:Bool,vU (s.drop a) n=q->z=if b||q then (jn,0) else (wP 2 [] v a,n):=λb hb q hq=>by rw[<-hz,hb,hq]
    by_cases p1:2<=n/\s[a].toNat=48;have CS:z=(jn,0):=(by rw[key true (by simp[p1]) _ rfl];rfl);have q1:(1:Int)<(n:Int):=(by omega);subst CS;have abS:=λwl aa st=>el wl aa s[a] st;have abT:=λwl aa st=>ed wl aa s[a] st;have p2:(s[a].toNat:Int)=48:=(by omega);rw[e1]at abS;rw[e4]at abT;rw[p2]at abS abT;simp[MF,ha,abS,abT,er,w0,h1,h2,h3,yw,Ra,q1,p1.2,jn];have pf:(decide (2<=n)&&decide (s[a].toNat=48))=false:=by
     rw[Bool.and_eq_false_iff,decide_eq_false_iff_not,decide_eq_false_iff_not];by_cases h:2<=n;exact .inr λe=>p1 ⟨h,e⟩;exact .inl h
    by_cases F6:a+n<s.length;have MT:(a:Int)+(n:Int)<(s.length:Int):=(by omega);have hq:vU (s.drop a) n=mU s[a+n]:=(by rw[hnx,oh F6]);have CS:=key false pf _ hq;simp only[Bool.false_or]at CS;by_cases q1:2<=n;have XH:(1:Int)<(n:Int):=(by omega);have q2:¬s[a].toNat=48:=λe=>p1 ⟨q1,e⟩;have q2':¬(s[a].toNat:Int)=48:=(by omega);cases e6:mU s[a+n] with
    |true=>
     rw[e6,ah rfl]at CS;subst CS;simp[MF,ha,el,ed,e1,e4,er,w0,h1,h2,h3,yw,Ra,XH,q2',h0,MT,F6,e6,jn]
    |false=>
     rw[e6]at CS;simp only[aan,aS]at CS;subst CS;simp[MF,ha,el,ed,e1,e4,er,w0,h1,h2,h3,yw,Ra,XH,q2',h0,MT,F6,e6]
    have XH:¬(1:Int)<(n:Int):=(by omega);cases e6:mU s[a+n] with
    |true=>
     rw[e6,ah rfl]at CS;subst CS;simp[MF,ha,el,ed,e1,e4,er,w0,h1,h2,h3,yw,Ra,XH,h0,MT,F6,e6,jn]
    |false=>
     rw[e6]at CS;simp only[aan,aS]at CS;subst CS;simp[MF,ha,el,ed,e1,e4,er,w0,h1,h2,h3,yw,Ra,XH,h0,MT,F6,e6]
    have MT:¬(a:Int)+(n:Int)<(s.length:Int):=(by omega);have hq:vU (s.drop a) n=false:=(by rw[hnx,List.drop_eq_nil_of_le (by omega)]);have CS:=key false pf _ hq;simp only[Bool.or_self,aan,aS]at CS;subst CS;by_cases q1:2<=n;have XH:(1:Int)<(n:Int):=(by omega);have q2:¬s[a].toNat=48:=λe=>p1 ⟨q1,e⟩;have q2':¬(s[a].toNat:Int)=48:=(by omega);simp[MF,ha,el,ed,e1,e4,er,w0,h1,h2,h3,yw,Ra,XH,q2',MT];have XH:¬(1:Int)<(n:Int):=(by omega);simp[MF,ha,el,ed,e1,e4,er,w0,h1,h2,h3,yw,Ra,XH,MT]
  |false=>
   rw[e4]at hz;simp only[aan,aS]at hz;have es:=XF 0 0 s a [] ha hs;generalize Cv (s.drop a)=t at *;cases t with
   |nil=>
    have CS:z=(jn,0):=hz.symm;subst CS;simp[MF,ha,el,ed,e1,e4,es,jn]
   |cons b t=>
    have CS:z=(wP 4 (b::t) 0 a,(b::t).length):=hz.symm;subst CS;simp[MF,ha,el,ed,e1,e4,es]
end U2
namespace U2
open Ax Go bY
def zE:Nat->Nat->List UInt8->List (List AV)×Option Nat
 |0,_,_=>([],none)
 |_+1,a,[]=>([wP 0 [] 0 a],none)
 |n+1,a,c::l=>match ur a (c::l) with
  |(_,0)=>([],some a)
  |(t,k+1)=>match zE n (a+(k+1)+iP ((c::l).drop (k+1))) (((c::l).drop (k+1)).drop (iP ((c::l).drop (k+1)))) with
   |(rows,none)=>(t::rows,none)
   |(_,some e)=>([],some e)
def Gt(s:List UInt8):List (List AV)×Option Nat:=zE (s.length+1) (iP s) (s.drop (iP s))
def KM(x:List (List AV)×Option Nat):AV×List AV:=match x with
 |(rows,none)=>(bK 4 rows,[.int .i64 0,.int .i64 0])
 |(_,some e)=>(.af,[.int .i64 1,.int .i64 e])
def IM(s:List UInt8):AV×List AV:=if agj s.length 6000 then KM (Gt s) else (.af,[.int .i64 4,.int .i64 0])
theorem Un(l:List UInt8):(Cv l).length<=l.length:=by
 unfold Cv;split;rw[aep];omega;split;exact aau _;split<;>simp
theorem OM(a:Nat)(l:List UInt8):(ur a l).2<=l.length:=by
 unfold ur;split;exact adF _;rename_i c r;split;unfold tR;split;exact Ay _ _;split;exact Ay _ _;exact adF _;split;unfold vW;split;exact adF _;split;exact adF _;exact Ay _ _;have h:=Un (c::r);unfold vY;split;exact adF _;exact h
theorem Uo(a:Nat)(l:List UInt8):∃k t n b,(ur a l).1=wP k t n b:=by
 unfold ur;split;exact⟨_,_,_,_,rfl⟩;split;unfold tR;split;exact⟨_,_,_,_,rfl⟩;split<;>exact⟨_,_,_,_,rfl⟩;split;unfold vW;split;exact⟨_,_,_,_,rfl⟩;split<;>exact⟨_,_,_,_,rfl⟩;unfold vY;split<;>exact⟨_,_,_,_,rfl⟩
def E3(rows:List (List AV))(x:List (List AV)×Option Nat):List (List AV)×Option Nat:=match x with
 |(r,none)=>(rows++r,none)
 |(_,some e)=>([],some e)
theorem Qr(x:List (List AV)×Option Nat):KM (E3 [] x)=KM x:=by
 obtain⟨r,e⟩:=x;cases e<;>rfl
variable{l:List UInt8}
theorem Qs{n a:Nat}(h:l.length<n)(rows:List (List AV))(h0:l=[]):E3 rows (zE n a l)=(rows++[wP 0 [] 0 a],none):=by
 subst h0;cases n with
 |zero=>simp at h|succ n=>rfl
theorem Qt{n a:Nat}(h:l.length<n)(rows:List (List AV))(h0:l≠[])(h1:(ur a l).2=0):E3 rows (zE n a l)=([],some a):=by
 cases n with
 |zero=>simp at h|succ n=>
  cases l with
  |nil=>exact aU rfl h0|cons c l=>
   simp only[zE];generalize ur a (c::l)=z at *;obtain⟨t,k⟩:=z;simp only at h1;subst h1
   rfl
theorem MU{n a k:Nat}(h:l.length<n)(rows:List (List AV))(h0:l≠[])(h1:(ur a l).2=k+1):∃m,(l.drop (k+1+iP (l.drop (k+1)))).length<m/\
  E3 rows (zE n a l)=E3 (rows++[(ur a l).1]) (zE m (a+(k+1)+iP (l.drop (k+1))) (l.drop (k+1+iP (l.drop (k+1))))):=by
 cases n with
 |zero=>simp at h|succ n=>
  cases l with
  |nil=>exact aU rfl h0|cons c l=>
   refine⟨n,by rw[acF,abr];simp only[abr]at h;omega,?_⟩;simp only[zE];generalize ur a (c::l)=z at *;obtain⟨t,k'⟩:=z;simp only at h1;subst h1;simp only[adC];generalize zE n (a+(k+1)+iP ((c::l).drop (k+1))) ((c::l).drop (k+1+iP ((c::l).drop (k+1))))=y;obtain⟨r,e⟩:=y;cases e with
   |none=>simp[E3]|some e=>rfl
theorem Qu(wl aa:Nat)(s:List UInt8)(st:ay):(aZ S).call wl aa 18 [.str s] st=some (.fK [(IM s).1,.agg (IM s).2],st):=by
 have hV:∀z:AV×List AV,z=IM s->(AV.fK [z.1,.agg z.2]).aB=true:=λz hz=>by
  subst hz;unfold IM;split;unfold KM;split;simp[AV.aB,AV.ax];simp[AV.aB,AV.ax];simp[AV.aB,AV.ax]
 refine bT (sf:=s18) rfl rfl (by simp) rfl (hV _ rfl) ?_;unfold IM;rw[pX];by_cases hl:s.length<=6000;have qZ:¬(6000:Int)<(s.length:Int):=by omega
 rw[bM hl,ah rfl];have hs:s.length<1000000000:=by omega
 have e0:(aZ S).call 0 0 39 [.str s,.int .i64 0] []=some (.int .i64 (iP s:Nat),[]):=by
  have:=KK 0 0 s 0 [] (adF _) hs;simpa using this
 have b0:=AA s;obtain⟨F,hF⟩:∃F,KM (Gt s)=F:=⟨_,rfl⟩;rw[hF];simp[s18,qZ,e0];refine bH Te.eq_1 (λq:Nat×List (List AV)×List AV=>⟨[(0,.val (.str s)),(3,.fp 0 0),(4,.val (bK 4 q.2.1)),(5,.val (.int .i64 q.1))],[[.int .i64 0,.int .i64 0],q.2.2],[]⟩)
  (λq=>q.1<=s.length/\q.2.1.length<=q.1/\∃m,(s.drop q.1).length<m/\KM (E3 q.2.1 (zE m q.1 (s.drop q.1)))=F) (λq=>s.length-q.1) (iP s,[],[]) ?_ ?_ ?_
 rfl
 exact⟨by simpa using b0,by simp,s.length+1,by rw[acF];omega,by rw[<-hF];exact Qr _⟩;rintro⟨a,rows,bb⟩ ⟨ha,qi,m,hm,hj⟩ ih;simp only at ha qi hm hj ih;by_cases bC:a<s.length;have fy:s.drop a≠[]:=by rw[oh bC];exact List.cons_ne_nil _ _
 have e1:=abR 0 0 s a [] bC hs;have hle:=OM a (s.drop a);rw[acF]at hle;obtain⟨kd,tx,nn,pp,dJ⟩:=Uo a (s.drop a);rw[dJ]at e1;by_cases hz:(ur a (s.drop a)).2=0;rw[Qt hm rows fy hz]at hj;have hF':F=(.af,[.int .i64 1,.int .i64 a]):=hj.symm;subst hF';rw[hz]at e1;simp[bC,e1];obtain⟨k,hk⟩:∃k,(ur a (s.drop a)).2=k+1:=⟨(ur a (s.drop a)).2-1,by omega⟩;obtain⟨m',hm',hj'⟩:=MU hm rows fy hk;rw[hj',dJ]at hj;rw[hk]at e1 hle;have hkz:¬((k+1:Nat):Int)=0:=by omega
 have hw:IntKind.i64.wrap ((a:Int)+((k+1:Nat):Int))=((a+(k+1):Nat):Int):=by rw[eR]<;>omega
 have eb:=KK 0 0 s (a+(k+1)) [] (by omega) hs;have Rx:=AA (s.drop (a+(k+1)));rw[acF]at Rx;rw[adC]at hj hm';have lW:=eO (sz:=4) (bytes:=40) (r:=rows) (new:=[wP kd tx nn pp]) (by simp[cn]) (by simp[cN];omega);simp only[aeo,aeA]at e1 hkz hw eb;simp[bC,e1,hkz,hw,eb,lW];have:=ih (a+(k+1)+iP (s.drop (a+(k+1))),rows++[wP kd tx nn pp],wP kd tx nn pp) ⟨by simp only;omega,by simp;omega,m',by simpa [Nat.add_assoc] using hm',by simpa [Nat.add_assoc] using hj⟩ (by simp only;omega);exact this;have LG:a=s.length:=by omega
 have qh:s.drop a=[]:=by rw[LG,aaC]
 rw[Qs hm rows qh]at hj;have hF':F=(bK 4 (rows++[wP 0 [] 0 a]),[.int .i64 0,.int .i64 0]):=hj.symm;subst hF';have lW:=eO (sz:=4) (bytes:=40) (r:=rows) (new:=[wP 0 [] 0 a]) (by simp[cn]) (by simp[cN];omega);rw[LG]at lW ⊢;simp[lW];have qZ:(6000:Int)<(s.length:Int):=by omega
 rw[cu hl];simp[s18,qZ]
end U2
