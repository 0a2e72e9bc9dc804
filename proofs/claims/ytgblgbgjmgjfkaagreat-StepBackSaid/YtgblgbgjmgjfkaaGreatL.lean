/- Part of a proof. -/
import Derived.Test.YtgblgbgjmgjfkaaGreatCode1
import Derived.Test.YtgblgbgjmgjfkaaGreatA6

open List renaming length->Q
open Option renaming some->Z,none->K
open Bool renaming true->Y,false->X
open Decidable renaming decide->V
open List renaming any_eq_false->aj2,mem_iff_getElem->aav,drop_length->aaF,getElem_mem->aah,length_drop->agt,drop_take->aj8,any_eq_true->aiG,length_take->ahP,length_eq_zero_iff->akr,length_cons->aaK,drop_drop->afC
open Nat renaming ble->aj7,beq->af5,eq_of_beq_eq_true->akT,ne_of_beq_eq_false->anf,le_refl->aal,add_sub_cancel_left->afE,zero_le->afD
open Int renaming natCast_add->af9,cast_ofNat_Int->aib
open Bool renaming false_eq_true->aai
set_option maxRecDepth 100000
set_option maxHeartbeats 4000000
namespace U2
open Ax Go aM
def qa(c:UInt8):Bool:=aj7 97 c.toNat&&aj7 c.toNat 122||aj7 65 c.toNat&&aj7 c.toNat 90
def vp(c:UInt8):Bool:=aj7 48 c.toNat&&aj7 c.toNat 57
theorem xZ(a b:Nat):aj7 a b=V (a<=b):=by
 grind [Nat.le_of_ble_eq_true,Nat.ble_eq_true_of_le]
theorem GO(C k c st):(bh S).call C k 121 [.int .u8 c.toNat] st=Z (.bool (qa c),st):=by
 refine bu (sf:=Ui) rfl rfl (by simp) rfl (by simp) ?_;simp only[qa,xZ];generalize c.toNat=n;by_cases h:97<=n;by_cases H:n<=122;have j:(97:Int)<=n:=by omega
 have W:(n:Int)<=122:=by omega
 simp_all [Ui];have j:(97:Int)<=n:=by omega
 have W:¬(n:Int)<=122:=by omega
 have g:(65:Int)<=n:=by omega
 have t:¬(n:Int)<=90:=by omega
 have m:¬n<=90:=by omega
 simp[Ui,h,H,m,j,W,g,t];have j:¬(97:Int)<=n:=by omega
 by_cases l:65<=n;have g:(65:Int)<=n:=by omega
 by_cases m:n<=90;have t:(n:Int)<=90:=by omega
 simp[Ui,h,l,m,j,g,t];have t:¬(n:Int)<=90:=by omega
 simp[Ui,h,l,m,j,g,t];have g:¬(65:Int)<=n:=by omega
 simp[Ui,h,l,j,g]
theorem Kz(C g c st):(bh S).call C g 125 [.int .u8 c.toNat] st=Z (.bool (vp c),st):=by
 refine bu (sf:=aci) rfl rfl (by simp) rfl (by simp) ?_;simp only[vp,xZ];generalize c.toNat=n;by_cases h:48<=n;have j:(48:Int)<=n:=by omega
 by_cases H:n<=57;have W:(n:Int)<=57:=by omega
 simp_all [aci];have W:¬(n:Int)<=57:=by omega
 simp[aci,h,H,j,W];have j:¬(48:Int)<=n:=by omega
 simp[aci,h,j]
def KA:List (List UInt8):=[[114,101,99,111,114,100],[103,108,111,98,97,108],[102,117,110,99],[118,97,114],[108,101,116],[105,102],[101,108,115,101],[119,104,105,108,101],[114,101,116,117,114,110],[112,114,105,110,116],[110,117,108,108],[110,101,119],[108,101,110],[114,101,97,100],[116,114,117,101],[102,97,108,115,101],[105,110,116],[98,111,111,108]]
def rW(l:List (List UInt8)):List (List AV):=l.map λw=>[.str w]
theorem acX(C g st):(bh S).call C g 147 [] st=Z (.eE 1 (rW KA),st):=by
 refine bu (sf:=amn) rfl rfl (by simp) rfl (by simp) ?_;simp[amn,rW,KA]
def eqB:List UInt8->List UInt8->Bool
 |[],[]=>Y|a::x,b::y=>af5 a.toNat b.toNat&&eqB x y|_,_=>X
theorem acY:∀x y:List UInt8,eqB x y=V (x=y)
 |[],[]=>rfl|[],_::_=>rfl|_::_,[]=>rfl|a::x,b::y=>by
  have h:af5 a.toNat b.toNat=V (a=b):=by
   grind [UInt8.toNat_inj,akT,anf]
  rw[eqB,acY x y,h]
  grind
def OD(s:List UInt8):List (List UInt8)->Bool
 |[]=>X|w::l=>eqB w s||OD s l
theorem B4(s):∀l,OD s l=l.any λw=>decide (w=s)
 |[]=>rfl|w::l=>by rw[OD,acY,B4 s l];rfl
def Eu(t:List UInt8):Bool:=OD t KA
theorem H6(l)(k:Nat)(h N):(rW l)[k]'N=[.str (l[k]'h)]:=by
 simp[rW]
theorem WG(C g t st):(bh S).call C g 123 [.str t] st=Z (.bool (Eu t),st):=by
 have E:=acX 0 0 [];refine bu (sf:=amb) rfl rfl (by simp) rfl (by simp) ?_;unfold Eu;have m:Q KA<1000:=by decide
 generalize KA=L at *;simp[amb,E];have o:Q (rW L)=Q L:=by simp[rW]
 refine bM Ws.eq_1 (λk:Nat=>⟨[(0,.val (.str t)),(3,.val (.eE 1 (rW L))),(4,.val (.int .i64 k))],[],[]⟩)
  (λk=>k<=Q L/\∀j (h:j<Q L),j<k->L[j]≠t) (λk=>Q L-k) 0 (by simp) ⟨by simp,λ_ _ h=>au h⟩ ?_
 intro k ⟨p,q⟩ I;by_cases R:k<Q L;have H:=wk k (by omega);have M:(k:Int)<(Q L:Int):=by omega
 have U:=H6 L k R;by_cases B:L[k]=t;have n:OD t L=Y:=by
  grind [B4]
 simp_all;simp[o,R,U,B,H,AV.aj];exact I (k+1) ⟨by omega,λj l h=>by
  grind⟩ (by omega)
 have D:k=Q L:=by omega
 have n:OD t L=X:=by
  rw[B4,aj2];intro w H;obtain⟨j,l,rfl⟩:=aav.1 H
  grind
 simp_all
def pR(d:Bool)(c:UInt8):Bool:=vp c || !d&&qa c
def zl(d:Bool):List UInt8->Nat
 |[]=>0|c::l=>if pR d c then zl d l+1 else 0
theorem Fh(d):∀l,zl d l<=Q l
 |[]=>aal _|c::l=>by
  simp only[zl];have:=Fh d l
  grind
theorem Rr(d):∀l:List UInt8,∀c∈l.take (zl d l),pR d c=Y
 |[],c,h=>by grind|a::l,c,h=>by
  simp only[zl]at h;split at h;rename_i j;simp only[List.take_succ_cons,List.mem_cons]at h;rcases h with rfl|h;exact j;exact Rr d l c h;simp at h
theorem uz{s:List UInt8}{n}(h):s.drop n=s[n]::s.drop (n+1):=by simp_all
theorem KC(wl ai s)(at_:Nat)(d st)(t:at_<=Q s)(w:Q s<1000000000):
  (bh S).call wl ai 122 [.str s,.int .i64 at_,.bool d] st=Z (.int .i64 (zl d (s.drop at_)),st):=by
 have m:=λwl ai c st=>GO wl ai c st;have k:=λwl ai c st=>Kz wl ai c st;refine bu (sf:=ama) rfl rfl (by simp) rfl (by simp) ?_;simp[ama];refine bM Wq.eq_1 (λn:Nat=>⟨[(0,.val (.str s)),(1,.val (.int .i64 at_)),(2,.val (.bool d)),(7,.val (.int .i64 n))],[],[]⟩)
  (λn=>at_+n<=Q s/\zl d (s.drop at_)=n+zl d (s.drop (at_+n))) (λn=>Q s-(at_+n)) 0 (by simp) ⟨by omega,by simp⟩ ?_
 intro n ⟨v,l⟩ I;have o:=wk n (by omega);have r:IntKind.i64.wrap ((at_:Int)+(n:Int))=((at_+n:Nat):Int):=by rw[dg]<;>omega
 by_cases R:at_+n<Q s;have M:(at_:Int)+(n:Int)<(Q s:Int):=by omega
 have B:(0:Int)<=(at_:Int)+(n:Int):=by omega
 have h:((at_:Int)+(n:Int)).toNat=at_+n:=by omega
 have p:=uz R;generalize H:s[at_+n]=c at *;have U:zl d (s.drop (at_+n))=if pR d c then zl d (s.drop (at_+(n+1)))+1 else 0:=by rw[p];rfl
 cases E:vp c with
 |true=>
  have j:pR d c=Y:=by simp[pR,E]
  rw[j,af rfl]at U;simp[o,r,R,M,B,h,H,k,E];exact I (n+1) ⟨by omega,by grind⟩ (by omega)
 |false=>
  cases d with
  |true=>
   have j:pR Y c=X:=(by simp[pR,E]);rw[j]at U;simp[r,R,M,B,h,H,k,E,l,U]
  |false=>
   cases g:qa c with
   |true=>
    have j:pR X c=Y:=(by simp[pR,g]);rw[j,af rfl]at U;simp[o,r,R,M,B,h,H,k,m,E,g];exact I (n+1) ⟨by omega,by grind⟩ (by omega)
   |false=>
    have j:pR X c=X:=(by simp[pR,E,g]);rw[j]at U;simp[r,R,M,B,h,H,k,m,E,g,l,U]
 have T:at_+n=Q s:=by omega
 have M:¬(at_:Int)+(n:Int)<(Q s:Int):=by omega
 have q:zl d (s.drop (at_+n))=0:=by rw[T,aaF];rfl
 simp[r,M,l,q]
def Al(t:List UInt8):Bool:=match t with
 |[]=>X|c::_=>aj7 (Q t) 8&&qa c && !Eu t&&t.all λc=>qa c||vp c
theorem acZ{c l}(q:Q l+1<=8)(h:qa c=Y)(H:Eu (c::l)=X):Al (c::l)=(c::l).all λc=>qa c||vp c:=by
 simp[Al,xZ,q,h,H]
theorem rX(C g t st)(L:Q t<1000000000):(bh S).call C g 124 [.str t] st=Z (.bool (Al t),st):=by
 have q:=WG 0 0 t [];have m:=λC g c st=>GO C g c st;have w:=λC g c st=>Kz C g c st;obtain⟨v,p⟩:∃v,Al t=v:=⟨_,rfl⟩;rw[p];refine bu (sf:=Ud) rfl rfl (by simp) rfl (by simp) ?_;cases t with
 |nil=>
  have D:v=X:=p.symm;simp[Ud,D]
 |cons c l=>
  have n:¬((Q l:Int)+1<1):=by omega
  by_cases y:Q l+1<=8;have H:¬(8:Int)<(Q l:Int)+1:=by omega
  cases E:qa c with
  |false=>
   have D:v=X:=(by grind [Al]);simp[Ud,n,H,m,E,D]
  |true=>
   cases r:Eu (c::l) with
   |true=>
    have D:v=X:=(by grind [Al]);simp[Ud,n,H,m,E,q,r,D]
   |false=>
    rw[acZ y E r]at p;simp[Ud,n,H,m,E,q,r];refine bM Wl.eq_1 (λk:Nat=>⟨[(0,.val (.str (c::l))),(3,.val (.int .i64 k))],[],[]⟩)
     (λk=>k<=Q (c::l)/\∀j (h:j<Q (c::l)),j<k->(qa (c::l)[j]||vp (c::l)[j])=Y) (λk=>Q (c::l)-k) 0 (by simp) ⟨by simp,λ_ _ h=>au h⟩ ?_
    generalize c::l=T at *;intro k ⟨G,J⟩ I;by_cases R:k<Q T;have s:=wk k (by omega);have no:(qa T[k]||vp T[k])=X->v=X:=λh=>by
     grind
    have yes:(qa T[k]||vp T[k])=Y->∀j (h:j<Q T),j<k+1->(qa T[j]||vp T[j])=Y:=λh j z M=>by
     grind
    cases o:qa T[k] with
    |true=>
     simp[R,m,o,s];exact I (k+1) ⟨by omega,yes (by rw[o];rfl)⟩ (by omega)
    |false=>
     cases W:vp T[k] with
     |true=>
      simp[R,m,w,o,W,s];exact I (k+1) ⟨by omega,yes (by grind)⟩ (by omega)
     |false=>
      simp_all
    have F:k=Q T:=(by omega);have D:v=Y:=by
     rw[<-p,List.all_eq_true];intro x B;obtain⟨j,z,rfl⟩:=aav.1 B
     grind
    simp_all
  have H:(8:Int)<(Q l:Int)+1:=by omega
  have D:v=X:=by grind [Al,xZ]
  simp[Ud,n,H,D]
def Am:Nat->List UInt8->Option Nat
 |n,[]=>Z n|n,c::l=>if aj7 n ((9223372036854775807-(c.toNat-48)) / 10) then Am (10*n+(c.toNat-48)) l else K
theorem MZ{P:Nat->Prop}(h:P 0/\P 1/\P 2/\P 3/\P 4/\P 5/\P 6/\P 7/\P 8/\P 9)(k)(j:k<=9):P k:=by
 obtain⟨B,H,g,l,m,O,C,N,q,s⟩:=h;have:k=0\/k=1\/k=2\/k=3\/k=4\/k=5\/k=6\/k=7\/k=8\/k=9:=by omega
 grind
theorem aho(k)(m:k<=9):IntKind.u8.wrap (((48+k:Nat))-48)=k:=
 MZ (P:=λk=>IntKind.u8.wrap (((48+k:Nat):Int)-48)=(k:Int)) (by refine⟨?_,?_,?_,?_,?_,?_,?_,?_,?_,?_⟩<;>rfl) k m
theorem ahp(k:Nat)(m:k<=9):IntKind.i64.wrap (Int.tdiv (IntKind.i64.wrap (9223372036854775807-k)) 10)=(((9223372036854775807-k) / 10:Nat)):=
 MZ (P:=λk=>IntKind.i64.wrap (Int.tdiv (IntKind.i64.wrap (9223372036854775807-(k:Int))) 10)=(((9223372036854775807-k) / 10:Nat):Int)) (by refine⟨?_,?_,?_,?_,?_,?_,?_,?_,?_,?_⟩<;>rfl) k m
theorem ac0(W s t st)(M:Q t<1000000000)(z:∀c∈t,vp c=Y):
  (bh S).call W s 126 [.str t] st=Z (match Am 0 t with|some n=>.fC [.int .i64 n,.bool Y]|none=>.fC [.int .i64 0,.bool X],st):=by
 obtain⟨v,F⟩:∃v,Am 0 t=v:=⟨_,rfl⟩;rw[F];refine bu (sf:=al3) rfl rfl (by simp) rfl (by cases v<;>simp_all) ?_;simp[al3];refine bM Wk.eq_1 (λq:Nat×Nat=>⟨[(0,.val (.str t)),(4,.val (.int .i64 q.2)),(5,.val (.int .i64 q.1))],[],[]⟩)
  (λq=>q.1<=Q t/\q.2<=9223372036854775807/\Am q.2 (t.drop q.1)=v) (λq=>Q t-q.1) (0,0) (by simp) ⟨by simp,by simp,by grind⟩ ?_
 rintro⟨k,n⟩ ⟨B,C,H⟩ I;simp only at B C H I;by_cases R:k<Q t;have G:=wk k (by omega);have y:=z _ (aah R);rw[uz R]at H;generalize l:t[k]=c at *;simp only[vp,xZ,Bool.and_eq_true,aC]at y;simp only[Am,xZ]at H;obtain⟨m,r⟩:∃m,c.toNat=48+m:=⟨c.toNat-48,by omega⟩;have j:m<=9:=by omega
 have E:=aho m j;have w:=ahp m j;have x:IntKind.i64.wrap (m:Int)=(m:Int):=by rw[dg]<;>omega
 rw[r,afE]at H;have J:(9223372036854775807-m) / 10<=922337203685477580:=by omega
 generalize L:(9223372036854775807-m) / 10=q at *;by_cases h:n<=q;have g:¬(q:Int)<(n:Int):=by omega
 have p:IntKind.i64.wrap (10*(n:Int))=((10*n:Nat):Int):=by rw[dg]<;>omega
 have o:IntKind.i64.wrap (((10*n:Nat):Int)+(m:Int))=((10*n+m:Nat):Int):=by rw[dg]<;>omega
 rw[cH h,af rfl]at H;simp only[Int.natCast_mul,af9,aib]at E p o;simp[R,l,r,E,w,x,p,o,g,G];exact I (k+1,10*n+m) ⟨by simp;omega,by simp;omega,H⟩ (by simp;omega);have g:(q:Int)<(n:Int):=by omega
 rw[eX h]at H;simp only[aai,bC]at H;subst H;simp_all;have D:k=Q t:=by omega
 subst D;rw[aaF]at H;simp only[Am]at H;subst H;simp
def ac1:List (List UInt8):=[[60,61],[61,61],[33,61],[38,38],[124,124]]
def WH:List UInt8:=[123,125,40,41,91,93,59,58,44,46,61,43,45,42,47,37,60,33]
def YO(c:UInt8):List UInt8->Bool
 |[]=>X|a::l=>af5 c.toNat a.toNat||YO c l
theorem Fi(a b:Nat):af5 a b=V (a=b):=by
 grind [akT,anf]
theorem KD(c):∀l,YO c l=l.any λa=>decide (c.toNat=a.toNat)
 |[]=>rfl|a::l=>by rw[YO,Fi,KD c l];rfl
def H7(l:List UInt8):List UInt8:=if OD (l.take 2) ac1 then l.take 2 else match l with
 |[]=>[]
 |c::_=>if YO c WH then [c] else []
theorem ahq(wl ai s)(at_:Nat)(st)(t:at_<Q s)(hs:Q s<1000000000):
  (bh S).call wl ai 127 [.str s,.int .i64 at_] st=Z (.str (H7 (s.drop at_)),st):=by
 obtain⟨v,p⟩:∃v,H7 (s.drop at_)=v:=⟨_,rfl⟩;rw[p];refine bu (sf:=amg) rfl rfl (by simp) rfl (by simp) ?_;have r:∀w∈ac1,Q w=2:=by decide
 have hLl:Q ac1<1000:=by decide
 have hOl:Q WH<1000:=by decide
 have q:(AV.eE 1 [[AV.str [60,61]],[AV.str [61,61]],[AV.str [33,61]],[AV.str [38,38]],[AV.str [124,124]]])=.eE 1 (rW ac1):=rfl;have qj:([123,125,40,41,91,93,59,58,44,46,61,43,45,42,47,37,60,33]:List UInt8)=WH:=rfl;simp[amg];rw[q];unfold H7 at p;generalize ac1=L at *;have U:Q (rW L)=Q L:=by simp[rW]
 have x:Q (s.drop at_)=Q s-at_:=agt;refine bM Wt.eq_1 (λk:Nat=>⟨[(0,.val (.str s)),(1,.val (.int .i64 at_)),(5,.val (.eE 1 (rW L))),(6,.val (.int .i64 k))],[],[]⟩)
  (λk=>k<=Q L/\∀j (h:j<Q L),j<k->L[j]≠(s.drop at_).take 2) (λk=>Q L-k) 0 (by simp) ⟨by simp,λ_ _ h=>au h⟩ ?_
 intro k ⟨G,n⟩ I;have W:IntKind.i64.wrap ((Q s:Int)-(at_:Int))=(Q s:Int)-(at_:Int):=by rw[dg]<;>omega
 have P:IntKind.i64.wrap ((at_:Int)+2)=(at_:Int)+2:=by rw[dg]<;>omega
 by_cases R:k<Q L;have g:=wk k (by omega);have F:=H6 L k R;have J:L[k]≠(s.drop at_).take 2->∀j (h:j<Q L),j<k+1->L[j]≠(s.drop at_).take 2:=λh j l tU=>by
  by_cases o:j=k;subst o;exact h;exact n j l (by omega)
 by_cases h2:at_+2<=Q s;have H:(2:Int)<=(Q s:Int)-(at_:Int):=by omega
 have C:(at_:Int)+2<=(Q s:Int):=by omega
 have M:(at_:Int)<=(at_:Int)+2:=by omega
 have D:((at_:Int)+2).toNat=at_+2:=by omega
 have O:(s.take (at_+2)).drop at_=(s.drop at_).take 2:=by rw[aj8,afE]
 by_cases B:(s.drop at_).take 2=L[k];have m:OD ((s.drop at_).take 2) L=Y:=by
  rw[B4,aiG];exact⟨_,aah R,by simp[B]⟩
 rw[m,af rfl]at p;simp[U,R,W,P,H,C,M,D,O,F,B,AV.aj,aA,ay];rw[<-p,B];simp[U,R,W,P,H,C,M,D,O,F,B,g,AV.aj,aA,ay];exact I (k+1) ⟨by omega,J λe=>B e.symm⟩ (by omega);have H:¬(2:Int)<=(Q s:Int)-(at_:Int):=by omega
 simp[U,R,W,H,g,aA,ay];refine I (k+1) ⟨by omega,J λe=>?_⟩ (by omega);have E:=r _ (aah R);rw[e,ahP,x]at E;omega;have dQ:k=Q L:=by omega
 have m:OD ((s.drop at_).take 2) L=X:=by
  rw[B4,aj2];intro w g;obtain⟨j,l,rfl⟩:=aav.1 g;simpa using n j l (by omega)
 rw[m,uz t]at p;simp only[aai,bC]at p;simp[U,R];rw[qj];generalize WH=N at *;refine bM Wu.eq_1 (λk:Nat=>⟨[(0,.val (.str s)),(1,.val (.int .i64 at_)),(7,.val (.str N)),(8,.val (.int .i64 k))],[],[]⟩)
  (λk=>k<=Q N/\∀j (h:j<Q N),j<k->s[at_].toNat≠N[j].toNat) (λk=>Q N-k) 0 (by simp) ⟨by simp,λ_ _ h=>au h⟩ ?_
 clear I n G;intro k ⟨G,n⟩ I;by_cases R:k<Q N;have g:=wk k (by omega);by_cases B:s[at_].toNat=N[k].toNat;have m:YO s[at_] N=Y:=by
  rw[KD,aiG];exact⟨_,aah R,by simp[B]⟩
 rw[m,af rfl]at p;have E:s[at_]=N[k]:=UInt8.toNat_inj.1 B;have e2:(N.take (k+1)).drop k=[N[k]]:=by rw[aj8,afE,uz R];rfl
 have y:((k:Int)+1).toNat=k+1:=by omega
 have rI:(k:Int)<=(k:Int)+1:=by omega
 have z:(k:Int)+1<=(Q N:Int):=by omega
 have T:IntKind.i64.wrap ((k:Int)+1)=(k:Int)+1:=by rw[dg]<;>omega
 simp[t,R,B,T,y,rI,z,e2,aA,ay];rw[<-p,E];simp[t,R,B,g,aA,ay];exact I (k+1) ⟨by omega,λj l tU=>by
  by_cases o:j=k;subst o;exact B;exact n j l (by omega)⟩ (by omega)
 have dQ:k=Q N:=by omega
 have m:YO s[at_] N=X:=by
  rw[KD,aj2];intro w g;obtain⟨j,l,rfl⟩:=aav.1 g;simpa using n j l (by omega)
 rw[m]at p;simp only[aai,bC]at p;simp[R,p]
def H8(c:UInt8):Bool:=af5 c.toNat 32||af5 c.toNat 9||af5 c.toNat 10||af5 c.toNat 13
def Ao:List UInt8->Nat
 |[]=>0|c::l=>if af5 c.toNat 10 then 0 else Ao l+1
def Fj:List UInt8->Bool
 |a::b::_=>af5 a.toNat 47&&af5 b.toNat 47|_=>X
def wV:Nat->List UInt8->Nat
 |0,_=>0|_+1,[]=>0|n+1,c::l=>if H8 c then wV n l+1 else if Fj (c::l) then Ao (c::l)+wV n ((c::l).drop (Ao (c::l))) else 0
def kA(l:List UInt8):Nat:=wV (Q l) l
theorem WI:∀l,Ao l<=Q l
 |[]=>aal _|c::l=>by
  simp only[Ao];have:=WI l
  grind
theorem KE{c l}(h:Fj (c::l)=Y):0<Ao (c::l):=by
 cases l with
 |nil=>cases h|cons d l=>
  simp_all [Fj,Ao]
theorem B5:∀n m l,Q l<=n->Q l<=m->wV n l=wV m l
 |0,m,l,h,_=>by
  have:l=[]:=akr.1 (by omega);subst this;cases m<;>rfl
 |n+1,0,l,_,h=>by
  have:l=[]:=akr.1 (by omega);subst this;rfl
 |n+1,m+1,[],_,_=>rfl|n+1,m+1,c::l,H,g=>by
  simp only[aaK]at H g;simp only[wV];rw[B5 n m l (by omega) (by omega)];split
  rfl
  split;rename_i j;have k:=KE j;rw[B5 n m _ (by grind) (by grind)]
  rfl
theorem Rt{c l}(h:H8 c=Y):kA (c::l)=kA l+1:=by
 simp[kA,wV,h]
theorem YP{c l}(h:H8 c=X)(H:Fj (c::l)=Y):kA (c::l)=Ao (c::l)+kA ((c::l).drop (Ao (c::l))):=by
 have j:=KE H;simp only[kA,aaK,wV,h,H,aai,bC,bz];rw[B5 (Q l) _ _ (by grind) (aal _)]
theorem Up{c l}(h:H8 c=X)(H:Fj (c::l)=X):kA (c::l)=0:=by
 simp[kA,wV,h,H]
theorem GP:∀n l,wV n l<=Q l
 |0,_=>afD _|_+1,[]=>afD _|n+1,c::l=>by
  simp only[wV];have h:=GP n l;have H:=GP n ((c::l).drop (Ao (c::l)));have g:=WI (c::l)
  grind
theorem Fk(l):kA l<=Q l:=GP _ _
theorem Uq(l):Fj l=V (l.take 2=[47,47]):=by
 have h:∀a:UInt8,V (a.toNat=47)=V (a=47):=λa=>by
  have:a.toNat=47↔a=47:=⟨λh=>UInt8.toNat_inj.1 h,λh=>by rw[h];rfl⟩
  grind
 match l with
 |[]=>rfl|[a]=>simp[Fj]|a::b::l=>
  grind [Fj,Fi]
theorem Ru(wl ai s)(rE:Nat)(st)(ha:rE<=Q s)(hs:Q s<1000000000):
  (bh S).call wl ai 81 [.str s,.int .i64 rE] st=Z (.int .i64 ((rE+kA (s.drop rE):Nat)),st):=by
 obtain⟨v,hv⟩:∃v,rE+kA (s.drop rE)=v:=⟨_,rfl⟩;rw[hv];refine bu (sf:=s81) rfl rfl (by simp) rfl (by simp) ?_;simp[s81];refine bM acH.eq_1 (λk:Nat=>⟨[(0,.val (.str s)),(1,.val (.int .i64 k))],[],[]⟩)
  (λk=>k<=Q s/\k+kA (s.drop k)=v) (λk=>Q s-k) rE (by simp) ⟨ha,hv⟩ ?_
 intro k ⟨hk,G⟩ I;by_cases R:k<Q s;have w:=wk k (by omega);have w0:IntKind.i64.wrap ((Q s:Int)-(k:Int))=(Q s:Int)-(k:Int):=by rw[dg]<;>omega
 have w1:IntKind.i64.wrap ((k:Int)+2)=(k:Int)+2:=by rw[dg]<;>omega
 have hd:=uz R;have step:H8 s[k]=Y->k+1+kA (s.drop (k+1))=v:=λh=>by
  grind [Rt]
 have hwh:H8 s[k]=(V (s[k].toNat=32)||decide (s[k].toNat=9)||decide (s[k].toNat=10)||decide (s[k].toNat=13)):=by simp only[H8,Fi]
 have F:Q (s.drop k)=Q s-k:=agt;have l:=Uq (s.drop k);generalize r:s[k].toNat=n at *;by_cases W:n=32;simp[R,r,W,w];exact I (k+1) ⟨by omega,step (by grind)⟩ (by omega);by_cases n9:n=9;simp[R,r,n9,w];exact I (k+1) ⟨by omega,step (by grind)⟩ (by omega);by_cases T:n=10;simp[R,r,T,w];exact I (k+1) ⟨by omega,step (by grind)⟩ (by omega);by_cases U:n=13;simp[R,r,U,w];exact I (k+1) ⟨by omega,step (by grind)⟩ (by omega);have J:H8 s[k]=X:=by grind
 have q:¬(n:Int)=32:=by omega
 have y:¬(n:Int)=9:=by omega
 have o:¬(n:Int)=10:=by omega
 have p:¬(n:Int)=13:=by omega
 cases t:Fj (s.drop k) with
 |false=>
  have hz:v=k:=by
   grind [Up]
  by_cases h2:k+2<=Q s;have H:(2:Int)<=(Q s:Int)-(k:Int):=by omega
  have B:(k:Int)+2<=(Q s:Int):=by omega
  have x:(k:Int)<=(k:Int)+2:=by omega
  have D:((k:Int)+2).toNat=k+2:=by omega
  have O:(s.take (k+2)).drop k=(s.drop k).take 2:=by rw[aj8,afE]
  rw[t]at l;have C:¬(s.drop k).take 2=[47,47]:=of_decide_eq_false l.symm;simp[R,r,q,y,o,p,w0,w1,H,B,x,D,O,C,hz];have H:¬(2:Int)<=(Q s:Int)-(k:Int):=by omega
  simp[R,r,q,y,o,p,w0,H,hz]
 |true=>
  rw[t]at l;have C:(s.drop k).take 2=[47,47]:=of_decide_eq_true l.symm;have h2:k+2<=Q s:=by
   have:=congrArg List.length C;rw[ahP,F]at this;simp at this;omega
  have H:(2:Int)<=(Q s:Int)-(k:Int):=by omega
  have B:(k:Int)+2<=(Q s:Int):=by omega
  have x:(k:Int)<=(k:Int)+2:=by omega
  have D:((k:Int)+2).toNat=k+2:=by omega
  have O:(s.take (k+2)).drop k=(s.drop k).take 2:=by rw[aj8,afE]
  have aCV:0<Ao (s.drop k):=by grind [KE]
  have qx:k+Ao (s.drop k)+kA (s.drop (k+Ao (s.drop k)))=v:=by
   have e:=G;rw[hd]at t e;rw[YP J t]at e
   grind [afC]
  simp[R,r,q,y,o,p,w0,w1,H,B,x,D,O,C];refine bM acG.eq_1 (λj:Nat=>⟨[(0,.val (.str s)),(1,.val (.int .i64 j))],[],[]⟩)
   (λj=>k<=j/\j<=Q s/\j+Ao (s.drop j)=k+Ao (s.drop k)) (λj=>Q s-j) k (by simp) ⟨by omega,by omega,rfl⟩ ?_
  intro j ⟨hkj,hj,hjr⟩ N;have mJ:j=k+Ao (s.drop k)->j<=Q s/\j+kA (s.drop j)=v:=λh=>⟨hj,by grind⟩;by_cases P:j<Q s;have L:=wk j (by omega);have E:=uz P;have g:Ao (s.drop j)=if af5 s[j].toNat 10 then 0 else Ao (s.drop (j+1))+1:=by rw[E];rfl
  rw[Fi]at g;generalize hm:s[j].toNat=m at *;by_cases M:m=10;rw[cH M,af rfl]at g;simp[P,hm,M];exact I j (mJ (by omega)) (by omega);have z:¬(m:Int)=10:=by omega
  rw[eX M]at g;simp only[aai,bC]at g;simp[P,hm,z,L];exact N (j+1) ⟨by omega,by omega,by omega⟩ (by omega);have tU:j=Q s:=by omega
  have g:Ao (s.drop j)=0:=by rw[tU,aaF];rfl
  simp[P];exact I j (mJ (by omega)) (by omega)
 have dQ:k=Q s:=by omega
 subst dQ;rw[aaF]at G;have:v=Q s:=by rw[<-G];rfl
 simp[this]
abbrev Bp(k:Int)(t:List UInt8)(n:Int)(a:Nat):List AV:=[.int .i64 k,.str t,.int .i64 n,.int .i64 a]
def kP:List AV:=Bp 0 [] 0 0
def x9(a:Nat)(t:List UInt8)(n:Nat):List AV×Nat:=if Eu t then (Bp 3 t 0 a,n) else if Al t then (Bp 1 t 0 a,n) else (kP,0)
def Ap(l:List UInt8)(n:Nat):Bool:=match l.drop n with|d::_=>qa d | []=>X
def Aq(a:Nat)(c:UInt8)(l:List UInt8)(n:Nat):List AV×Nat:=match Am 0 (l.take n) with
 |none=>(kP,0)
 |some v=>if aj7 2 n&&af5 c.toNat 48||Ap l n then (kP,0) else (Bp 2 [] v a,n)
def Ar(a:Nat)(t:List UInt8):List AV×Nat:=match t with
 |[]=>(kP,0)
 |_=>(Bp 4 t 0 a,Q t)
def zm(a:Nat)(l:List UInt8):List AV×Nat:=match l with
 |[]=>(kP,0)
 |c::_=>if qa c then x9 a (l.take (zl X l)) (zl X l) else if vp c then Aq a c l (zl Y l) else Ar a (H7 l)
theorem Rv(s:List UInt8)(a n):(s.take (a+n)).drop a=(s.drop a).take n:=by rw[aj8,afE]
theorem Ur(C j s)(a:Nat)(st)(w:a<Q s)(hs:Q s<1000000000):
  (bh S).call C j 82 [.str s,.int .i64 a] st=Z (.fC [.agg (zm a (s.drop a)).1,.int .i64 (zm a (s.drop a)).2],st):=by
 have hd:=uz w;have x:=λC j c st=>GO C j c st;have F:=λC j c st=>Kz C j c st;have m:=λd=>KC 0 0 s a d [] (by omega) hs;have O:∀d,zl d (s.drop a)<=Q s-a:=λd=>by
  grind [Fh]
 obtain⟨z,h⟩:∃z,zm a (s.drop a)=z:=⟨_,rfl⟩;rw[h];have qj:zm a (s.drop a)=if qa s[a] then x9 a ((s.drop a).take (zl X (s.drop a))) (zl X (s.drop a)) else if vp s[a] then Aq a s[a] (s.drop a) (zl Y (s.drop a)) else Ar a (H7 (s.drop a)):=by
  rw[hd];rfl
 rw[qj]at h;refine bu (sf:=Uo) rfl rfl (by simp) rfl ?_ ?_;have hp:(AV.agg z.1).aH=Y:=by
  rw[<-h];have N:∀k t n a,(AV.agg (Bp k t n a)).aH=Y:=λ_ _ _ _=>by simp_all
  have H:∀a t n,(AV.agg (x9 a t n).1).aH=Y:=λa t n=>by
   grind [x9,kP]
  have p:∀a c l n,(AV.agg (Aq a c l n).1).aH=Y:=λa c l n=>by
   grind [Aq,kP]
  have r:∀a t,(AV.agg (Ar a t).1).aH=Y:=λa t=>by
   unfold Ar kP
   grind
  grind
 simp_all;cases o:qa s[a] with
 |true=>
  rw[o,af rfl]at h;have hn:=O X;have m:=m X;generalize hnn:zl X (s.drop a)=n at *;have W:IntKind.i64.wrap ((a:Int)+(n:Int))=((a+n:Nat):Int):=by rw[dg]<;>omega
  have H:(a:Int)<=(a:Int)+(n:Int):=by omega
  have p:(a:Int)+(n:Int)<=(Q s:Int):=by omega
  have r:((a:Int)+(n:Int)).toNat=a+n:=by omega
  have U:=Rv s a n;have bK:Q ((s.drop a).take n)<1000000000:=by grind
  generalize M0:(s.drop a).take n=t at *;have ew:=λC j st=>WG C j t st;have en:=λC j st=>rX C j t st bK;unfold x9 at h;cases M:Eu t with
  |true=>
   rw[M,af rfl]at h;subst h;simp[Uo,w,x,o,m,W,H,p,r,U,ew,M]
  |false=>
   cases R:Al t with
   |true=>
    rw[M,R]at h;simp only[aai,bC,bz]at h;subst h;simp[Uo,w,x,o,m,W,H,p,r,U,ew,M,en,R]
   |false=>
    rw[M,R]at h;simp only[aai,bC]at h;subst h;simp[Uo,w,x,o,m,W,H,p,r,U,ew,M,en,R,kP]
 |false=>
  rw[o]at h;simp only[aai,bC]at h;cases y:vp s[a] with
  |true=>
   rw[y,af rfl]at h;have hn:=O Y;have m:=m Y;have mh:=Rr Y (s.drop a);generalize hnn:zl Y (s.drop a)=n at *;have W:IntKind.i64.wrap ((a:Int)+(n:Int))=((a+n:Nat):Int):=(by rw[dg]<;>omega);have H:(a:Int)<=(a:Int)+(n:Int):=(by omega);have p:(a:Int)+(n:Int)<=(Q s:Int):=(by omega);have r:((a:Int)+(n:Int)).toNat=a+n:=(by omega);have U:=Rv s a n;have bK:Q ((s.drop a).take n)<1000000000:=(by grind);have E:=λC j st=>ac0 C j ((s.drop a).take n) st bK (λc hc=>by grind [pR]);generalize M0:(s.drop a).take n=t at *;have axF:Aq a s[a] (s.drop a) n=match Am 0 t with
    |none=>(kP,0)
    |some v=>if aj7 2 n&&af5 s[a].toNat 48||Ap (s.drop a) n then (kP,0) else (Bp 2 [] v a,n):=by unfold Aq;rw[M0]
   rw[axF]at h;cases e5:Am 0 t with
   |none=>
    rw[e5]at h E;simp only at h E;subst h;simp[Uo,w,x,F,o,y,m,W,H,p,r,U,E,kP]
   |some v=>
    rw[e5]at h E;simp only at h E;have hnx:Ap (s.drop a) n=match s.drop (a+n) with|d::_=>qa d | []=>X:=by unfold Ap;simp_all
    simp only[xZ,Fi]at h;have N:(0:Int)<=(a:Int)+(n:Int):=(by omega);have key:∀b:Bool,(V (2<=n)&&V (s[a].toNat=48))=b->∀q:Bool,Ap (s.drop a) n=q->z=if b||q then (kP,0) else (Bp 2 [] v a,n):=λb hb q T=>by simp_all
    by_cases p1:2<=n/\s[a].toNat=48;have J:z=(kP,0):=(by grind);have q1:(1:Int)<(n:Int):=(by omega);subst J;have I:=λC j st=>x C j s[a] st;have L:=λC j st=>F C j s[a] st;have p2:(s[a].toNat:Int)=48:=(by omega);rw[o]at I;rw[y]at L;rw[p2]at I L;simp[Uo,w,I,L,m,W,H,p,r,U,E,q1,p1.2,kP];have pf:(V (2<=n)&&V (s[a].toNat=48))=X:=by
     grind
    by_cases P:a+n<Q s;have G:(a:Int)+(n:Int)<(Q s:Int):=(by omega);have T:Ap (s.drop a) n=qa s[a+n]:=(by rw[hnx,uz P]);have J:=key X pf _ T;simp only[Bool.false_or]at J;by_cases q1:2<=n;have g:(1:Int)<(n:Int):=(by omega);have q2:¬s[a].toNat=48:=λe=>p1 ⟨q1,e⟩;have D:¬(s[a].toNat:Int)=48:=(by omega);cases B:qa s[a+n] with
    |true=>
     rw[B,af rfl]at J;subst J;simp[Uo,w,x,F,o,y,m,W,H,p,r,U,E,g,D,N,G,P,B,kP]
    |false=>
     rw[B]at J;simp only[aai,bC]at J;subst J;simp[Uo,w,x,F,o,y,m,W,H,p,r,U,E,g,D,N,G,P,B]
    have g:¬(1:Int)<(n:Int):=(by omega);cases B:qa s[a+n] with
    |true=>
     rw[B,af rfl]at J;subst J;simp[Uo,w,x,F,o,y,m,W,H,p,r,U,E,g,N,G,P,B,kP]
    |false=>
     rw[B]at J;simp only[aai,bC]at J;subst J;simp[Uo,w,x,F,o,y,m,W,H,p,r,U,E,g,N,G,P,B]
    have G:¬(a:Int)+(n:Int)<(Q s:Int):=(by omega);have T:Ap (s.drop a) n=X:=(by grind);have J:=key X pf _ T;simp only[Bool.or_self,aai,bC]at J;subst J;by_cases q1:2<=n;have g:(1:Int)<(n:Int):=(by omega);have q2:¬s[a].toNat=48:=λe=>p1 ⟨q1,e⟩;have D:¬(s[a].toNat:Int)=48:=(by omega);simp[Uo,w,x,F,o,y,m,W,H,p,r,U,E,g,D,G];have g:¬(1:Int)<(n:Int):=(by omega);simp[Uo,w,x,F,o,y,m,W,H,p,r,U,E,g,G]
  |false=>
   rw[y]at h;simp only[aai,bC]at h;have es:=ahq 0 0 s a [] w hs;generalize H7 (s.drop a)=t at *;cases t with
   |nil=>
    have J:z=(kP,0):=h.symm;simp_all [Uo,kP]
   |cons b t=>
    have J:z=(Bp 4 (b::t) 0 a,Q (b::t)):=h.symm;simp_all [Uo]
def Fl:Nat->Nat->List UInt8->List (List AV)×Option Nat
 |0,_,_=>([],K)
 |_+1,a,[]=>([Bp 0 [] 0 a],K)
 |n+1,a,c::l=>match zm a (c::l) with
  |(_,0)=>([],Z a)
  |(t,k+1)=>match Fl n (a+(k+1)+kA ((c::l).drop (k+1))) (((c::l).drop (k+1)).drop (kA ((c::l).drop (k+1)))) with
   |(rows,K)=>(t::rows,K)
   |(_,Z e)=>([],Z e)
def KF(s:List UInt8):List (List AV)×Option Nat:=Fl (Q s+1) (kA s) (s.drop (kA s))
def Rw(x:List (List AV)×Option Nat):AV×List AV:=match x with
 |(rows,K)=>(cw 4 rows,[.int .i64 0,.int .i64 0])
 |(_,Z e)=>(.aF,[.int .i64 1,.int .i64 e])
def OH(s:List UInt8):AV×List AV:=if aj7 (Q s) 6000 then Rw (KF s) else (.aF,[.int .i64 4,.int .i64 0])
theorem ac3(l):Q (H7 l)<=Q l:=by
 unfold H7
 grind
theorem WJ(a l):(zm a l).2<=Q l:=by
 unfold zm;split
 grind
 rename_i c r;split;unfold x9;split;exact Fh _ _;split;exact Fh _ _
 grind
 split;unfold Aq;split
 grind
 split
 grind
 exact Fh _ _;have h:=ac3 (c::r);unfold Ar
 grind
theorem ac4(a l):∃k t n b,(zm a l).1=Bp k t n b:=by
 unfold zm;split;exact⟨_,_,_,_,rfl⟩;split;unfold x9;split
 grind
 split<;>exact⟨_,_,_,_,rfl⟩;split;unfold Aq;split;exact⟨_,_,_,_,rfl⟩;split<;>exact⟨_,_,_,_,rfl⟩;unfold Ar;split<;>exact⟨_,_,_,_,rfl⟩
def KG(rows:List (List AV))(x:List (List AV)×Option Nat):List (List AV)×Option Nat:=match x with
 |(r,K)=>(rows++r,K)
 |(_,Z e)=>([],Z e)
theorem YQ(x):Rw (KG [] x)=Rw x:=by
 obtain⟨r,e⟩:=x;cases e<;>rfl
theorem YR{n a l}(h:Q l<n)(rows)(B:l=[]):KG rows (Fl n a l)=(rows++[Bp 0 [] 0 a],K):=by
 subst B;cases n with
 |zero=>simp at h|succ n=>rfl
theorem YS{n a l}(h:Q l<n)(rows)(B:l≠[])(H:(zm a l).2=0):KG rows (Fl n a l)=([],Z a):=by
 cases n with
 |zero=>simp at h|succ n=>
  cases l with
  |nil=>grind|cons c l=>
   simp only[Fl];generalize zm a (c::l)=z at *;obtain⟨t,k⟩:=z;simp only at H;subst H
   rfl
theorem Ut{n a k l}(h:Q l<n)(rows)(B:l≠[])(H:(zm a l).2=k+1):∃m,Q (l.drop (k+1+kA (l.drop (k+1))))<m/\
  KG rows (Fl n a l)=KG (rows++[(zm a l).1]) (Fl m (a+(k+1)+kA (l.drop (k+1))) (l.drop (k+1+kA (l.drop (k+1))))):=by
 cases n with
 |zero=>simp at h|succ n=>
  cases l with
  |nil=>grind|cons c l=>
   refine⟨n,by grind,?_⟩
   grind [Fl,afC,KG]
theorem YT(wl O s st):(bh S).call wl O 25 [.str s] st=Z (.fC [(OH s).1,.agg (OH s).2],st):=by
 have W:∀z:AV×List AV,z=OH s->(AV.fC [z.1,.agg z.2]).aH=Y:=λz o=>by
  subst o;unfold OH;split
  ·unfold Rw;split;all_goals simp_all
  simp_all
 refine bu (sf:=s25) rfl rfl (by simp) rfl (W _ rfl) ?_;unfold OH;rw[xZ];by_cases hl:Q s<=6000;have J:¬(6000:Int)<(Q s:Int):=by omega
 rw[cH hl,af rfl];have v:Q s<1000000000:=by omega
 have U:(bh S).call 0 0 81 [.str s,.int .i64 0] []=Z (.int .i64 (kA s:Nat),[]):=by
  have:=Ru 0 0 s 0 [] (afD _) v
  grind
 have b0:=Fk s;obtain⟨F,y⟩:∃F,Rw (KF s)=F:=⟨_,rfl⟩;rw[y];simp[s25,J,U];refine bM acR.eq_1 (λq:Nat×List (List AV)×List AV=>⟨[(0,.val (.str s)),(3,.fp 0 0),(4,.val (cw 4 q.2.1)),(5,.val (.int .i64 q.1))],[[.int .i64 0,.int .i64 0],q.2.2],[]⟩)
  (λq=>q.1<=Q s/\Q q.2.1<=q.1/\∃m,Q (s.drop q.1)<m/\Rw (KG q.2.1 (Fl m q.1 (s.drop q.1)))=F) (λq=>Q s-q.1) (kA s,[],[]) ?_ ?_ ?_
 rfl
 exact⟨by grind,by simp,Q s+1,by grind,by rw[<-y];exact YQ _⟩;rintro⟨a,rows,bb⟩ ⟨ha,uq,m,n,h⟩ G;simp only at ha uq n h G;by_cases R:a<Q s;have D:s.drop a≠[]:=by grind
 have E:=Ur 0 0 s a [] R v;have j:=WJ a (s.drop a);rw[agt]at j;obtain⟨w,T,N,P,I⟩:=ac4 a (s.drop a);rw[I]at E;by_cases o:(zm a (s.drop a)).2=0;rw[YS n rows D o]at h;have H:F=(.aF,[.int .i64 1,.int .i64 a]):=h.symm;subst H;rw[o]at E;simp[R,E];obtain⟨k,B⟩:∃k,(zm a (s.drop a)).2=k+1:=⟨(zm a (s.drop a)).2-1,by omega⟩;obtain⟨m',l,p⟩:=Ut n rows D B;rw[p,I]at h;rw[B]at E j;have g:¬((k+1:Nat):Int)=0:=by omega
 have C:IntKind.i64.wrap ((a:Int)+((k+1:Nat):Int))=((a+(k+1):Nat):Int):=by rw[dg]<;>omega
 have x:=Ru 0 0 s (a+(k+1)) [] (by omega) v;have M:=Fk (s.drop (a+(k+1)));rw[agt]at M;rw[afC]at h l;have t:=iw (sz:=4) (bytes:=40) (r:=rows) (new:=[Bp w T N P]) (by simp[cy]) (by simp[dj];omega);simp only[af9,aib]at E g C x;simp[R,E,g,C,x,t];have:=G (a+(k+1)+kA (s.drop (a+(k+1))),rows++[Bp w T N P],Bp w T N P) ⟨by grind,by simp;omega,m',by simpa [Nat.add_assoc] using l,by simpa [Nat.add_assoc] using h⟩ (by grind);exact this;have L:a=Q s:=by omega
 have uo:s.drop a=[]:=by grind
 rw[YR n rows uo]at h;have H:F=(cw 4 (rows++[Bp 0 [] 0 a]),[.int .i64 0,.int .i64 0]):=h.symm;subst H;have t:=iw (sz:=4) (bytes:=40) (r:=rows) (new:=[Bp 0 [] 0 a]) (by simp[cy]) (by simp[dj];omega);rw[L]at t ⊢;simp[t];have J:(6000:Int)<(Q s:Int):=by omega
 simp_all [eX,s25]
end U2
