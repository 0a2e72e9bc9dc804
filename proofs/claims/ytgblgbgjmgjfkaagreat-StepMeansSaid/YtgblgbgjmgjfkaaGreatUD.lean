/- Part of a proof. -/
import Derived.Test.YtgblgbgjmgjfkaaGreatUC

open List renaming mem_iff_getElem->aec
open Bool renaming and_eq_true->Ee,or_eq_true->aet
set_option maxRecDepth 100000
set_option maxHeartbeats 4000000
namespace ur
open Ax Go aO
theorem amR:(aZ S).call 0 0 10 [] []=some (.bool true,[]):=by
 have h:akr ((XI S 200).call 0 0 10 [] [])=true:=by kernel_rfl
 exact akq (afY h)
end ur
namespace ur
open Ax Go aO dh iq jc
variable {x:XD}{BJ:Nat->AV}{c:CD}{i:ID}{f:Int}
variable{vs:List T3}{n a:Int}{t:T3}{l:List Int}
theorem Gq(h:sZ vs n≠T0):pe vs.length n:=by
 unfold sZ at h;by_cases r:0<=n;rw[af r]at h;by_cases H:n.toNat<vs.length;exact⟨r,by omega⟩
 grind
 grind
theorem KS(h:kA vs t l=true):∀n∈l,pe vs.length n:=by
 simp_all [kA,Gq]
theorem oH(h:kA vs t [a]=true):pe vs.length a:=KS h a (by simp)
theorem ahK(h:mh (sZ vs n)=true):pe vs.length n:=Gq λe=>by rw[e]at h;revert h;decide
theorem ajb(h:0<(sZ vs n).d):pe vs.length n:=Gq λe=>by grind
theorem arR(h:(sZ vs n).b=3):pe vs.length n:=Gq λe=>by grind
theorem adJ{rs:List RD}{k v:Int}(h:Ly rs vs a k v=true):pe vs.length a/\pe vs.length v:=by
 unfold Ly at h;simp only[Ee,aA]at h
 grind [arR,oH]
theorem adK{v:Int}(h:HU vs a v=true):pe vs.length a/\pe vs.length v:=by
 unfold HU at h;simp only[Ee,aA]at h;exact⟨ajb h.1,oH h.2⟩
theorem adL{S:List SD}(h:HV S f vs n a=true):pe vs.length a/\0<=n/\n<(S.length:Int):=by
 unfold HV at h;split at h;rename_i s j;simp only[Ee,aA]at h
 grind [mA,oH]
 cases h
theorem amS{U:List T3}(h:OL U vs n a=true):pe vs.length a/\0<=n/\n<(U.length:Int):=by
 grind [OL,mA,oH]
theorem UF(h:Gg c n=true):0<=n/\n<((mF c.jr).length:Int):=by
 simp_all [Gg]
theorem amT(h:pJ vs i=true):pe vs.length i.a/\pe vs.length i.b/\pe vs.length i.c/\14<=i.n/\i.n<=24:=by
 unfold pJ at h;split at h
 grind [KS]
 split at h;simp only[Ee]at h
 grind [KS]
 split at h;simp only[Ee]at h;refine⟨oH h.1,Gq ?_,oH h.2,by omega,by omega⟩;simp_all [kA]
 grind [KS]
theorem arS(h:kA vs t l=true):t≠T0:=by
 simp_all [kA]
theorem ahL(h:EU i=true):1<=i.op/\i.op<=20:=by
 unfold EU at h;by_cases q:1<=i.op/\i.op<=20;exact q;rw[U (by omega),U (by omega),U (by omega),U (by omega),U (by omega),U (by omega),U (by omega),U (by omega),U (by omega)]at h;cases h
theorem amU(h:LA (iI x.aR) (dn c.vars) i=true):(i.a = -1\/pe (dn c.vars).length i.a)/\0<=i.c/\i.c<((iI x.aR).length:Int)/\(dI i.args).length<=nt (qt x BJ) i.c.toNat/\∀n∈dI i.args,pe (dn c.vars).length n:=by
 unfold LA at h;split at h;cases h;rename_i g O;obtain⟨k,s,o,t⟩:=mA O;unfold adh at h;simp only[Ee,aA,aet,List.all_eq_true]at h;obtain⟨⟨⟨p,q⟩,H⟩,r⟩:=h;have m:nt (qt x BJ) i.c.toNat=(dn g.vars).length:=by
  grind [nt,qt,Int.toNat_natCast]
 refine⟨?_,by omega,by omega,by grind,λn l=>?_⟩
 grind [oH]
 obtain⟨j,X,rfl⟩:=aec.1 l;have G:j<(dn g.vars).length:=by omega
 exact oH (H ((dI i.args)[j],(dn g.vars)[j]) (aec.2 ⟨j,by simp;omega,by simp⟩))
theorem amV(E:EU i=true)(H:iX x f c i=true):Fit (qt x BJ) (dn c.vars).length (mF c.jr).length i:=by
 have J:=ahL E;have K:(qt x BJ).cells.length=(ox x.aJ).length:=by simp[qt]
 have F:(qt x BJ).aR.length=(iI x.aR).length:=rfl;have I:(qt x BJ).ng=(dn x.az).length:=rfl;unfold iX at H;by_cases q1:i.op=1;rw[af q1]at H;have g:pe (dn c.vars).length i.a:=by
  simp only[aet,Ee]at H
  grind [oH]
 exact⟨J,λ_ _ _=>g,λh=>au h (by omega),λh=>au h (by omega),λh=>au h (by omega),λh=>au h (by omega),λh=>au h (by omega),λh=>au h (by omega),λh=>au h (by omega),λh=>au h (by omega),λh=>au h (by omega),λh=>au h (by omega)⟩;rw[U q1]at H;by_cases q2:i.op=2;rw[af q2]at H;exact⟨J,λ_ _ _=>ahK H,λh=>au h (by omega),λh=>au h (by omega),λh=>au h (by omega),λh=>au h (by omega),λh=>au h (by omega),λh=>au h (by omega),λh=>au h (by omega),λh=>au h (by omega),λh=>au h (by omega),λh=>au h (by omega)⟩;rw[U q2]at H;by_cases r:i.op=3;rw[af r]at H;exact⟨J,λ_ _ _=>Gq (arS H),λh=>au h (by omega),λ_=>oH H,λh=>au h (by omega),λh=>au h (by omega),λh=>au h (by omega),λh=>au h (by omega),λh=>au h (by omega),λh=>au h (by omega),λh=>au h (by omega),λh=>au h (by omega)⟩;rw[U r]at H;by_cases G:i.op=4;rw[af G]at H;obtain⟨z,S,B,C,D⟩:=amT H;exact⟨J,λ_ _ _=>z,λh=>au h (by omega),λ_=>S,λ_=>B,λh=>au h (by omega),λh=>au h (by omega),λh=>au h (by omega),λh=>au h (by omega),λh=>au h (by omega),λ_=>⟨C,D⟩,λh=>au h (by omega)⟩;rw[U G]at H;by_cases s:i.op=5;rw[af s]at H;have g:pe (dn c.vars).length i.a/\pe (dn c.vars).length i.b/\(i.n=12\/i.n=13):=by
  simp only[aet,Ee,aA]at H
  grind [KS]
 exact⟨J,λ_ _ _=>g.1,λh=>au h (by omega),λ_=>g.2.1,λh=>au h (by omega),λh=>au h (by omega),λh=>au h (by omega),λh=>au h (by omega),λh=>au h (by omega),λh=>au h (by omega),λh=>au h (by omega),λ_=>g.2.2⟩;rw[U s]at H;by_cases t:i.op=6;rw[af t]at H;have g:=adJ H;exact⟨J,λ_ _ _=>g.2,λh=>au h (by omega),λ_=>g.1,λh=>au h (by omega),λh=>au h (by omega),λh=>au h (by omega),λh=>au h (by omega),λh=>au h (by omega),λh=>au h (by omega),λh=>au h (by omega),λh=>au h (by omega)⟩;rw[U t]at H;by_cases v:i.op=7;rw[af v]at H;have g:=adJ H;exact⟨J,λ_ _ _=>g.1,λh=>au h (by omega),λ_=>g.2,λh=>au h (by omega),λh=>au h (by omega),λh=>au h (by omega),λh=>au h (by omega),λh=>au h (by omega),λh=>au h (by omega),λh=>au h (by omega),λh=>au h (by omega)⟩;rw[U v]at H;by_cases w:i.op=8;rw[af w]at H;simp only[Ee]at H;have g:=adK H.1;exact⟨J,λ_ _ _=>g.2,λh=>au h (by omega),λ_=>g.1,λ_=>oH H.2,λh=>au h (by omega),λh=>au h (by omega),λh=>au h (by omega),λh=>au h (by omega),λh=>au h (by omega),λh=>au h (by omega),λh=>au h (by omega)⟩;rw[U w]at H;by_cases y:i.op=9;rw[af y]at H;simp only[Ee]at H;have g:=adK H.1;exact⟨J,λ_ _ _=>g.1,λh=>au h (by omega),λ_=>oH H.2,λ_=>g.2,λh=>au h (by omega),λh=>au h (by omega),λh=>au h (by omega),λh=>au h (by omega),λh=>au h (by omega),λh=>au h (by omega),λh=>au h (by omega)⟩;rw[U y]at H;by_cases k:i.op=10;rw[af k]at H;simp only[Ee,aA]at H;exact⟨J,λ_ _ _=>oH H.1,λh=>au h (by omega),λ_=>ajb H.2,λh=>au h (by omega),λh=>au h (by omega),λh=>au h (by omega),λh=>au h (by omega),λh=>au h (by omega),λh=>au h (by omega),λh=>au h (by omega),λh=>au h (by omega)⟩;rw[U k]at H;by_cases l:i.op=11;rw[af l]at H;simp only[Ee]at H;have g:=adL H.2;exact⟨J,λ_ _ _=>g.1,λh=>au h (by omega),λh=>au h (by omega),λh=>au h (by omega),λ_=>by grind,λh=>au h (by omega),λh=>au h (by omega),λh=>au h (by omega),λh=>au h (by omega),λh=>au h (by omega),λh=>au h (by omega)⟩;rw[U l]at H;by_cases m:i.op=12;rw[af m]at H;simp only[Ee]at H;have g:=adL H.1.2;exact⟨J,λ_ _ _=>g.1,λh=>au h (by omega),λ_=>oH H.2,λh=>au h (by omega),λh=>au h (by omega),λh=>au h (by omega),λh=>au h (by omega),λh=>au h (by omega),λh=>au h (by omega),λh=>au h (by omega),λh=>au h (by omega)⟩;rw[U m]at H;unfold tG at H;by_cases q:i.op=13;rw[af q]at H;have g:=amU (BJ:=BJ) H;exact⟨J,λh=>au q h,λ_=>g.1,λh=>au h (by omega),λh=>au h (by omega),λh=>au h (by omega),λh=>au h (by omega),λh=>au h (by omega),λh=>au h (by omega),λ_=>by grind,λh=>au h (by omega),λh=>au h (by omega)⟩;rw[U q]at H;by_cases o:i.op=14\/i.op=15;rw[af o]at H;exact⟨J,λ_ _ _=>oH H,λh=>au h (by omega),λh=>au h (by omega),λh=>au h (by omega),λh=>au h (by omega),λh=>au h (by omega),λh=>au h (by omega),λh=>au h (by omega),λh=>au h (by omega),λh=>au h (by omega),λh=>au h (by omega)⟩;rw[U o]at H;by_cases Q:i.op=16;rw[af Q]at H;have g:=UF H;exact⟨J,λ_ h=>au Q h,λh=>au h (by omega),λh=>au h (by omega),λh=>au h (by omega),λh=>au h (by omega),λh=>au h (by omega),λ_=>g,λh=>au h (by omega),λh=>au h (by omega),λh=>au h (by omega),λh=>au h (by omega)⟩;rw[U Q]at H;by_cases p:i.op=17;rw[af p]at H;simp only[Ee]at H;exact⟨J,λ_ _ _=>oH H.1.1,λh=>au h (by omega),λh=>au h (by omega),λh=>au h (by omega),λh=>au h (by omega),λh=>au h (by omega),λ_=>UF H.1.2,λ_=>UF H.2,λh=>au h (by omega),λh=>au h (by omega),λh=>au h (by omega)⟩;rw[U p]at H;by_cases j:i.op=18;rw[af j]at H;have g:i.a = -1\/pe (dn c.vars).length i.a:=by
  grind [oH]
 exact⟨J,λ_ _ h=>au j h,λ_=>g,λh=>au h (by omega),λh=>au h (by omega),λh=>au h (by omega),λh=>au h (by omega),λh=>au h (by omega),λh=>au h (by omega),λh=>au h (by omega),λh=>au h (by omega),λh=>au h (by omega)⟩;rw[U j]at H;have g:=amS H;exact⟨J,λ_ _ _=>g.1,λh=>au h (by omega),λh=>au h (by omega),λh=>au h (by omega),λh=>au h (by omega),λ_=>by grind,λh=>au h (by omega),λh=>au h (by omega),λh=>au h (by omega),λh=>au h (by omega),λh=>au h (by omega)⟩
theorem MG:∀{l:List CD}{f n:Int},wM x l f n=true->∀(k:Nat)(h:k<l.length),EW x (f+k) l[k]=true
 |[],_,_,_,k,h=>by simp at h|c::l,f,n,H,k,h=>by
  unfold wM at H;simp only[Ee]at H;cases k with
  |zero=>grind|succ k=>
   have:=MG H.2 k (by grind)
   grind
theorem amu(g:mU x=true):XOk (qt x BJ):=by
 unfold mU at g;simp only[Ee]at g;have q:=λk h=>MG g.2 k h;have n:∀k (h:k<(iI x.aR).length),(qt x BJ).aR.getD k C0=(iI x.aR)[k]:=λk h=>by
  show (iI x.aR).getD k C0=_
  grind
 have D:∀k (h:k<(iI x.aR).length),(∀i∈mF (iI x.aR)[k].jr,Bx x k i=true)/\RA (mF (iI x.aR)[k].jr)=true:=λk h=>by
  simp_all [EW]
 have M:∀k (h:k<(iI x.aR).length),0<(mF (iI x.aR)[k].jr).length:=λk h=>by
  rcases Nat.eq_zero_or_pos (mF (iI x.aR)[k].jr).length with r|r;have:=(D k h).2;rw[List.eq_nil_of_length_eq_zero r]at this;exact au this (by decide);exact r
 refine⟨λk h j X=>?_,λk h=>?_⟩;have p:k<(iI x.aR).length:=h;have m:=n k p;unfold nt EX;simp only[m]at X ⊢;obtain⟨l,o⟩:=D k p;have H:=l _ (List.getElem_mem X);unfold jc.Bx at H;have O:pU (iI x.aR) (k:Int)=some (iI x.aR)[k]:=by
  simp_all [pU]
 rw[O]at H;simp only[Ee]at H;refine⟨amV H.1 H.2,λN s t=>?_⟩
 grind [KJ]
 have p:k<(iI x.aR).length:=h
 grind [EX]
end ur
namespace ur
open Ax Go aO dh iq jc
variable {x:XD}
def Zw(x:XD)(k:Nat):AV:=sG x k
def arT:Ms:=⟨[],[],[],[],0,0,[],0⟩
def Gr(x:XD)(l:List Int)(n:Nat):Ms:=if mU x=true then pW (qt x (Zw x)) n (m0 (qt x (Zw x)) x.main.toNat l) else arT
theorem ahM(H:mU x=true):∃k:Nat,x.main=k/\k<(iI x.aR).length:=by
 simp only[mU,Ee]at H;have h:=H.1.1.1.1.2;split at h;cases h;rename_i m O;obtain⟨k,j,g,_⟩:=mA O;exact⟨k,j,g⟩
end ur
