/- Part of a proof. -/
import Derived.Test.YtgblgbgjmgjfkaaGreatUC

open List renaming length->Q
open Option renaming some->Z
open Bool renaming true->Y
open List renaming mem_iff_getElem->aav
open Int renaming toNat_natCast->abu
open Bool renaming and_eq_true->E6,or_eq_true->abh
set_option maxRecDepth 100000
set_option maxHeartbeats 4000000
namespace uJ
open Ax Go aM
theorem aos:(bh S).call 0 0 10 [] []=Z (.bool Y,[]):=by
 have h:alV ((YI S 200).call 0 0 10 [] [])=Y:=by kernel_rfl
 exact alU (ag9 h)
open dW gy iA
variable {x:XD}{Bz:Nat->AV}{c:CD}{i:ID}{f:Int}
theorem Hx{vs n}(h:jk vs n≠T0):qf (Q vs) n:=by
 unfold jk at h;by_cases B:0<=n;rw[af B]at h;by_cases H:n.toNat<Q vs;exact⟨B,by omega⟩
 grind
 grind
theorem Ly{vs t l}(h:ko vs t l=Y):∀n∈l,qf (Q vs) n:=by
 simp_all [ko,Hx]
theorem pO{vs t a}(h:ko vs t [a]=Y):qf (Q vs) a:=Ly h a (by simp)
theorem ai4{vs n}(h:lS (jk vs n)=Y):qf (Q vs) n:=Hx λe=>by rw[e]at h;revert h;decide
theorem akB{vs n}(h:0<(jk vs n).d):qf (Q vs) n:=Hx λe=>by grind
theorem aty{vs n}(h:(jk vs n).b=3):qf (Q vs) n:=Hx λe=>by grind
theorem aeV{rs vs a k v}(h:IP rs vs a k v=Y):qf (Q vs) a/\qf (Q vs) v:=by
 unfold IP at h;simp only[E6,aC]at h
 grind [aty,pO]
theorem aeW{vs a v}(h:F1 vs a v=Y):qf (Q vs) a/\qf (Q vs) v:=by
 unfold F1 at h;simp only[E6,aC]at h;exact⟨akB h.1,pO h.2⟩
theorem aeX{S vs n a}(h:F2 S f vs n a=Y):qf (Q vs) a/\0<=n/\n<Q S:=by
 unfold F2 at h;split at h;rename_i s j;simp only[E6,aC]at h
 grind [gZ,pO]
 cases h
theorem aot{R vs n a}(h:Lq R vs n a=Y):qf (Q vs) a/\0<=n/\n<Q R:=by
 grind [Lq,gZ,pO]
theorem Vv{n}(h:F3 c n=Y):0<=n/\n<(Q (jo c.fZ)):=by
 simp_all [F3]
theorem aou{vs}(h:pV vs i=Y):qf (Q vs) i.a/\qf (Q vs) i.b/\qf (Q vs) i.c/\14<=i.n/\i.n<=24:=by
 unfold pV at h;split at h
 grind [Ly]
 split at h;simp only[E6]at h
 grind [Ly]
 split at h;simp only[E6]at h;refine⟨pO h.1,Hx ?_,pO h.2,by omega,by omega⟩;simp_all [ko]
 grind [Ly]
theorem atz{vs t l}(h:ko vs t l=Y):t≠T0:=by
 simp_all [ko]
theorem ai5(h:zD i=Y):1<=i.op/\i.op<=20:=by
 unfold zD at h;by_cases q:1<=i.op/\i.op<=20;exact q;rw[ah,ah,ah,ah,ah,ah,ah,ah,ah]at h;cases h
theorem aov(h:IQ (fm x.aJ) (cx c.vars) i=Y):(i.a = -1\/qf (Q (cx c.vars)) i.a)/\0<=i.c/\i.c<(Q (fm x.aJ))/\Q (dI i.args)<=nQ (pN x Bz) i.c.toNat/\∀n∈dI i.args,qf (Q (cx c.vars)) n:=by
 unfold IQ at h;split at h;cases h;rename_i g U;obtain⟨k,r,D,s⟩:=gZ U;unfold ZK at h;simp only[E6,aC,abh,List.all_eq_true]at h;obtain⟨⟨⟨m,o⟩,l⟩,p⟩:=h;have y:nQ (pN x Bz) i.c.toNat=Q (cx g.vars):=by
  grind [nQ,pN,abu]
 refine⟨?_,by omega,by omega,by grind,λn H=>?_⟩
 grind [pO]
 obtain⟨j,q,rfl⟩:=aav.1 H;have L:j<Q (cx g.vars):=by omega
 exact pO (l ((dI i.args)[j],(cx g.vars)[j]) (aav.2 ⟨j,by simp;omega,by simp⟩))
theorem aow(F:zD i=Y)(H:iZ x f c i=Y):Fit (pN x Bz) (Q (cx c.vars)) (Q (jo c.fZ)) i:=by
 have M:=ai5 F;have T:Q (pN x Bz).cells=Q (lU x.aI):=by simp[pN]
 have G:Q (pN x Bz).aJ=Q (fm x.aJ):=rfl;have J:(pN x Bz).ng=Q (cx x.ax):=rfl;unfold iZ at H;by_cases q1:i.op=1;rw[af q1]at H;have g:qf (Q (cx c.vars)) i.a:=by
  simp only[abh,E6]at H
  grind [pO]
 exact⟨M,λ_ _ _=>g,λh=>au h,λh=>au h,λh=>au h,λh=>au h,λh=>au h,λh=>au h,λh=>au h,λh=>au h,λh=>au h,λh=>au h⟩;rw[U q1]at H;by_cases q2:i.op=2;rw[af q2]at H;exact⟨M,λ_ _ _=>ai4 H,λh=>au h,λh=>au h,λh=>au h,λh=>au h,λh=>au h,λh=>au h,λh=>au h,λh=>au h,λh=>au h,λh=>au h⟩;rw[U q2]at H;by_cases o:i.op=3;rw[af o]at H;exact⟨M,λ_ _ _=>Hx (atz H),λh=>au h,λ_=>pO H,λh=>au h,λh=>au h,λh=>au h,λh=>au h,λh=>au h,λh=>au h,λh=>au h,λh=>au h⟩;rw[U o]at H;by_cases p:i.op=4;rw[af p]at H;obtain⟨B,W,C,D,E⟩:=aou H;exact⟨M,λ_ _ _=>B,λh=>au h,λ_=>W,λ_=>C,λh=>au h,λh=>au h,λh=>au h,λh=>au h,λh=>au h,λ_=>⟨D,E⟩,λh=>au h⟩;rw[U p]at H;by_cases r:i.op=5;rw[af r]at H;have g:qf (Q (cx c.vars)) i.a/\qf (Q (cx c.vars)) i.b/\(i.n=12\/i.n=13):=by
  simp only[abh,E6,aC]at H
  grind [Ly]
 exact⟨M,λ_ _ _=>g.1,λh=>au h,λ_=>g.2.1,λh=>au h,λh=>au h,λh=>au h,λh=>au h,λh=>au h,λh=>au h,λh=>au h,λ_=>g.2.2⟩;rw[U r]at H;by_cases s:i.op=6;rw[af s]at H;have g:=aeV H;exact⟨M,λ_ _ _=>g.2,λh=>au h,λ_=>g.1,λh=>au h,λh=>au h,λh=>au h,λh=>au h,λh=>au h,λh=>au h,λh=>au h,λh=>au h⟩;rw[U s]at H;by_cases t:i.op=7;rw[af t]at H;have g:=aeV H;exact⟨M,λ_ _ _=>g.1,λh=>au h,λ_=>g.2,λh=>au h,λh=>au h,λh=>au h,λh=>au h,λh=>au h,λh=>au h,λh=>au h,λh=>au h⟩;rw[U t]at H;by_cases v:i.op=8;rw[af v]at H;simp only[E6]at H;have g:=aeW H.1;exact⟨M,λ_ _ _=>g.2,λh=>au h,λ_=>g.1,λ_=>pO H.2,λh=>au h,λh=>au h,λh=>au h,λh=>au h,λh=>au h,λh=>au h,λh=>au h⟩;rw[U v]at H;by_cases w:i.op=9;rw[af w]at H;simp only[E6]at H;have g:=aeW H.1;exact⟨M,λ_ _ _=>g.1,λh=>au h,λ_=>pO H.2,λ_=>g.2,λh=>au h,λh=>au h,λh=>au h,λh=>au h,λh=>au h,λh=>au h,λh=>au h⟩;rw[U w]at H;by_cases k:i.op=10;rw[af k]at H;simp only[E6,aC]at H;exact⟨M,λ_ _ _=>pO H.1,λh=>au h,λ_=>akB H.2,λh=>au h,λh=>au h,λh=>au h,λh=>au h,λh=>au h,λh=>au h,λh=>au h,λh=>au h⟩;rw[U k]at H;by_cases z:i.op=11;rw[af z]at H;simp only[E6]at H;have g:=aeX H.2;exact⟨M,λ_ _ _=>g.1,λh=>au h,λh=>au h,λh=>au h,λ_=>by grind,λh=>au h,λh=>au h,λh=>au h,λh=>au h,λh=>au h,λh=>au h⟩;rw[U z]at H;by_cases l:i.op=12;rw[af l]at H;simp only[E6]at H;have g:=aeX H.1.2;exact⟨M,λ_ _ _=>g.1,λh=>au h,λ_=>pO H.2,λh=>au h,λh=>au h,λh=>au h,λh=>au h,λh=>au h,λh=>au h,λh=>au h,λh=>au h⟩;rw[U l]at H;unfold sU at H;by_cases q:i.op=13;rw[af q]at H;have g:=aov (Bz:=Bz) H;exact⟨M,λh=>bH q h,λ_=>g.1,λh=>au h,λh=>au h,λh=>au h,λh=>au h,λh=>au h,λh=>au h,λ_=>by grind,λh=>au h,λh=>au h⟩;rw[U q]at H;by_cases m:i.op=14\/i.op=15;rw[af m]at H;exact⟨M,λ_ _ _=>pO H,λh=>au h,λh=>au h,λh=>au h,λh=>au h,λh=>au h,λh=>au h,λh=>au h,λh=>au h,λh=>au h,λh=>au h⟩;rw[U m]at H;by_cases j:i.op=16;rw[af j]at H;have g:=Vv H;exact⟨M,λ_ h=>bH j h,λh=>au h,λh=>au h,λh=>au h,λh=>au h,λh=>au h,λ_=>g,λh=>au h,λh=>au h,λh=>au h,λh=>au h⟩;rw[U j]at H;by_cases y:i.op=17;rw[af y]at H;simp only[E6]at H;exact⟨M,λ_ _ _=>pO H.1.1,λh=>au h,λh=>au h,λh=>au h,λh=>au h,λh=>au h,λ_=>Vv H.1.2,λ_=>Vv H.2,λh=>au h,λh=>au h,λh=>au h⟩;rw[U y]at H;by_cases I:i.op=18;rw[af I]at H;have g:i.a = -1\/qf (Q (cx c.vars)) i.a:=by
  grind [pO]
 exact⟨M,λ_ _ h=>bH I h,λ_=>g,λh=>au h,λh=>au h,λh=>au h,λh=>au h,λh=>au h,λh=>au h,λh=>au h,λh=>au h,λh=>au h⟩;rw[U I]at H;have g:=aot H;exact⟨M,λ_ _ _=>g.1,λh=>au h,λh=>au h,λh=>au h,λh=>au h,λ_=>by grind,λh=>au h,λh=>au h,λh=>au h,λh=>au h,λh=>au h⟩
theorem Nv:∀{l:List CD}{f n:Int},tM x l f n=Y->∀(k:Nat) h,D8 x (f+k) l[k]=Y
 |[],_,_,_,k,h=>by simp at h|c::l,f,n,H,k,h=>by
  unfold tM at H;simp only[E6]at H;cases k with
  |zero=>grind|succ k=>
   have:=Nv H.2 k (by grind)
   grind
theorem aeF(g:lW x=Y):XOk (pN x Bz):=by
 unfold lW at g;simp only[E6]at g;have q:=λk h=>Nv g.2 k h;have n:∀k (h:k<Q (fm x.aJ)),(pN x Bz).aJ.getD k C0=(fm x.aJ)[k]:=λk h=>by
  show (fm x.aJ).getD k C0=_
  grind
 have F:∀k (h:k<Q (fm x.aJ)),(∀i∈jo (fm x.aJ)[k].fZ,yw x k i=Y)/\Np (jo (fm x.aJ)[k].fZ)=Y:=λk h=>by
  simp_all [D8]
 have I:∀k (h:k<Q (fm x.aJ)),0<Q (jo (fm x.aJ)[k].fZ):=λk h=>by
  rcases Nat.eq_zero_or_pos (Q (jo (fm x.aJ)[k].fZ)) with B|B;have:=(F k h).2;rw[List.eq_nil_of_length_eq_zero B]at this;exact bH this (by decide);exact B
 refine⟨λk h j l=>?_,λk h=>?_⟩;have p:k<Q (fm x.aJ):=h;have N:=n k p;unfold nQ F5;simp only[N]at l ⊢;obtain⟨m,o⟩:=F k p;have H:=m _ (List.getElem_mem l);unfold iA.yw at H;have U:jq (fm x.aJ) (k:Int)=Z (fm x.aJ)[k]:=by
  simp_all [jq]
 rw[U]at H;simp only[E6]at H;refine⟨aow H.1 H.2,λr s t=>?_⟩
 grind [F4]
 have p:k<Q (fm x.aJ):=h
 grind [F5]
end uJ
namespace uJ
open Ax Go aM dW gy iA
variable {x:XD}
def SZ(x:XD)(k:Nat):AV:=tN x k
def akC:Ms:=⟨[],[],[],[],0,0,[],0⟩
def A4(x:XD)(l:List Int)(n:Nat):Ms:=if lW x=Y then oK (pN x (SZ x)) n (m0 (pN x (SZ x)) x.main.toNat l) else akC
theorem XK(H:lW x=Y):∃k:Nat,x.main=k/\k<Q (fm x.aJ):=by
 simp only[lW,E6]at H;have h:=H.1.1.1.1.2;split at h;cases h;rename_i m U;obtain⟨k,g,D,_⟩:=gZ U;exact⟨k,g,D⟩
theorem XL{X}(L:XOk X):∀n m,Ho X m->Ho X (mP X n m)
 |0,_,h=>h|n+1,m,h=>by
  unfold mP;by_cases B:m.e=0;rw[af B];exact XL L n _ (oC L h B);rw[U B];exact h
theorem ai6(l n):Q (A4 x l n).out<=n:=by
 unfold A4;by_cases H:lW x=Y;simp only[af H];obtain⟨k,m,D⟩:=XK H;have L:=aeF (Bz:=SZ x) H;rw[m,abu];have g:=(XL L n _ (aku L D l)).o;have j:=(v7 (X:=pN x (SZ x)) n (m0 (pN x (SZ x)) k l) rfl).2.2.1;have p:(m0 (pN x (SZ x)) k l).aL=0:=rfl;have h:∀q:Ms,(gy.mark q).out=q.out:=λq=>by unfold gy.mark;split<;>rfl
 rw[gy.run_mark,h];omega;simp only[U H];simp[akC]
end uJ
