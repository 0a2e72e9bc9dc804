/- Part of a proof. -/
import Derived.Test.YtgblgbgjmgjfkaaGreatZ

open List renaming length->Q
open Option renaming some->Z,none->K
open Bool renaming true->Y
open List renaming length_append->aaq,length_cons->aaK,length_nil->afF,getElem?_append_right->aak,getElem?_cons_succ->afi,cons_append->abb,mem_append->aaw,mem_singleton->afq,getElem?_eq_getElem->aae,replicate->aag,mem_cons_self->aat,mem_cons_of_mem->aax
open Bool renaming and_eq_true->E6
set_option maxHeartbeats 2000000
namespace qR
open Ax Go V7 jb jn qA
open qu (Rs Fm Cx Dm WE WL WS WB Vh XE mG ev jD vals eF ju gj cz gQ jQ pL cG rF eP vg rG pJ pK pI stop cj mN kq lJ Cs xC Gb nU)
open gy (Ms MP Fr lP qt mP jC gO nB gC nu gi qp uG rD eB nQ pF)
variable {X:MP}{C:Cx}{D:Dm}{H:Hd}{cs:List Cd}{M:Nat}
variable {fE:E->Fm->Rs->Int×Rs}{fS:Sm->Rs×Fm->Rs×Fm}
variable {f:Fm}{r:Rs}{fn pos p nv ns:Nat}{c:Cd}{to:Int}{vs:List Int}{L:List Fr}{st:Nat}{ty:T3}{i:In}
theorem Jr{fr n}:nu (ms r fr L st) n=ms r { fr with at_:=n } L st:=rfl
theorem CH(B:r.e=0)(m)(h:m.e=0)(z:m.out=r.out)(w):kT X r (stop r) m 0 w:=by
 right;have e:stop r={ r with e:=3 }:=by unfold stop;grind
 rw[e];exact⟨rfl,0,m,.zero _,h,z,by grind,by grind⟩
theorem At.cj(h:At C cs fn c nv f r vs L):At C cs fn c nv f (qu.cj r) vs L:=⟨h.hc,h.hl,h.hn,h.fv,h.e,h.nf,h.n40,h.g⟩
theorem CA(g:KP X C D H cs M)(hE:SE X C D cs M fE)(hS:SS X C D cs M fS){e B}(hN:NE e)(E1:e.ty≠T0)(hW:WE D e)(J:NB B)(O:WB D B){pos nv ns}(N:Pl X C c.is pos ns (Tn nv pos ns (cE nv ns e) (λnv at_ ns=>cB nv at_ ns B)))(hv:nv+Q (Tn nv pos ns (cE nv ns e) (λnv at_ ns=>cB nv at_ ns B)).vs<=Q c.vars):
  ∀n f r vs st,At C cs fn c nv f r vs L->f.done=false->f.res=0->DD (Q f.vs) e->sA (Q f.vs) B->
   OS X C M (1+E.sz e+Sm.eJ B) (Tn nv pos ns (cE nv ns e) (λnv at_ ns=>cB nv at_ ns B)) fn pos to vs L st r f (cz C fE fS e B n (r,f))
 |0,f,r,vs,st,h,hd,_,_,_=>by
  right;right;have:cz C fE fS e B 0 (r,f)=(stop r,f):=by simp_all [cz]
  rw[this];exact CH h.e _ rfl rfl _
 |n+1,f,r,vs,st,h,hd,h0,hR,hRb=>by
  have Jo:cz C fE fS e B (n+1) (r,f)=if pI C r=Y then (if (fE e f (cj r)).2.e≠0\/(fE e f (cj r)).1=0 then ((fE e f (cj r)).2,f) else cz C fE fS e B n (gj fS B ((fE e f (cj r)).2,f))) else (stop r,f):=by
   simp_all [cz]
  rw[Jo];by_cases ho:pI C r=Y
  case neg=>
   rw[U ho];right;right;exact CH h.e _ rfl rfl _
  rw[af ho];have azu:=N;have hv0:=hv;unfold Tn at N hv;simp only at N hv;have hts:(cj r).aL=r.aL+1:=rfl;have hPx:Pl X C c.is pos ns (cE nv ns e).2:=⟨λj i hj=>N.is j i (nP hj),λk t hk=>N.ss k t (nP hk)⟩;have s:=hE e f (cj r) fn c pos nv ns to vs L st h.cj hN hW hR hPx (by grind);have TW:∀fr L st,ms (cj r) fr L st=ms r fr L st:=λ_ _ _=>rfl;unfold OE at s;simp only[TW]at s;have S:Q (Tn nv pos ns (cE nv ns e) (λnv at_ ns=>cB nv at_ ns B)).is=Q (cE nv ns e).2.is+1+Q (cB (nv+Q (cE nv ns e).2.vs) (pos+Q (cE nv ns e).2.is+1) (ns+Q (cE nv ns e).2.ss) B).is+1:=by
   grind [Tn,aaq,aaK,afF]
  generalize hx:cE nv ns e=x at *;generalize hb:cB (nv+Q x.2.vs) (pos+Q x.2.is+1) (ns+Q x.2.ss) B=b at *;have hbr:c.is[pos+Q x.2.is]?=Z ⟨17,x.1,0,((pos+Q x.2.is+1+Q b.is+1:Nat):Int),((pos+Q x.2.is+1:Nat):Int),[]⟩:=N.is (Q x.2.is) _ (by grind);have hPb:Pl X C c.is (pos+Q x.2.is+1) (ns+Q x.2.ss) b:=by
   refine⟨λj i hj=>?_,λk t hk=>?_⟩;have:=N.is (Q x.2.is+(1+j)) i (by
    rw[aak (by omega),show Q x.2.is+(1+j)-Q x.2.is=j+1 by omega,afi]
    grind)
   grind
   have:=N.ss (Q x.2.ss+k) t (by grind)
   grind
  have hjm:c.is[pos+Q x.2.is+1+Q b.is]?=Z ⟨16,0,0,0,(pos:Int),[]⟩:=by
   have:=N.is (Q x.2.is+(Q b.is+1)) ⟨16,0,0,0,(pos:Int),[]⟩ (by
    grind)
   grind
  have hlc:loc e<=2:=by grind [loc]
  rcases s with⟨e0,l,e2,k,v,g1,G,g3,g4,g5⟩|s;obtain⟨v1,v2,v3⟩:=g3 E1;have m:=g.step h.hc hbr (fE e f (cj r)).2 to v L (st+k);rw[akH rfl,Jr]at m;have hva:eB v (nR ⟨17,x.1,0,((pos+Q x.2.is+1+Q b.is+1:Nat):Int),((pos+Q x.2.is+1:Nat):Int),[]⟩).a=(fE e f (cj r)).1:=v1;rw[hva]at m;generalize fE e f (cj r)=y at *;obtain⟨y1,r1⟩:=y;simp only at e0 l e2 g1 g3 g4 g5 v1 m ⊢;have uB:Q f.vs<=nv:=h.hn;have P:v.take (Q f.vs)=f.vs:=by rw[G.take uB];exact h.fv
  by_cases hz:y1=0;rw[af (.inr hz)];left;rw[U (by grind)]at m;refine⟨e0,l,e2,rfl,hd,rfl,k+1,v,?_,G.1,P,by grind,by grind⟩;have:=g1.trans m;rw[S];have e3:(pos+(Q x.2.is+1+Q b.is+1):Nat)=pos+Q x.2.is+1+Q b.is+1:=by omega
  rw[e3];exact this;rw[U (by grind)];rw[af hz]at m;have g6:=g1.trans m;have hA1:At C cs fn c (nv+Q x.2.vs) f r1 v L:=⟨h.hc,by rw[G.1];exact h.hl,by omega,P,e0,by rw[l];exact h.nf,by rw[l];exact h.n40,e2⟩;have w:=zJ hS B f r1 fn c (pos+Q x.2.is+1) (nv+Q x.2.vs) (ns+Q x.2.ss) to v L (st+(k+1)) hA1 hd h0 J O hRb (by grind) (by grind);rw[hb]at w;generalize gj fS B (r1,f)=y at *;obtain⟨R,F⟩:=y;rcases w with⟨T,I,W,o,i4,i5,q,LO,j1,j2,j3,j4,j5⟩|⟨T,I,W,o,i4,q,j1,j2,j3⟩|w;simp only at T I W o i4 i5 j1 j3 j4 j5;have EF:=g.step h.hc hjm R to LO L (st+(k+1)+q);rw[akG rfl,Jr]at EF;have g7:=g6.trans (j1.trans EF);have Lz:At C cs fn c nv F R LO L:=⟨h.hc,by rw[j2,G.1];exact h.hl,by grind,by grind,T,by rw[I,l];exact h.nf,by rw[I,l];exact h.n40,W⟩;have ih:=CA g hE hS hN E1 hW J O (by rw[hx];exact azu) (by grind) n F R LO (st+(k+1)+q+1) Lz i4 (by grind) (by grind) (by grind);rw[hx]at ih;generalize cz C fE fS e B n (R,F)=z at *;rcases ih with⟨a0,a1,a2,a3,a4,a5,k3,vs3,b1,b2,b3,b4,b5⟩|⟨a0,a1,a2,a3,a4,k3,b1,b2,b3⟩|ih;left;refine⟨a0,by rw[a1,I,l];rfl,a2,by rw[a3,o],a4,by rw[a5,i5],k+1+(q+1)+k3,vs3,?_,by rw[b2,j2,G.1],by grind,by omega,by omega⟩;have:=g7.trans b1
  grind
  right;left;refine⟨a0,by rw[a1,I,l];rfl,a2,by rw[a3,o],a4,k+1+(q+1)+k3,?_,by omega,by omega⟩;have:=g7.trans b1
  grind
  right;right;refine ih.jh g7 (by omega) ?_;have XO:R.nf=r.nf:=by rw[I,l];rfl
  grind
  right;left;simp only at T I W o i4 j1 j2 j3;have:cz C fE fS e B n (R,F)=(R,F):=by cases n<;>(unfold cz;grind)
  rw[this];refine⟨T,by show R.nf=r.nf;rw[I,l];rfl,W,o,i4,k+1+q,?_,by grind,by grind⟩;have:=g6.trans j1
  grind
  right;right;have he:=w.e;rw[qu.Hs n he];refine w.jh g6 (by omega) ?_;have XO:r1.nf=r.nf:=by rw[l];rfl
  grind
  right;right;rw[af (.inl s.e)]
  grind [kT,cj,ms,E.sz]
end qR
namespace qR
open Ax Go V7 jb jn qA
open qu (Rs Fm Cx Dm WE WL WS WB Vh XE mG ev jD vals eF ju gj cz gQ jQ pL cG rF eP vg rG pJ pK pI stop cj mN kq lJ Cs xC Gb nU)
open gy (Ms MP Fr lP qt mP jC gO nB gC nu gi qp uG rD eB nQ pF)
variable {X:MP}{C:Cx}{D:Dm}{H:Hd}{cs:List Cd}{M:Nat}
variable {fE:E->Fm->Rs->Int×Rs}{fS:Sm->Rs×Fm->Rs×Fm}
variable {f:Fm}{r:Rs}{fn pos p nv ns:Nat}{c:Cd}{to:Int}{vs:List Int}{L:List Fr}{st:Nat}{ty:T3}{i:In}
theorem OS.ou{w W o x}(h:OS X C M w o fn pos to vs L st r f x)(g:w<=W):OS X C M W o fn pos to vs L st r f x:=by
 rcases h with h|h|h;exact .inl h;exact .inr (.inl h);exact .inr (.inr (h.jh (.zero _) (by omega) (by omega)))
theorem Bu{g:List E}(h:Q g=1):∃e,g=[e]:=by
 match g,h with
 |[e],_=>exact⟨e,rfl⟩
theorem ai9{e}:lT nv ns [e]=([(cE nv ns e).1],(cE nv ns e).2):=by
 rw[qB];have h:∀a b,lT a b []=([],O0):=λa b=>by unfold lT;rfl
 rw[h];simp[UF]
theorem LD:∀l nv ns b,lT nv ns (l++[b])=((lT nv ns l).1++[(cE (nv+Q (lT nv ns l).2.vs) (ns+Q (lT nv ns l).2.ss) b).1],(lT nv ns l).2.eD (cE (nv+Q (lT nv ns l).2.vs) (ns+Q (lT nv ns l).2.ss) b).2)
 |[],nv,ns,b=>by
  have h:∀a b,lT a b []=([],O0):=λa b=>by unfold lT;rfl
  rw[List.nil_append,ai9,h];simp[O0,nj.eD]
 |y::l,nv,ns,b=>by
  rw[abb,qB,qB,LD l];simp only[nj.eD,abb,aaq,Nat.add_assoc,List.append_assoc]
theorem Js(B:SE X C D cs M fE){e}(q:At C cs fn c nv f r vs L)(F:NE e)(s:e.ty≠T0)(N:WE D e)(J:DD (Q f.vs) e){o}(I:Pl X C c.is pos ns ((cE nv ns e).2.eD o))(hv:nv+Q ((cE nv ns e).2.eD o).vs<=Q c.vars):
  (∃v R,vals fE f [e] (cj r)=(Z [v],R)/\R.e=0/\R.nf=r.nf/\Q R.g=C.ng/\∃k j,Rn X k (ms r ⟨fn,pos,to,vs⟩ L st) (ms R ⟨fn,((pos+Q (cE nv ns e).2.is:Nat)),to,j⟩ L (st+k))/\Q j=Q vs/\j.take (Q f.vs)=f.vs/\
   eB j (cE nv ns e).1=v/\0<=(cE nv ns e).1/\3*r.aL+3+k<=3*R.aL/\R.aL<=r.aL+8*k+2/\At C cs fn c (nv+Q (cE nv ns e).2.vs) f R j L)\/
  (∃R,vals fE f [e] (cj r)=(K,R)/\kT X r R (ms r ⟨fn,pos,to,vs⟩ L st) 0 (1+E.sz e+(40-r.nf)*M)):=by
 have h:=B e f (cj r) fn c pos nv ns to vs L st q.cj F N J I.left (by simp only[nj.eD,aaq]at hv;omega);have T:∀fr L st,ms (cj r) fr L st=ms r fr L st:=λ_ _ _=>rfl;have P:(cj r).aL=r.aL+1:=rfl;have W:(cj r).nf=r.nf:=rfl;unfold OE at h;simp only[T]at h;have t:vals fE f [e] (cj r)=if (fE e f (cj r)).2.e≠0 then (K,(fE e f (cj r)).2) else (Z [(fE e f (cj r)).1],(fE e f (cj r)).2):=rfl
 rw[t];generalize fE e f (cj r)=y at *;have O:loc e<=2:=by unfold loc;split<;>omega
 rcases h with⟨l,m,n,k,j,G,z,w,g4,g5⟩|h;left;obtain⟨v1,v2,v3⟩:=w s;rw[U (by rw[l];simp)];have S:=q.oq (r':=y.2) z (Nat.le_add_right nv (Q (cE nv ns e).2.vs)) l m n;exact⟨y.1,y.2,rfl,l,m,n,k,j,G,z.1,S.fv,v1,v2,by omega,by omega,S⟩;right;rw[af h.e];have x:kT X (cj r) y.2 (ms r ⟨fn,(pos:Nat),to,vs⟩ L st) 0 (E.sz e+(40-r.nf)*M):=h;exact⟨y.2,rfl,x.jh (.zero _) (by omega) (by omega)⟩
theorem Jt{x o:nj}(F:Pl X C c.is pos ns (x.eD o)){i}(z:o.is[0]?=Z i):c.is[pos+Q x.is]?=Z i:=by
 have:=F.right.is 0 i z
 rwa [Nat.add_zero]at this
theorem aoz(h:KP X C D H cs M)(hS:SS X C D cs M fS){x B m R v k y1}(N:Pl X C c.is pos ns (Qg nv pos ns x (λnv at_ ns=>cB nv at_ ns B) (λnv at_ ns=>cB nv at_ ns m)))(hv:nv+Q (Qg nv pos ns x (λnv at_ ns=>cB nv at_ ns B) (λnv at_ ns=>cB nv at_ ns m)).vs<=Q c.vars)(g1:Rn X k (ms r ⟨fn,pos,to,vs⟩ L st) (ms R ⟨fn,((pos+Q x.2.is:Nat)),to,v⟩ L (st+k)))(hl:Q v=Q vs)(v1:eB v x.1=y1)(o:At C cs fn c (nv+Q x.2.vs) f R v L)(T:R.nf=r.nf)(hd:f.done=false)(h0:f.res=0)(q1:3*r.aL+3+k<=3*R.aL)(q2:R.aL<=r.aL+8*k+2)(hNb:NB B)(hNe:NB m)(hWb:WB D B)(hWe:WB D m)(hRb:sA (Q f.vs) B)(hRe:sA (Q f.vs) m)(w):
  OS X C M (2+w+Sm.eJ B+Sm.eJ m) (Qg nv pos ns x (λnv at_ ns=>cB nv at_ ns B) (λnv at_ ns=>cB nv at_ ns m)) fn pos to vs L st r f (if y1≠0 then gj fS B (R,f) else gj fS m (R,f)):=by
 have q:Q (Qg nv pos ns x (λnv at_ ns=>cB nv at_ ns B) (λnv at_ ns=>cB nv at_ ns m)).is=Q x.2.is+1+Q (cB (nv+Q x.2.vs) (pos+Q x.2.is+1) (ns+Q x.2.ss) B).is+1 +
   (Q (cB (nv+Q x.2.vs+Q (cB (nv+Q x.2.vs) (pos+Q x.2.is+1) (ns+Q x.2.ss) B).vs) (pos+Q x.2.is+1+Q (cB (nv+Q x.2.vs) (pos+Q x.2.is+1) (ns+Q x.2.ss) B).is+1) (ns+Q x.2.ss+Q (cB (nv+Q x.2.vs) (pos+Q x.2.is+1) (ns+Q x.2.ss) B).ss) m).is):=by
  unfold Qg;simp only[aaq,aaK];omega
 unfold Qg at N hv;simp only at N hv;generalize hb:cB (nv+Q x.2.vs) (pos+Q x.2.is+1) (ns+Q x.2.ss) B=b at *;generalize hc:cB (nv+Q x.2.vs+Q b.vs) (pos+Q x.2.is+1+Q b.is+1) (ns+Q x.2.ss+Q b.ss) m=d at *;have hbr:c.is[pos+Q x.2.is]?=Z ⟨17,x.1,0,((pos+Q x.2.is+1+Q b.is+1:Nat):Int),((pos+Q x.2.is+1:Nat):Int),[]⟩:=N.is (Q x.2.is) _ (by rw[aak (by omega)];simp);have hPb:Pl X C c.is (pos+Q x.2.is+1) (ns+Q x.2.ss) b:=by
  refine⟨λj i hj=>?_,λk t hk=>?_⟩;have:=N.is (Q x.2.is+(1+j)) i (by
   rw[aak (by omega),show Q x.2.is+(1+j)-Q x.2.is=j+1 by omega,afi];exact nP hj)
  rw[<-this];congr 1;omega;have:=N.ss (Q x.2.ss+k) t (by refine nP ?_;rw[aak (by omega),show Q x.2.ss+k-Q x.2.ss=k by omega];exact hk);rw[<-Nat.add_assoc]at this;exact this
 have hjm:c.is[pos+Q x.2.is+1+Q b.is]?=Z ⟨16,0,0,0,((pos+Q x.2.is+1+Q b.is+1+Q d.is:Nat):Int),[]⟩:=by
  have:=N.is (Q x.2.is+(Q b.is+1)) ⟨16,0,0,0,((pos+Q x.2.is+1+Q b.is+1+Q d.is:Nat):Int),[]⟩ (by
   rw[aak (by omega),show Q x.2.is+(Q b.is+1)-Q x.2.is=Q b.is+1 by omega,afi,aak (by omega)];simp)
  rw[<-this];congr 1;omega
 have hPd:Pl X C c.is (pos+Q x.2.is+1+Q b.is+1) (ns+Q x.2.ss+Q b.ss) d:=by
  refine⟨λj i hj=>?_,λk t hk=>?_⟩;have:=N.is (Q x.2.is+(1+Q b.is+1+j)) i (by
   rw[aak (by omega),show Q x.2.is+(1+Q b.is+1+j)-Q x.2.is=(Q b.is+1+j)+1 by omega,afi,aak (by omega),
    show Q b.is+1+j-Q b.is=j+1 by omega,afi]
   exact hj)
  rw[<-this];congr 1;omega;have:=N.ss (Q x.2.ss+Q b.ss+k) t (by rw[aak (by simp only[aaq];omega)];simp only[aaq];rw[show Q x.2.ss+Q b.ss+k-(Q x.2.ss+Q b.ss)=k by omega];exact hk);have e:ns+(Q x.2.ss+Q b.ss+k)=ns+Q x.2.ss+Q b.ss+k:=by omega
  rw[e]at this;exact this
 have S:=h.step o.hc hbr R to v L (st+k);rw[akH rfl,Jr]at S;have hva:eB v (nR ⟨17,x.1,0,((pos+Q x.2.is+1+Q b.is+1:Nat):Int),((pos+Q x.2.is+1:Nat):Int),[]⟩).a=y1:=v1;rw[hva]at S;have VO:nv+Q x.2.vs+Q b.vs+Q d.vs<=Q c.vars:=by simp only[aaq]at hv;omega
 by_cases hz:y1=0;rw[U (by rw[hz];simp)]at S ⊢;have G:=g1.trans S;have n:=zJ hS m f R fn c (pos+Q x.2.is+1+Q b.is+1) (nv+Q x.2.vs+Q b.vs) (ns+Q x.2.ss+Q b.ss) to v L (st+(k+1)) ⟨o.hc,o.hl,by have:=o.hn;omega,o.fv,o.e,o.nf,o.n40,o.g⟩ hd h0 hNe hWe hRe (by rw[hc];exact hPd) (by rw[hc];exact VO);rw[hc]at n;generalize gj fS m (R,f)=y at *;rcases n with⟨I,z,F,J,O,i5,l,LO,P,W,j3,j4,j5⟩|⟨I,z,F,J,O,l,P,W,j3⟩|n;left;refine⟨I,by rw[z,T],F,J,O,i5,k+1+l,LO,?_,by rw[W,hl],j3,by omega,by omega⟩;have:=G.trans P;rw[q];have e3:(pos+(Q x.2.is+1+Q b.is+1+Q d.is):Nat)=pos+Q x.2.is+1+Q b.is+1+Q d.is:=by omega
 have s:st+(k+1+l)=st+(k+1)+l:=by omega
 rw[e3,s];exact this;right;left;refine⟨I,by rw[z,T],F,J,O,k+1+l,?_,by omega,by omega⟩;have:=G.trans P;have s:st+(k+1+l)=st+(k+1)+l:=by omega
 rw[s];exact this;right;right;rw[T]at n;exact n.jh G (by omega) (by omega);rw[af hz]at S ⊢;have G:=g1.trans S;have n:=zJ hS B f R fn c (pos+Q x.2.is+1) (nv+Q x.2.vs) (ns+Q x.2.ss) to v L (st+(k+1)) o hd h0 hNb hWb hRb (by rw[hb];exact hPb) (by rw[hb];omega);rw[hb]at n;generalize gj fS B (R,f)=y at *;rcases n with⟨I,z,F,J,O,i5,l,LO,P,W,j3,j4,j5⟩|⟨I,z,F,J,O,l,P,W,j3⟩|n;left;have EF:=h.step o.hc hjm y.1 to LO L (st+(k+1)+l);rw[akG rfl,Jr]at EF;refine⟨I,by rw[z,T],F,J,O,i5,k+1+(l+1),LO,?_,by rw[W,hl],j3,by omega,by omega⟩;have:=G.trans (P.trans EF);rw[q];have e3:(pos+(Q x.2.is+1+Q b.is+1+Q d.is):Nat)=pos+Q x.2.is+1+Q b.is+1+Q d.is:=by omega
 have s:st+(k+1+(l+1))=st+(k+1)+l+1:=by omega
 rw[e3,s];exact this;right;left;refine⟨I,by rw[z,T],F,J,O,k+1+l,?_,by omega,by omega⟩;have:=G.trans P;have s:st+(k+1+l)=st+(k+1)+l:=by omega
 rw[s];exact this;right;right;rw[T]at n;exact n.jh G (by omega) (by omega)
end qR
namespace qR
open Ax Go V7 jb jn qA
open qu (Rs Fm Cx Dm WE WL WS WB Vh XE mG ev jD vals eF ju gj cz gQ jQ pL cG rF eP vg rG pJ pK pI stop cj mN kq lJ Cs xC Gb nU)
open gy (Ms MP Fr lP qt mP jC gO nB gC nu gi qp uG rD eB nQ pF)
variable {X:MP}{C:Cx}{D:Dm}{H:Hd}{cs:List Cd}{M:Nat}
variable {fE:E->Fm->Rs->Int×Rs}{fS:Sm->Rs×Fm->Rs×Fm}
variable {f:Fm}{r:Rs}{fn pos p nv ns:Nat}{c:Cd}{to:Int}{vs:List Int}{L:List Fr}{st:Nat}{ty:T3}{i:In}
theorem ae1{x:nj}{i}:Q (x.eD (gx i)).is=Q x.is+1:=by simp[nj.eD,gx]
theorem aja{x:nj}{i}:(x.eD (gx i)).vs=x.vs:=by simp[nj.eD,gx]
theorem PZ(j:KP X C D H cs M){o:nj}{R r3 f' v LO k i w}(x:At C cs fn c nv f R v L)(T:R.nf=r.nf)(y:Rn X k (ms r ⟨fn,pos,to,vs⟩ L st) (ms R ⟨fn,((pos+Q o.is:Nat)),to,v⟩ L (st+k)))(B:Q v=Q vs)(q1:3*r.aL+1+k<=3*R.aL)(q2:R.aL<=r.aL+8*k+8)(z:c.is[pos+Q o.is]?=Z i)(l:r3.e=0/\r3.nf=R.nf/\Q r3.g=C.ng/\r3.aL=R.aL)(q:Q f'.vs=Q f.vs/\f'.done=false/\f'.res=f.res)(m:Q LO=Q v/\LO.take (Q f.vs)=f'.vs)(n:∀a st,qt X (ms R ⟨fn,a,to,v⟩ L st) v (nR i)=ms r3 ⟨fn,a,to,LO⟩ L st):OS X C M w (o.eD (gx i)) fn pos to vs L st r f (r3,f'):=by
 left;have h:=j.step x.hc z R to v L (st+k);rw[n]at h;refine⟨l.1,by rw[l.2.1,T],l.2.2.1,q.1,q.2.1,q.2.2,k+1,LO,?_,by rw[m.1,B],m.2,by show 3*r.aL+(k+1)<=3*r3.aL;rw[l.2.2.2];omega,by show r3.aL<=_;rw[l.2.2.2];omega⟩;rw[ae1];have:=y.trans h;have s:st+(k+1)=st+k+1:=by omega
 have t:pos+(Q o.is+1)=pos+Q o.is+1:=by omega
 rw[s,t];exact this
theorem ae2(j:KP X C D H cs M){o:nj}{R T t v k i w}(l:At C cs fn c nv f R v L)(z:R.nf=r.nf)(y:Rn X k (ms r ⟨fn,pos,to,vs⟩ L st) (ms R ⟨fn,((pos+Q o.is:Nat)),to,v⟩ L (st+k)))(F:Q v=Q vs)(q1:3*r.aL+1+k<=3*R.aL)(q2:R.aL<=r.aL+8*k+8)(B:f.done=false)(x:c.is[pos+Q o.is]?=Z i)(n:∀a st,qt X (ms R ⟨fn,a,to,v⟩ L st) v (nR i)=gC (ms { R with s:=T } ⟨fn,a,to,v⟩ L st) t):OS X C M w (o.eD (gx i)) fn pos to vs L st r f (eP { R with s:=T } t,f):=by
 by_cases m:t=0;have e:eP { R with s:=T } t={ R with s:=T }:=by unfold eP;rw[U (by rintro⟨q,_⟩;exact q m)]
 rw[e];refine PZ j l z y F q1 q2 x ⟨l.e,rfl,l.g,rfl⟩ ⟨rfl,B,rfl⟩ ⟨rfl,l.fv⟩ λa st=>?_;rw[n];unfold gC;rw[af m];right;right;have e:eP { R with s:=T } t={ R with s:=T,e:=2,code:=t }:=by unfold eP;rw[af ⟨m,l.e⟩]
 rw[e];have h:=j.step l.hc x R to v L (st+k);rw[n]at h;left;refine⟨rfl,k+1,_,y.trans h,?_,?_,?_,by show 3*r.aL+(k+1)<=3*R.aL+0;omega⟩<;>(unfold gC;rw[U m]<;>rfl)
theorem ajb{s x}(h:s.k=4):gQ fE fS s x=match vals fE x.2 ((qu.jR s.es).aP++s.es.drop 1) x.1 with
  |(K,r)=>(r,x.2)
  |(Z l,r)=>pL (r,x.2) (qu.jR s.es).k (qu.jR s.es).ref l:=by unfold gQ;rw[af h];rfl
theorem ajc{s x}(h:s.k≠4):gQ fE fS s x=match vals fE x.2 s.es x.1 with
  |(K,r)=>(r,x.2)
  |(Z l,r)=>jQ fS s.k s.ref s.bd s.el l (r,x.2):=by unfold gQ;rw[U h];rfl
theorem jv{e}:E.eJ [e]=E.sz e:=by simp[E.eJ]
theorem Lw(m:KP X C D H cs M)(hE:SE X C D cs M fE)(hS:SS X C D cs M fS){N gS}(hg:∀s x,gS s x=if s.k=1 then x else if s.k=6 then cz C fE fS (qu.jR s.es) s.bd N x else if pI C x.1=Y then gQ fE fS s (cj x.1,x.2) else (stop x.1,x.2)):SS X C D cs M gS:=by
 intro s f r fn c pos nv ns to vs L st I hd h0 hN hW hR F z;have EH:=hg s (r,f);rw[XN]at hN;rw[Gb]at hW;rw[ye]at hR;obtain⟨nE,nT,n9,_,nb,ne⟩:=hN;obtain⟨⟨⟨k1,k9⟩,kg,kl,kp,kr⟩,we,wb,wl⟩:=hW;obtain⟨re,rv,rg,rb,rl⟩:=hR;have fM:=Sm.w9 s;rw[xC]at we;rw[nh]at re;have G:=Sh nv pos ns s;by_cases c1:s.k=1;rw[af c1]at EH;rw[ah,ah,ah,ah,ah,ah,ah]at G;rw[EH,G];left;exact⟨I.e,rfl,I.g,rfl,hd,rfl,0,vs,.zero _,rfl,I.fv,by show 3*r.aL+0<=3*r.aL;omega,by show r.aL<=_;omega⟩;rw[U c1]at EH;have one:(s.k=2\/s.k=3\/s.k=5\/s.k=6\/s.k=8)->∃e,s.es=[e]/\NE e/\e.ty≠T0/\WE D e/\DD (Q f.vs) e:=λhk=>by
  obtain⟨e,B⟩:=Bu (kl (by omega));have o:e∈s.es:=by rw[B];simp
  exact⟨e,B,nE e o,nT (by omega) e o,we e o,re e o⟩
 by_cases c6:s.k=6;rw[af c6]at EH;rw[ah,ah,ah,af c6]at G;rw[EH];rw[G]at F z ⊢;obtain⟨e,B,a1,a2,a3,a4⟩:=one (by omega);have e1:qu.jR s.es=e:=by rw[B];rfl
 have e2:qA.jR s.es=e:=by rw[B];rfl
 rw[e1];rw[e2]at F z ⊢;refine(CA m hE hS a1 a2 a3 nb wb F z N f r vs st I hd h0 a4 rb).ou ?_;rw[fM,B,jv];omega;rw[U c6]at EH;by_cases ho:pI C r=Y
 case neg=>
  rw[U ho]at EH;rw[EH];right;right;show kT X r (stop r) (ms r ⟨fn,(pos:Nat),to,vs⟩ L st) 0 _;exact CH I.e _ rfl rfl _
 rw[af ho]at EH;rw[EH];clear EH hg;have hts:(cj r).aL=r.aL+1:=rfl;by_cases c4:s.k=4;rw[ajb c4];rw[ah,af c4]at G;rw[G]at F z ⊢;obtain⟨a,b,B,wg⟩:=kp c4;have e1:qu.jR s.es=a:=by rw[B];rfl
 have e2:qA.jR s.es=a:=by rw[B];rfl
 have e3:qA.es1 s.es=b:=by rw[B];rfl
 have e4:s.es.drop 1=[b]:=by rw[B];rfl
 rw[e1,e4];rw[e2,e3]at F z ⊢;have hma:a∈s.es:=by rw[B];simp
 have hmb:b∈s.es:=by rw[B];simp
 have hna:=(aeZ a).1 (nE a hma);have hwa:=(Cs a).1 (we a hma);have jT:=(yd _ a).1 (re a hma);have hnl:NL (a.aP++[b]):=by
  rw[PW];intro e o;rcases aaw.1 o with o|o;exact(PW _).1 hna.2.2.2 e o;rw[afq.1 o];exact⟨nE b hmb,nT (by omega) b hmb⟩
 have hwl:WL D (a.aP++[b]):=by
  rw[xC];intro e o;rcases aaw.1 o with o|o;exact(xC _).1 hwa.2 e o;rw[afq.1 o];exact we b hmb
 have uq:AF (Q f.vs) (a.aP++[b]):=by
  rw[nh];intro e o;rcases aaw.1 o with o|o;exact(nh _ _).1 jT.2 e o;rw[afq.1 o];exact re b hmb
 have hcp:O6 nv ns a (lT nv ns a.aP) (λnv ns=>cE nv ns b)=(lT nv ns (a.aP++[b])).2.eD (gx (IL a.k a.ref (cE (nv+Q (lT nv ns a.aP).2.vs) (ns+Q (lT nv ns a.aP).2.ss) b).1 (lT nv ns a.aP).1)):=by
  rw[LD];rfl
 rw[hcp]at F z ⊢;have h:=uI hE (a.aP++[b]) f (cj r) fn c pos nv ns to vs L st I.cj hnl hwl uq F.left (by rw[aja]at z;exact z);have TW:∀fr L st,ms (cj r) fr L st=ms r fr L st:=λ_ _ _=>rfl;simp only[TW]at h;have T:=Jt F (i:=IL a.k a.ref (cE (nv+Q (lT nv ns a.aP).2.vs) (ns+Q (lT nv ns a.aP).2.ss) b).1 (lT nv ns a.aP).1) rfl;have hsn:=LD a.aP nv ns b;have dQ:=PX a.aP nv ns;have hlen:Q (a.aP++[b])<=3:=by
  rcases wg with q|q;have:=hwa.1.2.2.1 (.inl q);simp;omega;have:=hwa.1.2.2.2.1 (.inl q);simp;omega
 have hw:E.eJ (a.aP++[b])<=E.eJ s.es:=by
  have q1:E.eJ s.es=E.sz a+E.sz b:=by rw[B];simp[E.eJ]
  have q2:=E.sx a;have q3:E.eJ (a.aP++[b])=E.eJ a.aP+E.sz b:=by
   generalize a.aP=l;induction l with
   |nil=>simp[E.eJ]|cons x l ih=>simp[E.eJ,ih];omega
  omega
 generalize hz:(cE (nv+Q (lT nv ns a.aP).2.vs) (ns+Q (lT nv ns a.aP).2.ss) b).1=bv at *;rcases h with⟨l,R,v0,P,U3,w,k,n,S,J,O,g4,g5,g6⟩|⟨R,v0,h⟩;simp only[v0];have W:=I.oq (r':=R) J (Nat.le_refl nv) P U3 w;have g5:3*(r.aL+1)+k<=3*R.aL:=g5;have g6:R.aL<=r.aL+1+8*k+Q (a.aP++[b]):=g6;rw[hsn]at O;simp only at O;rcases wg with q|q;obtain⟨x,hx⟩:=LA (dQ.trans (hwa.1.2.2.1 (.inl q)));rw[hx]at O T ⊢;have hpr:pL (R,f) a.k a.ref l=(eP { R with s:=qu.uF R.s (eB n x) a.ref (eB n bv) } (qu.kU R.s (eB n x) a.ref),f):=by
  rw[O];unfold pL;rw[af q];rfl
 rw[hpr];refine ae2 m W (show R.nf=r.nf from U3) S J.1 (by omega) (by omega) hd T λa st=>?_;unfold IL;rw[af q];exact azn rfl;obtain⟨x,y,hx⟩:=zZ (dQ.trans (hwa.1.2.2.2.1 (.inl q)));rw[hx]at O T ⊢;have hpr:pL (R,f) a.k a.ref l=(eP { R with s:=qu.uF R.s (eB n x) (eB n y) (eB n bv) } (qu.kU R.s (eB n x) (eB n y)),f):=by
  rw[O];unfold pL;rw[ah];rfl
 rw[hpr];refine ae2 m W (show R.nf=r.nf from U3) S J.1 (by omega) (by omega) hd T λa st=>?_;unfold IL;rw[ah];exact azp rfl;simp only[v0];right;right;have h':kT X (cj r) R (ms r ⟨fn,(pos:Nat),to,vs⟩ L st) 0 (E.eJ (a.aP++[b])+(40-r.nf)*M):=h;exact h'.jh (.zero _) (by omega) (by rw[fM];have:(cj r).aL=r.aL+1:=rfl;omega);rw[ajc c4];by_cases c2:s.k=2\/s.k=3;rw[af c2]at G;rw[G]at F z ⊢;obtain⟨e,B,a1,a2,a3,a4⟩:=one (by omega);have e2:qA.jR s.es=e:=by rw[B];rfl
 rw[e2]at F z ⊢;rw[B];rcases Js hE I a1 a2 a3 a4 F z (fn:=fn) (to:=to) (st:=st) with⟨v,R,v0,P,U3,w,k,n,S,J,O,v1,v2,q1,q2,W⟩|⟨R,v0,h⟩;simp only[v0];have vF:jQ fS s.k s.ref s.bd s.el [v] (R,f)=cG (R,f) s.ref v:=by unfold jQ;rw[af c2];rfl
 rw[vF];have T:=Jt F (i:=IK s.ref (cE nv ns e).1) rfl;unfold IK at T ⊢;unfold cG;by_cases hr:s.ref<0;rw[af hr]at T;rw[af hr,af hr];refine PZ m W U3 S J (by omega) (by omega) (r3:={ R with g:=R.g.set (-1-s.ref).toNat v }) (f':=f) (LO:=n) T ⟨P,rfl,by simpa using w,rfl⟩ ⟨rfl,hd,rfl⟩ ⟨rfl,O⟩ λa st=>?_;rw[atF rfl];show { ms R ⟨fn,a,to,n⟩ L st with g:=R.g.set (-1-s.ref).toNat (eB n (cE nv ns e).1) }=_;rw[v1];rfl;rw[U hr]at T;rw[U hr,U hr];refine PZ m W U3 S J (by omega) (by omega) (r3:=R) (f':={ f with vs:=f.vs.set s.ref.toNat v }) (LO:=n.set s.ref.toNat v) T ⟨P,rfl,w,rfl⟩ ⟨by simp,hd,rfl⟩ ⟨by simp,by rw[List.take_set,O]⟩ λa st=>?_;rw[azj rfl,Jp];show ms R ⟨fn,a,to,n.set s.ref.toNat (eB n (cE nv ns e).1)⟩ L st=_;rw[v1];simp only[v0];right;right;exact h.jh (.zero _) (by omega) (by rw[fM,B,jv];omega);rw[U c2,U c4]at G;by_cases c5:s.k=5;rw[af c5]at G;rw[G]at F z ⊢;obtain⟨e,B,a1,a2,a3,a4⟩:=one (by omega);have e2:qA.jR s.es=e:=by rw[B];rfl
 rw[e2]at F z ⊢;rw[B];have hP':Pl X C c.is pos ns ((cE nv ns e).2.eD O0):=by
  rw[UF];unfold Qg at F;exact⟨λj i hj=>F.is j i (nP hj),λk t hk=>F.ss k t (nP (nP hk))⟩
 have Dw:nv+Q ((cE nv ns e).2.eD O0).vs<=Q c.vars:=by
  rw[UF];unfold Qg at z;simp only[aaq]at z;omega
 rcases Js hE I a1 a2 a3 a4 hP' Dw (fn:=fn) (to:=to) (st:=st) with⟨v,R,v0,P,U3,w,k,n,S,J,O,v1,v2,q1,q2,W⟩|⟨R,v0,h⟩;simp only[v0];have vF:jQ fS s.k s.ref s.bd s.el [v] (R,f)=if v≠0 then gj fS s.bd (R,f) else gj fS s.el (R,f):=by
  unfold jQ;rw[ah,af c5];rfl
 rw[vF];refine(aoz m hS F z S J v1 W U3 hd h0 q1 q2 nb ne wb wl rb rl 0).ou ?_;have:=E.KU e;rw[fM,B,jv];omega;simp only[v0];right;right;exact h.jh (.zero _) (by omega) (by rw[fM,B,jv];omega);rw[U c5,U c6]at G;by_cases c7:s.k=7;rw[af c7]at G;have oW:s.es=[]\/∃e,s.es=[e]:=by
  have:=kr c7;match hh:s.es,this with
  |[],_=>exact .inl rfl|[e],_=>exact .inr ⟨e,rfl⟩
 rcases oW with B|⟨e,B⟩;rw[B]at G;simp only at G;rw[G]at F z ⊢;rw[B];have hi:=F.is 0 ⟨18,-1,0,0,0,[]⟩ rfl;rw[Nat.add_zero]at hi;have h:=m.step I.hc hi r to vs L st;rw[akI rfl]at h;right;left;have VO:vals fE f [] (cj r)=(Z [],cj r):=rfl;rw[VO];simp only;have vF:jQ fS s.k s.ref s.bd s.el [] (cj r,f)=(cj r,{ f with done:=Y }):=by
  unfold jQ;rw[ah,ah,af c7];rfl
 rw[vF];refine⟨I.e,rfl,I.g,rfl,rfl,1,?_,by show 3*r.aL+1<=3*(r.aL+1);omega,by show r.aL+1<=_;omega⟩;have e5:gi (ms r ⟨fn,((pos+1:Nat):Int),to,vs⟩ L (st+1)) (if (nR ⟨18,-1,0,0,0,[]⟩).a<0 then 0 else eB vs (nR ⟨18,-1,0,0,0,[]⟩).a)=gi (ms (cj r) ⟨fn,0,to,[]⟩ L (st+1)) ({ f with done:=Y }:Fm).res:=by
  rw[Gk];show gi _ 0=gi _ f.res;rw[h0];rfl
 rw[e5]at h;exact h;have o:e∈s.es:=by rw[B];simp
 rw[B]at G;simp only at G;rw[G]at F z ⊢;rw[B];rcases Js hE I (nE e o) (nT (by omega) e o) (we e o) (re e o) F z (fn:=fn) (to:=to) (st:=st) with⟨v,R,v0,P,U3,w,k,n,S,J,O,v1,v2,q1,q2,W⟩|⟨R,v0,h⟩;simp only[v0];have vF:jQ fS s.k s.ref s.bd s.el [v] (R,f)=(R,{ f with done:=Y,res:=v }):=by
  unfold jQ;rw[ah,ah,af c7];rfl
 rw[vF];have T:=Jt F (i:=⟨18,(cE nv ns e).1,0,0,0,[]⟩) rfl;have h:=m.step I.hc T R to n L (st+k);rw[akI rfl]at h;right;left;refine⟨P,U3,w,rfl,rfl,k+1,?_,by show 3*r.aL+(k+1)<=3*R.aL;omega,by show R.aL<=_;omega⟩;have e5:gi (ms R ⟨fn,((pos+Q (cE nv ns e).2.is+1:Nat):Int),to,n⟩ L (st+k+1)) (if (nR ⟨18,(cE nv ns e).1,0,0,0,[]⟩).a<0 then 0 else eB n (nR ⟨18,(cE nv ns e).1,0,0,0,[]⟩).a)=gi (ms R ⟨fn,0,to,[]⟩ L (st+(k+1))) v:=by
  rw[Gk];show gi _ (if (cE nv ns e).1<0 then 0 else eB n (cE nv ns e).1)=_;rw[ah,v1];rfl
 rw[e5]at h;exact S.trans h;simp only[v0];right;right;exact h.jh (.zero _) (by omega) (by rw[fM,B,jv];omega);rw[U c7]at G;by_cases c8:s.k=8;rw[af c8]at G;rw[G]at F z ⊢;obtain⟨e,B,a1,a2,a3,a4⟩:=one (by omega);have e2:qA.jR s.es=e:=by rw[B];rfl
 rw[e2]at F z ⊢;rw[B];rcases Js hE I a1 a2 a3 a4 F z (fn:=fn) (to:=to) (st:=st) with⟨v,R,v0,P,U3,w,k,n,S,J,O,v1,v2,q1,q2,W⟩|⟨R,v0,h⟩;simp only[v0];have vF:jQ fS s.k s.ref s.bd s.el [v] (R,f)=({ R with out:=R.out++[v] },f):=by
  unfold jQ;rw[ah,ah,ah,af c8];rfl
 rw[vF];have T:=Jt F (i:=⟨15,(cE nv ns e).1,0,0,0,[]⟩) rfl;refine PZ m W U3 S J (by omega) (by omega) (r3:={ R with out:=R.out++[v] }) (f':=f) (LO:=n) T ⟨P,rfl,w,rfl⟩ ⟨rfl,hd,rfl⟩ ⟨rfl,O⟩ λa st=>?_;rw[atD rfl];show { ms R ⟨fn,a,to,n⟩ L st with out:=R.out++[eB n (cE nv ns e).1] }=_;rw[v1];rfl;simp only[v0];right;right;exact h.jh (.zero _) (by omega) (by rw[fM,B,jv];omega);rw[U c8]at G;have c9:s.k=9:=by omega
 rw[af c9]at G;rw[G]at F z ⊢;obtain⟨e,B⟩:=Bu (kl (by omega));have o:e∈s.es:=by rw[B];simp
 have e2:qA.jR s.es=e:=by rw[B];rfl
 rw[e2]at F z ⊢;rw[B];have h:=hE e f (cj r) fn c pos nv ns to vs L st I.cj (nE e o) (we e o) (re e o) F z;have TW:∀fr L st,ms (cj r) fr L st=ms r fr L st:=λ_ _ _=>rfl;unfold OE at h;simp only[TW]at h;have Qf:loc e=0:=by unfold loc;rw[U (by have:=n9 c9 e o;omega)]
 have L8:vals fE f [e] (cj r)=if (fE e f (cj r)).2.e≠0 then (K,(fE e f (cj r)).2) else (Z [(fE e f (cj r)).1],(fE e f (cj r)).2):=rfl
 rw[L8];generalize fE e f (cj r)=y at *;rcases h with⟨P,e1,w,k,n,S,J,O,g4,g5⟩|h;rw[U (by rw[P];simp)];simp only;have vF:jQ fS s.k s.ref s.bd s.el [y.1] (y.2,f)=(y.2,f):=by
  unfold jQ;rw[ah,ah,ah,ah]
 rw[vF];left;have W:=I.oq (r':=y.2) J (Nat.le_refl nv) P e1 w;have g4:3*(r.aL+1)+k<=3*y.2.aL:=g4;have g5:y.2.aL+1<=r.aL+1+8*k+loc e:=g5;exact⟨P,e1,w,rfl,hd,rfl,k,n,S,J.1,W.fv,by show 3*r.aL+k<=3*y.2.aL;omega,by show y.2.aL<=_;omega⟩;rw[af h.e];right;right;have h':kT X (cj r) y.2 (ms r ⟨fn,(pos:Nat),to,vs⟩ L st) 0 (E.sz e+(40-r.nf)*M):=h;exact h'.jh (.zero _) (by omega) (by rw[fM,B,jv,hts];omega)
end qR
namespace qR
open Ax Go V7 jb jn qA
open qu (Rs Fm Cx Dm WE WL WS WB Vh XE mG ev jD vals eF ju gj cz gQ jQ pL cG rF eP vg rG pJ pK pI stop cj mN kq lJ Cs xC Gb nU r0 qW run)
open gy (Ms MP Fr lP qt mP oK jC gO nB gC nu gi qp uG rD eB nQ pF)
variable {X:MP}{C:Cx}{D:Dm}{H:Hd}{cs:List Cd}{M:Nat}
theorem Lx(h:KP X C D H cs M)(o:TP C D):∀n,SE X C D cs M (ev C n).1/\SS X C D cs M (ev C n).2
 |0=>by
  refine⟨λy f r fn c pos nv ns to vs L st j _ _ _ _ _=>.inr (CH j.e _ rfl rfl _),λs f r fn c pos nv ns to vs L st j v B _ _ _ _ _=>?_⟩;have t:(ev C 0).2 s (r,f)=if s.k=1 then (r,f) else if s.k=6 then cz C (λ_ _ r=>(0,stop r)) (λ_ x=>x) (qu.jR s.es) s.bd 0 (r,f) else (stop r,f):=rfl
  rw[t];by_cases c1:s.k=1;rw[af c1];have q:=Sh nv pos ns s;rw[ah,ah,ah,ah,ah,ah,ah]at q;rw[q];left;exact⟨j.e,rfl,j.g,rfl,v,rfl,0,vs,.zero _,rfl,j.fv,by grind,by grind⟩;rw[U c1];right;right;have:(if s.k=6 then cz C (λ_ _ r=>(0,stop r)) (λ_ x=>x) (qu.jR s.es) s.bd 0 (r,f) else (stop r,f))=(stop r,f):=by
   simp_all [cz]
  rw[this];exact CH j.e _ rfl rfl _
 |n+1=>by
  obtain⟨l,m⟩:=Lx h o n;exact⟨Lv h o l m λe f r=>rfl,Lw h l m λs x=>rfl⟩
def Cz(r:Rs):Prop:=r.e≠2->r.code=0
theorem Ds{r}(h:Cz r)(c):Cz (eP r c):=by
 unfold eP;split;intro q;grind;exact h
theorem A5{r}(h:Cz r):Cz (stop r):=by
 unfold stop;split;rename_i B;intro _;exact h (by grind);exact h
variable {fE:E->Fm->Rs->Int×Rs}{fS:Sm->Rs×Fm->Rs×Fm}
def CE(fE:E->Fm->Rs->Int×Rs):Prop:=∀e f r,Cz r->Cz (fE e f r).2
def CS(fS:Sm->Rs×Fm->Rs×Fm):Prop:=∀s x,Cz x.1->Cz (fS s x).1
theorem P6(j:CE fE)(f):∀l r,Cz r->Cz (vals fE f l r).2
 |[],r,h=>h|e::l,r,h=>by
  unfold vals;split;exact j e f r h;have:=P6 j f l (fE e f r).2 (j e f r h)
  grind
theorem Ju(g:CS fS):∀l x,Cz x.1->Cz (gj fS l x).1
 |[],x,h=>h|s::l,x,h=>by
  unfold gj;split;exact h;exact Ju g l _ (g s x h)
theorem XR(g:CS fS)(i l r)(h:Cz r):Cz (eF C fS i l r).2:=by
 unfold eF;split;exact Ds h 6;exact Ju g _ ({ r with nf:=r.nf+1 },_) h
theorem ajd{r}(h:Cz r)(n):Cz (pJ r n).2:=by
 unfold pJ;split;exact Ds h 4;exact h
theorem aje{r}(h:Cz r):Cz (pK r).2:=by
 unfold pK;split;exact Ds h 5;exact h
theorem ajf(g:CS fS)(k n ref R f l r)(h:Cz r):Cz (ju C (eF C fS) k n ref R f l r).2:=by
 unfold ju vg;repeat' split
 all_goals first|exact h|exact Ds h _|exact XR g _ _ _ h|exact ajd h _|exact aje h
theorem ajg(j:CE fE)(g:CS fS)(e f r)(h:Cz r):Cz (jD C fE fS e f r).2:=by
 grind [jD,P6,ajf]
theorem P7(j:CE fE)(l:CS fS)(c b):∀k x,Cz x.1->Cz (cz C fE fS c b k x).1
 |0,x,h=>by
  grind [cz,A5]
 |k+1,x,h=>by
  unfold cz;split;exact h;split;have g:=j c x.2 (cj x.1) h;split;exact g;exact P7 j l c b k _ (Ju l b (_,x.2) g);exact A5 h
theorem aoB(x ref v)(h:Cz x.1):Cz (cG x ref v).1:=by unfold cG;split<;>exact h
theorem aoC(g:CS fS)(k ref B m l x)(h:Cz x.1):Cz (jQ fS k ref B m l x).1:=by
 unfold jQ;repeat' split
 all_goals first|exact h|exact aoB _ _ _ h|exact Ju g _ _ h
theorem aoD(x k ref l)(h:Cz x.1):Cz (pL x k ref l).1:=by
 unfold pL;split;refine Ds ?_ _;exact h;refine Ds ?_ _;exact h
theorem ajh(j:CE fE)(g:CS fS)(s x)(h:Cz x.1):Cz (gQ fE fS s x).1:=by
 grind [gQ,P6,qu.jR,aoD,aoC]
theorem akJ:∀n,CE (ev C n).1/\CS (ev C n).2
 |0=>by
  refine⟨λe f r h=>A5 h,λs x h=>?_⟩;show Cz ((if s.k=1 then x else if s.k=6 then cz C (λ_ _ r=>(0,stop r)) (λ_ x=>x) (qu.jR s.es) s.bd 0 x else (stop x.1,x.2)):Rs×Fm).1;split;exact h;split;exact P7 (λ_ _ r h=>A5 h) (λ_ x h=>h) _ _ _ _ h;exact A5 h
 |n+1=>by
  obtain⟨j,g⟩:=akJ n;refine⟨λe f r h=>?_,λs x h=>?_⟩;show Cz ((if pI C r=Y then jD C (ev C n).1 (ev C n).2 e f (cj r) else (0,stop r)):Int×Rs).2;split;exact ajg j g e f (cj r) h;exact A5 h;show Cz ((if s.k=1 then x else if s.k=6 then cz C (ev C n).1 (ev C n).2 (qu.jR s.es) s.bd (n+1) x
   else if pI C x.1=Y then gQ (ev C n).1 (ev C n).2 s (cj x.1,x.2) else (stop x.1,x.2)):Rs×Fm).1
  split;exact h;split
  grind [P7]
  split;exact ajh j g s (cj x.1,x.2) h;exact A5 h
theorem PL(g:KP X C D H cs M)(w:TP C D)(q:X.ng=C.ng){main}(O:main<Q C.bs)(fB):
  (((run C main fB).e=1\/(run C main fB).e=2)/\∃k m,Rn X k (gy.m0 X main fB) m/\m.e=(run C main fB).e/\m.code=(run C main fB).code/\m.out=(run C main fB).out/\k<=3*(run C main fB).aL+2)\/
  ((run C main fB).e=3/\(run C main fB).code=0/\∃k m,Rn X k (gy.m0 X main fB) m/\m.e=0/\m.out=(run C main fB).out/\k<=3*(run C main fB).aL/\(run C main fB).aL<=8*k+40*M):=by
 have x:C.bs[main]?=Z C.bs[main]:=aae O;have h:=S1 g w (Lx g w C.fuel).2 x (l:=[]) (by simp) (r:=r0 C fB) rfl (L:=[]) rfl (by show 0<40;decide) (by simp[r0]) (-1) 0;have o:ms (r0 C fB) ⟨main,0,-1,[]++aag (nQ X main-Q ([]:List Int)) 0⟩ [] 0=gy.m0 X main fB:=by
  unfold gy.m0 ms;rw[q];rfl
 rw[o]at h;have W:=g.M main C.bs[main] x;have F:eF C (ev C C.fuel).2 (main:Int) [] (r0 C fB)=((gj (ev C C.fuel).2 C.bs[main].code ({ r0 C fB with nf:=(r0 C fB).nf+1 },⟨[]++aag (Q C.bs[main].vars-Q ([]:List Int)) 0,0,false⟩)).2.res,{ (gj (ev C C.fuel).2 C.bs[main].code ({ r0 C fB with nf:=(r0 C fB).nf+1 },⟨[]++aag (Q C.bs[main].vars-Q ([]:List Int)) 0,0,false⟩)).1 with nf:=(gj (ev C C.fuel).2 C.bs[main].code ({ r0 C fB with nf:=(r0 C fB).nf+1 },⟨[]++aag (Q C.bs[main].vars-Q ([]:List Int)) 0,0,false⟩)).1.nf-1 }):=by
  unfold eF;rw[U (by show ¬40<=0;decide)]
  grind
 have j:Cz (run C main fB):=by
  have v:=XR (C:=C) (akJ (C:=C) C.fuel).2 (main:Int) [] (r0 C fB) (λ_=>rfl);unfold run qW;split;rename_i he;intro _;exact v (by grind);exact v
 have s:run C main fB=qW (eF C (ev C C.fuel).2 (main:Int) [] (r0 C fB)).2:=rfl;rw[F]at s;generalize gj (ev C C.fuel).2 C.bs[main].code ({ r0 C fB with nf:=(r0 C fB).nf+1 },⟨[]++aag (Q C.bs[main].vars-Q ([]:List Int)) 0,0,false⟩)=y at *;have P:(r0 C fB).aL=0:=rfl;rcases h with⟨R,S,T,k,G,z,t⟩|h;left;have n:run C main fB={ y.1 with nf:=y.1.nf-1,e:=1 }:=by simp_all [qW]
 have N:(run C main fB).code=0:=j (by grind);have J:gi (ms y.1 ⟨main,0,-1,[]⟩ [] (0+k)) y.2.res={ ms y.1 ⟨main,0,-1,[]⟩ [] (0+k) with l:=[],e:=1 }:=rfl;rw[J]at G;refine⟨.inl (by rw[n]),k,_,G,by rw[n],by rw[N];rfl,by rw[n];rfl,?_⟩
 grind
 have n:run C main fB={ y.1 with nf:=y.1.nf-1 }:=by rw[s];unfold qW;rw[U h.e]
 rcases h with⟨e,k,m,G,z,t,B,I⟩|⟨e,k,m,G,z,t,B,I⟩
 grind
 right;refine⟨by grind,j (by grind),k,m,G,z,by grind,?_,?_⟩
 grind
 rw[n];show y.1.aL<=8*k+40*M;have:(r0 C fB).nf=0:=rfl
 grind
end qR
namespace qR
open Ax Go V7 jb jn qA
open qu (Rs Cx Dm run)
open gy (Ms MP mP oK jC uH m0 v7)
variable {X:MP}{C:Cx}{D:Dm}{H:Hd}{cs:List Cd}{M:Nat}
theorem S3(m):(gy.mark m).out=m.out:=by grind [gy.mark]
theorem S4{m}(h:m.e≠0):gy.mark m=m:=by unfold gy.mark;grind
theorem Rn.on{k j m g}(h:Rn X k m g)(_:m.e=0):∃l,(mP X (k+j) m).out=g.out++l:=by
 rw[jC,h.1];by_cases B:g.e=0;all_goals simp_all [v7,uH]
theorem azy(g:KP X C D H cs M)(J:TP C D)(w:X.ng=C.ng){main}(N:main<Q C.bs)(fB n)(hn:8*n+40*M<C.fuel)(S:(run C main fB).e=3->(run C main fB).aL=C.fuel):
  ((oK X n (m0 X main fB)).e=3->(oK X n (m0 X main fB)).aL=n/\∃l,(run C main fB).out=(oK X n (m0 X main fB)).out++l)/\
  ((oK X n (m0 X main fB)).e≠3->(run C main fB).e=(oK X n (m0 X main fB)).e/\(run C main fB).code=(oK X n (m0 X main fB)).code/\(run C main fB).out=(oK X n (m0 X main fB)).out):=by
 rw[gy.run_mark];obtain⟨_,_,_,T,F⟩:=v7 (X:=X) n (m0 X main fB) rfl;have O:(m0 X main fB).aL=0:=rfl;rcases PL g J w N fB with⟨B,k,x,y,G,o,s,I⟩|⟨B,hc,k,x,y,G,o,s,I⟩;have t:x.e≠0:=by rw[G];rcases B with q|q<;>rw[q]<;>decide
 by_cases hk:k<=n;have:mP X n (m0 X main fB)=x:=by
  obtain⟨j,rfl⟩:∃j,n=k+j:=⟨n-k,by omega⟩;rw[jC,y.1,uH t]
 rw[this,S4 t];refine⟨λq=>?_,λ_=>⟨G.symm,o.symm,s.symm⟩⟩;rw[G]at q;rcases B with h|h<;>rw[h]at q<;>cases q;obtain⟨j,rfl⟩:∃j,k=n+j:=⟨k-n,by omega⟩;have m:=y.1;rw[jC]at m;generalize R:mP X n (m0 X main fB)=q at *;by_cases q0:q.e=0;have v:(gy.mark q).e=3:=by unfold gy.mark;rw[af q0]
 refine⟨λ_=>⟨?_,?_⟩,λh=>bH v h⟩;unfold gy.mark;rw[af q0];show q.aL=n;have:=F q0;omega;rw[S3,<-s,<-m];exact(v7 j q q0).1;rw[uH q0]at m;subst m;rw[S4 t];refine⟨λz=>?_,λ_=>⟨G.symm,o.symm,s.symm⟩⟩;rw[G]at z;rcases B with h|h<;>rw[h]at z<;>cases z;have W:=S B;have P:n<k:=by omega
 obtain⟨j,rfl⟩:∃j,k=n+j:=⟨k-n,by omega⟩;have m:=y.1;have U:=y.2;rw[jC]at m;generalize R:mP X n (m0 X main fB)=q at *;by_cases q0:q.e=0;have v:(gy.mark q).e=3:=by unfold gy.mark;rw[af q0]
 refine⟨λ_=>⟨?_,?_⟩,λh=>bH v h⟩;unfold gy.mark;rw[af q0];show q.aL=n;have:=F q0;omega;rw[S3,<-o,<-m];exact(v7 j q q0).1;rw[uH q0]at m;subst m;exact bH G q0
end qR
namespace qR
open Ax Go V7 jb jn qA
open qu (Rs Fm Cx Dm WE WL WS WB Vh XE zG)
open gy (Ms MP nQ)
variable {X:MP}{C:Cx}{H:Hd}{cs:List Cd}{M:Nat}{V:List Vd}{bY:Bool}{res:T3}
theorem ae3(q:Hd.gd H)(s:Gv H V)(e):∀y,yU H V e=.ok y->NE y:=by
 induction e using E.C6 with
 |_ e I=>
  intro y h;have G:=(K8 q (λv w=>(s v w).2) e y h).1;obtain⟨n,t,r,o,g,l,rfl⟩:=qU h;rw[aeZ];refine⟨G,λj=>?_,λkk=>?_,?_⟩;have j:e.k=8:=j;unfold nN at l;rw[ah,ah,ah,ah,ah,ah,ah,af j]at l;obtain⟨q1,q2,_⟩:=dy l;rw[E6,E6,aC,aC]at q1;show t.b=3/\t.d=0
  grind
  have kk:e.k=1\/e.k=2\/e.k=3\/e.k=4\/e.k=8\/e.k=11:=kk;have x:Q e.aP=0:=by
   unfold iG at o
   grind
  have:=oD g;show n=[]
  grind
  show NL n;rw[PW];exact λz m=>⟨jP g I z m,He g z m⟩
theorem Gl:∀{l g:List Sm}{V X:List Vd},(∀s∈l,∀V y W,Br H bY res V s=.ok (y,W)->Gv H V->NS y)->pe H bY res V l=.ok (g,X)->Gv H V->NB g
 |[],g,V,X,_,h,_=>by
  grind [pe,NB]
 |s::l,g,V,X,m,h,k=>by
  obtain⟨y,W,z,j,n,rfl⟩:=qy h;unfold NB;exact⟨m s aat V y W j k,Gl (λt o=>m t (aax _ o)) n (Jh s V y W j k).2⟩
theorem aoE(G:Hd.gd H)(s):∀V y W,Br H bY res V s=.ok (y,W)->Gv H V->NS y:=by
 induction s using Sm.C6 with
 |_ s B uC=>
  intro V y X h q;obtain⟨t,m,r,W,v,R,o,F,O⟩:=yM h;have I:=O9 R F q;have j:∀e∈m,NE e:=by
   unfold Bq at o;split at o
   grind [yU,afq,ae3]
   exact jP o λe _ y T=>ae3 G q e y T
  have g:s.k≠9->∀e∈m,e.ty≠T0:=λx=>by
   grind [Ey,He]
  have n:s.k=9->∀e∈m,e.k=7:=λx=>by
   rw[x]at v o;obtain⟨e,N,P⟩:=UB v;rw[N,WX]at o;split at o;cases o;rename_i z U;cases o;intro w S;rw[afq.1 S];obtain⟨ks,t,r,_,_,_,rfl⟩:=qU U;exact P
  rcases O with⟨_,b,W1,c,l,J,rfl⟩|⟨_,b,l,rfl⟩|⟨_,_,rfl,rfl⟩;rw[XN];exact⟨j,g,n,λ_=>trivial,Gl B l I,Gl uC J (vU l I).2⟩;rw[XN];exact⟨j,g,n,λ_=>trivial,Gl B l I,by simp[Sm.el,NB]⟩;rw[XN];exact⟨j,g,n,λ_=>trivial,by simp[Sm.bd,NB],by simp[Sm.el,NB]⟩
theorem ae4(j:Hd.gd H):∀{S:List Sg}{fs:List Fc}{bs:List Bd},(∀s∈S,Gv H s.ps)->rK H S fs=.ok bs->∀b∈bs,NB b.code
 |[],fs,bs,_,h=>by grind [rK]|_::_,[],bs,_,h=>by grind [rK]|s::S,f::fs,bs,m,h=>by
  unfold rK at h;split at h;cases h;rename_i c W n;split at h;cases h;rename_i l k;cases h;intro b g;rcases List.mem_cons.1 g with rfl|g
  grind [Gl,aoE,aat]
  exact ae4 j (λs h=>m s (aax _ h)) k b g
theorem XS:∀{m:List Sg}{bs:List Bd}{cs q:List Cd}{g S:List Sd}{all:Nat},zv cs g all m bs=.ok (q,S)->Q m=Q bs->
  (∃l,q=cs++l)/\(∃l,S=g++l)/\∀j b,bs[j]?=Z b->∃s ns,m[j]?=Z s/\q[Q cs+j]?=Z (eR ns s b)/\∀k t,(eO ns b).ss[k]?=Z t->S[ns+k]?=Z ⟨Q cs+j,t⟩
 |[],bs,cs,q,g,S,all,h,n=>by
  unfold zv at h;cases h;have:bs=[]:=List.eq_nil_of_length_eq_zero (by grind);simp_all
 |s::m,[],_,_,_,_,_,_,n=>by simp at n|s::m,b::bs,cs,q,g,S,all,h,n=>by
  unfold zv at h;split at h;cases h;obtain⟨⟨x,B⟩,⟨y,F⟩,w⟩:=XS h (by grind);refine⟨⟨eR (Q g) s b::x,by grind⟩,⟨(eO (Q g) b).ss.map (λt=>⟨Q cs,t⟩)++y,by grind⟩,λj c o=>?_⟩;cases j with
  |zero=>
   grind
  |succ j=>
   rw[afi]at o;obtain⟨G,ns,q1,q2,z⟩:=w j c o;have v:Q (cs++[eR (Q g) s b])+j=Q cs+(j+1):=(by simp;omega);rw[v]at q2 z
   grind
structure IsX (X:MP)(C:Cx)(cs:List Cd)(ss:List Sd):Prop where
 fZ:∀(j:Nat) (c:Cd),cs[j]?=some c->(dW.jo (X.aJ.getD j gy.C0).fZ)=c.is.map nR
 nv:∀(j:Nat) (c:Cd),cs[j]?=some c->nQ X j=c.vars.length
 cells:∀(n:Nat) (s:Sd),ss[n]?=some s->s.ty.b=3->s.ty.d=0->X.cells.getD n 0=C.aR.getD s.ty.r.toNat 0
theorem atJ(o:Hd.DF H){fs bs}(W:Q H.aZ=Q fs)(q:rK H H.aZ fs=.ok bs){cs S}(P:zv [] [] 0 H.aZ bs=.ok (cs,S))(v:IsX X C cs S)(n:C.bs=bs)(y:C.ng=Q H.ax)(G:∀f∈fs,Sm.eJ f.body<=M):KP X C (zG H) H cs M/\TP C (zG H):=by
 have z:Q bs=Q H.aZ:=by grind [jn.AD]
 obtain⟨_,_,I⟩:=XS P z.symm;have m:=Fx q;have U:=GX q G;refine⟨⟨v.fZ,v.nv,λj b l=>?_,?_,λj p b g l=>?_,λj b l=>?_,y.symm⟩,⟨λb l=>?_⟩⟩;rw[n]at l;obtain⟨s,ns,q1,q2,B⟩:=I j b l;rw[afF,Nat.zero_add]at q2 B;refine⟨s,ns,q1,q2,⟨λp i O=>?_,λk t T J N=>?_⟩⟩;rw[Nat.zero_add];exact nP O;exact v.cells (ns+k) ⟨j,t⟩ (B k t T) J N;rw[n];show (H.aZ.map (·.ps.length)).length=Q bs;simp[z];rw[n]at l;have g:(H.aZ.map (·.ps.length))[j]?=Z p:=g;rw[List.getElem?_map]at g;obtain⟨x,w⟩:=List.getElem?_eq_some_iff.1 l;have h:j<Q H.aZ:=by omega
 rw[aae h]at g;cases g;have:=(m j h x).1;rw[w]at this;exact⟨o.pn _ (List.getElem_mem h),this⟩
 grind
 rw[n]at l;obtain⟨j,x,rfl⟩:=List.getElem_of_mem l;have F:Q H.bN=Q H.rs:=o.ok.rs.symm;exact⟨ae4 o.gd (λs R=>(ake o R).gv) q _ l,qu.Vi F q _ l,(m j (by omega) x).2⟩
end qR
