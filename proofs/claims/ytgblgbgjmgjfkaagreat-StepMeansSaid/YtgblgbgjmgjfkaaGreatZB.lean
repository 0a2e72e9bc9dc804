/- Part of a proof. -/
import Derived.Test.YtgblgbgjmgjfkaaGreatZ

open List renaming length_append->adV,length_cons->aeo,length_nil->ahv,getElem?_append_right->acP,getElem?_cons_succ->aeV,cons_append->aer,mem_append->aed,mem_singleton->agx,getElem?_eq_getElem->aas,replicate->acp,mem_cons_self->aeb,mem_cons_of_mem->aee
open Bool renaming and_eq_true->Ee
set_option maxHeartbeats 2000000
namespace qf
open Ax Go V7 iQ iZ qb
open pX (Rs Fm Cx Dm WE WL WS WB Ur Wz lM ev jl vals dW ja fN cu gq jz oF cy qE eH uq qF oC oD oB stop bV lW jN kN Bz wO E5 mW)
open iq (Ms MP Fr kR pF nu jZ gj mG fY mB fT pE tJ qC dQ nt oy)
variable {X:MP}{C:Cx}{D:Dm}{H:Hd}{cs:List Cd}{M:Nat}
variable {fE:E->Fm->Rs->Int×Rs}{fS:Sm->Rs×Fm->Rs×Fm}
variable {f:Fm}{r:Rs}{fn pos p nv ns:Nat}{c:Cd}{to:Int}{vs:List Int}{L:List Fr}{st:Nat}{ty:T3}{i:In}
theorem Iz{fr:Fr}{n:Int}:mB (ms r fr L st) n=ms r { fr with at_:=n } L st:=rfl
theorem BP(U:r.e=0)(m:Ms)(h:m.e=0)(z:m.out=r.out)(w:Nat):kj X r (stop r) m 0 w:=by
 right;have e:stop r={ r with e:=3 }:=by unfold stop;grind
 rw[e];exact⟨rfl,0,m,.zero _,h,z,by grind,by grind⟩
theorem At.bV(h:At C cs fn c nv f r vs L):At C cs fn c nv f (pX.bV r) vs L:=⟨h.hc,h.hl,h.hn,h.fv,h.e,h.nf,h.n40,h.g⟩
theorem BG(K:KP X C D H cs M)(hE:SE X C D cs M fE)(hS:SS X C D cs M fS){e:E}{B:List Sm}(hN:NE e)(DR:e.ty≠T0)(hW:WE D e)(w:NB B)(J:WB D B){pos nv ns:Nat}
  (m:Pl X C c.is pos ns (So nv pos ns (cE nv ns e) (λnv at_ ns=>cB nv at_ ns B)))(hv:nv+(So nv pos ns (cE nv ns e) (λnv at_ ns=>cB nv at_ ns B)).vs.length<=c.vars.length) :
  ∀(n:Nat) (f:Fm) (r:Rs) (vs:List Int) (st:Nat),At C cs fn c nv f r vs L->f.done=false->f.res=0->CN f.vs.length e->rq f.vs.length B->
   OS X C M (1+E.sz e+Sm.eD B) (So nv pos ns (cE nv ns e) (λnv at_ ns=>cB nv at_ ns B)) fn pos to vs L st r f (cu C fE fS e B n (r,f))
 |0,f,r,vs,st,h,hd,_,_,_=>by
  right;right;have:cu C fE fS e B 0 (r,f)=(stop r,f):=by simp_all [cu,U]
  rw[this];exact BP h.e _ rfl rfl _
 |n+1,f,r,vs,st,h,hd,h0,hR,hRb=>by
  have Iw:cu C fE fS e B (n+1) (r,f)=if oB C r=true then (if (fE e f (bV r)).2.e≠0\/(fE e f (bV r)).1=0 then ((fE e f (bV r)).2,f) else cu C fE fS e B n (fN fS B ((fE e f (bV r)).2,f))) else (stop r,f):=by
   simp_all [cu,U]
  rw[Iw];by_cases ho:oB C r=true
  case neg=>
   rw[U ho];right;right;exact BP h.e _ rfl rfl _
  rw[af ho];have axT:=m;have hv0:=hv;unfold So at m hv;simp only at m hv;have hts:(bV r).aK=r.aK+1:=rfl;have hPx:Pl X C c.is pos ns (cE nv ns e).2:=⟨λj i hj=>m.is j i (lZ hj),λk t hk=>m.ss k t (lZ hk)⟩;have s:=hE e f (bV r) fn c pos nv ns to vs L st h.bV hN hW hR hPx (by grind);have S4:∀fr L st,ms (bV r) fr L st=ms r fr L st:=λ_ _ _=>rfl;unfold OE at s;simp only[S4]at s;have O:(So nv pos ns (cE nv ns e) (λnv at_ ns=>cB nv at_ ns B)).is.length=(cE nv ns e).2.is.length+1+(cB (nv+(cE nv ns e).2.vs.length) (pos+(cE nv ns e).2.is.length+1) (ns+(cE nv ns e).2.ss.length) B).is.length+1:=by
   grind [So,adV,aeo,ahv]
  generalize hx:cE nv ns e=x at *;generalize hb:cB (nv+x.2.vs.length) (pos+x.2.is.length+1) (ns+x.2.ss.length) B=b at *;have hbr:c.is[pos+x.2.is.length]?=some ⟨17,x.1,0,((pos+x.2.is.length+1+b.is.length+1:Nat):Int),((pos+x.2.is.length+1:Nat):Int),[]⟩:=m.is x.2.is.length _ (by grind);have hPb:Pl X C c.is (pos+x.2.is.length+1) (ns+x.2.ss.length) b:=by
   refine⟨λj i hj=>?_,λk t hk=>?_⟩;have:=m.is (x.2.is.length+(1+j)) i (by
    rw[acP (by omega),show x.2.is.length+(1+j)-x.2.is.length=j+1 by omega,aeV]
    grind)
   grind
   have:=m.ss (x.2.ss.length+k) t (by grind)
   grind
  have hjm:c.is[pos+x.2.is.length+1+b.is.length]?=some ⟨16,0,0,0,(pos:Int),[]⟩:=by
   have:=m.is (x.2.is.length+(b.is.length+1)) ⟨16,0,0,0,(pos:Int),[]⟩ (by
    grind)
   grind
  have hlc:loc e<=2:=by grind [loc]
  rcases s with⟨e0,g,e2,k,W,g1,G,g3,g4,g5⟩|s;obtain⟨v1,v2,v3⟩:=g3 DR;have l:=K.step h.hc hbr (fE e f (bV r)).2 to W L (st+k);rw[ajg rfl,Iz]at l;have hva:dQ W (mV ⟨17,x.1,0,((pos+x.2.is.length+1+b.is.length+1:Nat):Int),((pos+x.2.is.length+1:Nat):Int),[]⟩).a=(fE e f (bV r)).1:=v1;rw[hva]at l;generalize fE e f (bV r)=y at *;obtain⟨y1,r1⟩:=y;simp only at e0 g e2 g1 g3 g4 g5 v1 l ⊢;have tC:f.vs.length<=nv:=h.hn;have N:W.take f.vs.length=f.vs:=by rw[G.take tC];exact h.fv
  by_cases hz:y1=0;rw[af (.inr hz)];left;rw[U (by grind)]at l;refine⟨e0,g,e2,rfl,hd,rfl,k+1,W,?_,G.1,N,by grind,by grind⟩;have:=g1.trans l;rw[O];have e3:(pos+(x.2.is.length+1+b.is.length+1):Nat)=pos+x.2.is.length+1+b.is.length+1:=by omega
  rw[e3];exact this;rw[U (by grind)];rw[af hz]at l;have g6:=g1.trans l;have hA1:At C cs fn c (nv+x.2.vs.length) f r1 W L:=⟨h.hc,by rw[G.1];exact h.hl,by omega,N,e0,by rw[g];exact h.nf,by rw[g];exact h.n40,e2⟩;have v:=yS hS B f r1 fn c (pos+x.2.is.length+1) (nv+x.2.vs.length) (ns+x.2.ss.length) to W L (st+(k+1)) hA1 hd h0 w J hRb (by grind) (by grind);rw[hb]at v;generalize fN fS B (r1,f)=y at *;obtain⟨R,F⟩:=y;rcases v with⟨P,I,Q,o,S,i5,q,K3,T,Z,j3,j4,j5⟩|⟨P,I,Q,o,S,q,T,Z,j3⟩|v;simp only at P I Q o S i5 T j3 j4 j5;have DT:=K.step h.hc hjm R to K3 L (st+(k+1)+q);rw[ajf rfl,Iz]at DT;have g7:=g6.trans (T.trans DT);have KT:At C cs fn c nv F R K3 L:=⟨h.hc,by rw[Z,G.1];exact h.hl,by grind,by grind,P,by rw[I,g];exact h.nf,by rw[I,g];exact h.n40,Q⟩;have Y:=BG K hE hS hN DR hW w J (by rw[hx];exact axT) (by grind) n F R K3 (st+(k+1)+q+1) KT S (by grind) (by grind) (by grind);rw[hx]at Y;generalize cu C fE fS e B n (R,F)=z at *;rcases Y with⟨a0,a1,a2,a3,a4,a5,k3,vs3,b1,b2,b3,b4,b5⟩|⟨a0,a1,a2,a3,a4,k3,b1,b2,b3⟩|Y;left;refine⟨a0,by rw[a1,I,g];rfl,a2,by rw[a3,o],a4,by rw[a5,i5],k+1+(q+1)+k3,vs3,?_,by rw[b2,Z,G.1],by grind,by omega,by omega⟩;have:=g7.trans b1
  grind
  right;left;refine⟨a0,by rw[a1,I,g];rfl,a2,by rw[a3,o],a4,k+1+(q+1)+k3,?_,by omega,by omega⟩;have:=g7.trans b1
  grind
  right;right;refine Y.iP g7 (by omega) ?_;have WK:R.nf=r.nf:=by rw[I,g];rfl
  grind
  right;left;simp only at P I Q o S T Z j3;have:cu C fE fS e B n (R,F)=(R,F):=by cases n<;>(unfold cu;grind)
  rw[this];refine⟨P,by show R.nf=r.nf;rw[I,g];rfl,Q,o,S,k+1+q,?_,by grind,by grind⟩;have:=g6.trans T
  grind
  right;right;have he:=v.e;rw[pX.Gk n he];refine v.iP g6 (by omega) ?_;have WK:r1.nf=r.nf:=by rw[g];rfl
  grind
  right;right;rw[af (.inl s.e)]
  grind [kj,bV,ms,E.sz]
end qf
namespace qf
open Ax Go V7 iQ iZ qb
open pX (Rs Fm Cx Dm WE WL WS WB Ur Wz lM ev jl vals dW ja fN cu gq jz oF cy qE eH uq qF oC oD oB stop bV lW jN kN Bz wO E5 mW)
open iq (Ms MP Fr kR pF nu jZ gj mG fY mB fT pE tJ qC dQ nt oy)
variable {X:MP}{C:Cx}{D:Dm}{H:Hd}{cs:List Cd}{M:Nat}
variable {fE:E->Fm->Rs->Int×Rs}{fS:Sm->Rs×Fm->Rs×Fm}
variable {f:Fm}{r:Rs}{fn pos p nv ns:Nat}{c:Cd}{to:Int}{vs:List Int}{L:List Fr}{st:Nat}{ty:T3}{i:In}
variable{o:jt}
theorem OS.nB{w W:Nat}{x:Rs×Fm}(h:OS X C M w o fn pos to vs L st r f x)(g:w<=W):OS X C M W o fn pos to vs L st r f x:=by
 rcases h with h|h|h;exact .inl h;exact .inr (.inl h);exact .inr (.inr (h.iP (.zero _) (by omega) (by omega)))
theorem Aw{g:List E}(h:g.length=1):∃e,g=[e]:=by
 match g,h with
 |[e],_=>exact⟨e,rfl⟩
theorem ahP{e:E}:kT nv ns [e]=([(cE nv ns e).1],(cE nv ns e).2):=by
 rw[pN];have h:∀a b,kT a b []=([],O0):=λa b=>by unfold kT;rfl
 rw[h];simp[TS]
theorem KW:∀(l:List E)(nv ns:Nat)(b:E),kT nv ns (l++[b])=((kT nv ns l).1++[(cE (nv+(kT nv ns l).2.vs.length) (ns+(kT nv ns l).2.ss.length) b).1],(kT nv ns l).2.dO (cE (nv+(kT nv ns l).2.vs.length) (ns+(kT nv ns l).2.ss.length) b).2)
 |[],nv,ns,b=>by
  have h:∀a b,kT a b []=([],O0):=λa b=>by unfold kT;rfl
  rw[List.nil_append,ahP,h];simp[O0,jt.dO]
 |y::l,nv,ns,b=>by
  rw[aer,pN,pN,KW l];simp only[jt.dO,aer,adV,Nat.add_assoc,List.append_assoc]
theorem IA(x:SE X C D cs M fE){e:E}(m:At C cs fn c nv f r vs L)(z:NE e)(n:e.ty≠T0)(I:WE D e)(F:CN f.vs.length e)(B:Pl X C c.is pos ns ((cE nv ns e).2.dO o))(P:nv+((cE nv ns e).2.dO o).vs.length<=c.vars.length) :
  (∃v R,vals fE f [e] (bV r)=(some [v],R)/\R.e=0/\R.nf=r.nf/\R.g.length=C.ng/\∃k W,Rn X k (ms r ⟨fn,(pos:Nat),to,vs⟩ L st) (ms R ⟨fn,((pos+(cE nv ns e).2.is.length:Nat):Int),to,W⟩ L (st+k))/\W.length=vs.length/\W.take f.vs.length=f.vs/\
   dQ W (cE nv ns e).1=v/\0<=(cE nv ns e).1/\3*r.aK+3+k<=3*R.aK/\R.aK<=r.aK+8*k+2/\At C cs fn c (nv+(cE nv ns e).2.vs.length) f R W L)\/
  (∃R,vals fE f [e] (bV r)=(none,R)/\kj X r R (ms r ⟨fn,(pos:Nat),to,vs⟩ L st) 0 (1+E.sz e+(40-r.nf)*M)):=by
 have h:=x e f (bV r) fn c pos nv ns to vs L st m.bV z I F B.left (by simp only[jt.dO,adV]at P;omega);have S:∀fr L st,ms (bV r) fr L st=ms r fr L st:=λ_ _ _=>rfl;have O:(bV r).aK=r.aK+1:=rfl;have N:(bV r).nf=r.nf:=rfl;unfold OE at h;simp only[S]at h;have s:vals fE f [e] (bV r)=if (fE e f (bV r)).2.e≠0 then (none,(fE e f (bV r)).2) else (some [(fE e f (bV r)).1],(fE e f (bV r)).2):=rfl
 rw[s];generalize fE e f (bV r)=y at *;have J:loc e<=2:=by unfold loc;split<;>omega
 rcases h with⟨j,l,q,k,W,t,G,Y,T,Z⟩|h;left;obtain⟨v1,Q,v3⟩:=Y n;rw[U (by rw[j];simp)];have K:=m.ny (r':=y.2) G (Nat.le_add_right nv (cE nv ns e).2.vs.length) j l q;exact⟨y.1,y.2,rfl,j,l,q,k,W,t,G.1,K.fv,v1,Q,by omega,by omega,K⟩;right;rw[af h.e];have w:kj X (bV r) y.2 (ms r ⟨fn,(pos:Nat),to,vs⟩ L st) 0 (E.sz e+(40-r.nf)*M):=h;exact⟨y.2,rfl,w.iP (.zero _) (by omega) (by omega)⟩
theorem IB{x:jt}(Y:Pl X C c.is pos ns (x.dO o)){i:In}(z:o.is[0]?=some i):c.is[pos+x.is.length]?=some i:=by
 have:=Y.right.is 0 i z
 rwa [Nat.add_zero]at this
theorem amY(K:KP X C D H cs M)(hS:SS X C D cs M fS){x:Int×jt}{B l:List Sm}{R:Rs}{W:List Int}{k:Nat}{Y:Int}
  (o:Pl X C c.is pos ns (Ph nv pos ns x (λnv at_ ns=>cB nv at_ ns B) (λnv at_ ns=>cB nv at_ ns l)))(hv:nv+(Ph nv pos ns x (λnv at_ ns=>cB nv at_ ns B) (λnv at_ ns=>cB nv at_ ns l)).vs.length<=c.vars.length)
  (g1:Rn X k (ms r ⟨fn,(pos:Nat),to,vs⟩ L st) (ms R ⟨fn,((pos+x.2.is.length:Nat):Int),to,W⟩ L (st+k))) (hl:W.length=vs.length) (v1:dQ W x.1=Y) (n:At C cs fn c (nv+x.2.vs.length) f R W L) (P:R.nf=r.nf) (hd:f.done=false) (h0:f.res=0)
  (q1:3*r.aK+3+k<=3*R.aK) (q2:R.aK<=r.aK+8*k+2) (Z:NB B) (hNe:NB l) (hWb:WB D B) (hWe:WB D l) (hRb:rq f.vs.length B) (hRe:rq f.vs.length l) (w:Nat) :
  OS X C M (2+w+Sm.eD B+Sm.eD l) (Ph nv pos ns x (λnv at_ ns=>cB nv at_ ns B) (λnv at_ ns=>cB nv at_ ns l)) fn pos to vs L st r f (if Y≠0 then fN fS B (R,f) else fN fS l (R,f)):=by
 have q:(Ph nv pos ns x (λnv at_ ns=>cB nv at_ ns B) (λnv at_ ns=>cB nv at_ ns l)).is.length=x.2.is.length+1+(cB (nv+x.2.vs.length) (pos+x.2.is.length+1) (ns+x.2.ss.length) B).is.length+1 +
   (cB (nv+x.2.vs.length+(cB (nv+x.2.vs.length) (pos+x.2.is.length+1) (ns+x.2.ss.length) B).vs.length) (pos+x.2.is.length+1+(cB (nv+x.2.vs.length) (pos+x.2.is.length+1) (ns+x.2.ss.length) B).is.length+1) (ns+x.2.ss.length+(cB (nv+x.2.vs.length) (pos+x.2.is.length+1) (ns+x.2.ss.length) B).ss.length) l).is.length:=by
  unfold Ph;simp only[adV,aeo];omega
 unfold Ph at o hv;simp only at o hv;generalize hb:cB (nv+x.2.vs.length) (pos+x.2.is.length+1) (ns+x.2.ss.length) B=b at *;generalize hc:cB (nv+x.2.vs.length+b.vs.length) (pos+x.2.is.length+1+b.is.length+1) (ns+x.2.ss.length+b.ss.length) l=d at *;have hbr:c.is[pos+x.2.is.length]?=some ⟨17,x.1,0,((pos+x.2.is.length+1+b.is.length+1:Nat):Int),((pos+x.2.is.length+1:Nat):Int),[]⟩:=o.is x.2.is.length _ (by rw[acP (by omega)];simp);have hPb:Pl X C c.is (pos+x.2.is.length+1) (ns+x.2.ss.length) b:=by
  refine⟨λj i hj=>?_,λk t hk=>?_⟩;have:=o.is (x.2.is.length+(1+j)) i (by
   rw[acP (by omega),show x.2.is.length+(1+j)-x.2.is.length=j+1 by omega,aeV];exact lZ hj)
  rw[<-this];congr 1;omega;have:=o.ss (x.2.ss.length+k) t (by refine lZ ?_;rw[acP (by omega),show x.2.ss.length+k-x.2.ss.length=k by omega];exact hk);rw[<-Nat.add_assoc]at this;exact this
 have hjm:c.is[pos+x.2.is.length+1+b.is.length]?=some ⟨16,0,0,0,((pos+x.2.is.length+1+b.is.length+1+d.is.length:Nat):Int),[]⟩:=by
  have:=o.is (x.2.is.length+(b.is.length+1)) ⟨16,0,0,0,((pos+x.2.is.length+1+b.is.length+1+d.is.length:Nat):Int),[]⟩ (by
   rw[acP (by omega),show x.2.is.length+(b.is.length+1)-x.2.is.length=b.is.length+1 by omega,aeV,acP (by omega)];simp)
  rw[<-this];congr 1;omega
 have hPd:Pl X C c.is (pos+x.2.is.length+1+b.is.length+1) (ns+x.2.ss.length+b.ss.length) d:=by
  refine⟨λj i hj=>?_,λk t hk=>?_⟩;have:=o.is (x.2.is.length+(1+b.is.length+1+j)) i (by
   rw[acP (by omega),show x.2.is.length+(1+b.is.length+1+j)-x.2.is.length=(b.is.length+1+j)+1 by omega,aeV,acP (by omega),
    show b.is.length+1+j-b.is.length=j+1 by omega,aeV]
   exact hj)
  rw[<-this];congr 1;omega;have:=o.ss (x.2.ss.length+b.ss.length+k) t (by rw[acP (by simp only[adV];omega)];simp only[adV];rw[show x.2.ss.length+b.ss.length+k-(x.2.ss.length+b.ss.length)=k by omega];exact hk);have e:ns+(x.2.ss.length+b.ss.length+k)=ns+x.2.ss.length+b.ss.length+k:=by omega
  rw[e]at this;exact this
 have O:=K.step n.hc hbr R to W L (st+k);rw[ajg rfl,Iz]at O;have hva:dQ W (mV ⟨17,x.1,0,((pos+x.2.is.length+1+b.is.length+1:Nat):Int),((pos+x.2.is.length+1:Nat):Int),[]⟩).a=Y:=v1;rw[hva]at O;have Sj:nv+x.2.vs.length+b.vs.length+d.vs.length<=c.vars.length:=by simp only[adV]at hv;omega
 by_cases hz:Y=0;rw[U (by rw[hz];simp)]at O ⊢;have G:=g1.trans O;have h:=yS hS l f R fn c (pos+x.2.is.length+1+b.is.length+1) (nv+x.2.vs.length+b.vs.length) (ns+x.2.ss.length+b.ss.length) to W L (st+(k+1)) ⟨n.hc,n.hl,by have:=n.hn;omega,n.fv,n.e,n.nf,n.n40,n.g⟩ hd h0 hNe hWe hRe (by rw[hc];exact hPd) (by rw[hc];exact Sj);rw[hc]at h;generalize fN fS l (R,f)=y at *;rcases h with⟨I,v,z,F,J,i5,m,K3,N,Q,S,j4,j5⟩|⟨I,v,z,F,J,m,N,Q,S⟩|h;left;refine⟨I,by rw[v,P],z,F,J,i5,k+1+m,K3,?_,by rw[Q,hl],S,by omega,by omega⟩;have:=G.trans N;rw[q];have T:(pos+(x.2.is.length+1+b.is.length+1+d.is.length):Nat)=pos+x.2.is.length+1+b.is.length+1+d.is.length:=by omega
 have s:st+(k+1+m)=st+(k+1)+m:=by omega
 rw[T,s];exact this;right;left;refine⟨I,by rw[v,P],z,F,J,k+1+m,?_,by omega,by omega⟩;have:=G.trans N;have s:st+(k+1+m)=st+(k+1)+m:=by omega
 rw[s];exact this;right;right;rw[P]at h;exact h.iP G (by omega) (by omega);rw[af hz]at O ⊢;have G:=g1.trans O;have h:=yS hS B f R fn c (pos+x.2.is.length+1) (nv+x.2.vs.length) (ns+x.2.ss.length) to W L (st+(k+1)) n hd h0 Z hWb hRb (by rw[hb];exact hPb) (by rw[hb];omega);rw[hb]at h;generalize fN fS B (R,f)=y at *;rcases h with⟨I,v,z,F,J,i5,m,K3,N,Q,S,j4,j5⟩|⟨I,v,z,F,J,m,N,Q,S⟩|h;left;have DT:=K.step n.hc hjm y.1 to K3 L (st+(k+1)+m);rw[ajf rfl,Iz]at DT;refine⟨I,by rw[v,P],z,F,J,i5,k+1+(m+1),K3,?_,by rw[Q,hl],S,by omega,by omega⟩;have:=G.trans (N.trans DT);rw[q];have T:(pos+(x.2.is.length+1+b.is.length+1+d.is.length):Nat)=pos+x.2.is.length+1+b.is.length+1+d.is.length:=by omega
 have s:st+(k+1+(m+1))=st+(k+1)+m+1:=by omega
 rw[T,s];exact this;right;left;refine⟨I,by rw[v,P],z,F,J,k+1+m,?_,by omega,by omega⟩;have:=G.trans N;have s:st+(k+1+m)=st+(k+1)+m:=by omega
 rw[s];exact this;right;right;rw[P]at h;exact h.iP G (by omega) (by omega)
end qf
namespace qf
open Ax Go V7 iQ iZ qb
open pX (Rs Fm Cx Dm WE WL WS WB Ur Wz lM ev jl vals dW ja fN cu gq jz oF cy qE eH uq qF oC oD oB stop bV lW jN kN Bz wO E5 mW)
open iq (Ms MP Fr kR pF nu jZ gj mG fY mB fT pE tJ qC dQ nt oy)
variable {X:MP}{C:Cx}{D:Dm}{H:Hd}{cs:List Cd}{M:Nat}
variable {fE:E->Fm->Rs->Int×Rs}{fS:Sm->Rs×Fm->Rs×Fm}
variable {f:Fm}{r:Rs}{fn pos p nv ns:Nat}{c:Cd}{to:Int}{vs:List Int}{L:List Fr}{st:Nat}{ty:T3}{i:In}
theorem adP{x:jt}{i:In}:(x.dO (fW i)).is.length=x.is.length+1:=by simp[jt.dO,fW]
theorem ahQ{x:jt}{i:In}:(x.dO (fW i)).vs=x.vs:=by simp[jt.dO,fW]
theorem O5(K:KP X C D H cs M){o:jt}{R r3:Rs}{f':Fm}{W K3:List Int}{k:Nat}{i:In}{w:Nat}(t:At C cs fn c nv f R W L)(P:R.nf=r.nf)
  (G:Rn X k (ms r ⟨fn,(pos:Nat),to,vs⟩ L st) (ms R ⟨fn,((pos+o.is.length:Nat):Int),to,W⟩ L (st+k)))(x:W.length=vs.length)(q1:3*r.aK+1+k<=3*R.aK)(q2:R.aK<=r.aK+8*k+8)
  (v:c.is[pos+o.is.length]?=some i) (j:r3.e=0/\r3.nf=R.nf/\r3.g.length=C.ng/\r3.aK=R.aK) (n:f'.vs.length=f.vs.length/\f'.done=false/\f'.res=f.res) (l:K3.length=W.length/\K3.take f.vs.length=f'.vs)
  (m:∀a st,pF X (ms R ⟨fn,a,to,W⟩ L st) W (mV i)=ms r3 ⟨fn,a,to,K3⟩ L st):OS X C M w (o.dO (fW i)) fn pos to vs L st r f (r3,f'):=by
 left;have h:=K.step t.hc v R to W L (st+k);rw[m]at h;refine⟨j.1,by rw[j.2.1,P],j.2.2.1,n.1,n.2.1,n.2.2,k+1,K3,?_,by rw[l.1,x],l.2,by show 3*r.aK+(k+1)<=3*r3.aK;rw[j.2.2.2];omega,by show r3.aK<=_;rw[j.2.2.2];omega⟩;rw[adP];have:=G.trans h;have q:st+(k+1)=st+k+1:=by omega
 have s:pos+(o.is.length+1)=pos+o.is.length+1:=by omega
 rw[q,s];exact this
theorem adQ(K:KP X C D H cs M){o:jt}{R:Rs}{T:List (List Int)}{t:Int}{W:List Int}{k:Nat}{i:In}{w:Nat}(j:At C cs fn c nv f R W L)(P:R.nf=r.nf)
  (G:Rn X k (ms r ⟨fn,(pos:Nat),to,vs⟩ L st) (ms R ⟨fn,((pos+o.is.length:Nat):Int),to,W⟩ L (st+k)))(x:W.length=vs.length)(q1:3*r.aK+1+k<=3*R.aK)(q2:R.aK<=r.aK+8*k+8)
  (v:f.done=false) (n:c.is[pos+o.is.length]?=some i) (m:∀a st,pF X (ms R ⟨fn,a,to,W⟩ L st) W (mV i)=fY (ms { R with s:=T } ⟨fn,a,to,W⟩ L st) t):OS X C M w (o.dO (fW i)) fn pos to vs L st r f (eH { R with s:=T } t,f):=by
 by_cases l:t=0;have e:eH { R with s:=T } t={ R with s:=T }:=by unfold eH;rw[U (by rintro⟨q,_⟩;exact q l)]
 rw[e];refine O5 K j P G x q1 q2 n ⟨j.e,rfl,j.g,rfl⟩ ⟨rfl,v,rfl⟩ ⟨rfl,j.fv⟩ λa st=>?_;rw[m];unfold fY;rw[af l];right;right;have e:eH { R with s:=T } t={ R with s:=T,e:=2,code:=t }:=by unfold eH;rw[af ⟨l,j.e⟩]
 rw[e];have h:=K.step j.hc n R to W L (st+k);rw[m]at h;left;refine⟨rfl,k+1,_,G.trans h,?_,?_,?_,by show 3*r.aK+(k+1)<=3*R.aK+0;omega⟩<;>(unfold fY;rw[U l]<;>rfl)
variable{x:Rs×Fm}
theorem ahR{s:Sm}(h:s.k=4):gq fE fS s x=match vals fE x.2 ((pX.jk s.es).aN++s.es.drop 1) x.1 with
  |(none,r)=>(r,x.2)
  |(some l,r)=>oF (r,x.2) (pX.jk s.es).k (pX.jk s.es).ref l:=by unfold gq;rw[af h];rfl
theorem ahS{s:Sm}(h:s.k≠4):gq fE fS s x=match vals fE x.2 s.es x.1 with
  |(none,r)=>(r,x.2)
  |(some l,r)=>jz fS s.k s.ref s.bd s.el l (r,x.2):=by unfold gq;rw[U h];rfl
theorem jb{e:E}:E.eD [e]=E.sz e:=by simp[E.eD]
theorem KQ(K:KP X C D H cs M)(hE:SE X C D cs M fE)(hS:SS X C D cs M fS){N:Nat}{gS:Sm->Rs×Fm->Rs×Fm}
  (hg:∀s x,gS s x=if s.k=1 then x else if s.k=6 then cu C fE fS (pX.jk s.es) s.bd N x else if oB C x.1=true then gq fE fS s (bV x.1,x.2) else (stop x.1,x.2)):SS X C D cs M gS:=by
 intro s f r fn c pos nv ns to vs L st z hd h0 hN hW hR Y o;have Q:=hg s (r,f);rw[WJ]at hN;rw[E5]at hW;rw[xC]at hR;obtain⟨nE,nT,n9,_,nb,ne⟩:=hN;obtain⟨⟨⟨k1,k9⟩,kg,kl,kp,kr⟩,we,wb,wl⟩:=hW;obtain⟨re,rv,rg,rb,rl⟩:=hR;have eO:=Sm.wz s;rw[wO]at we;rw[mo]at re;have w:=Rd nv pos ns s;by_cases c1:s.k=1;rw[af c1]at Q;rw[U (by omega),U (by omega),U (by omega),U (by omega),U (by omega),U (by omega),U (by omega)]at w;rw[Q,w];left;exact⟨z.e,rfl,z.g,rfl,hd,rfl,0,vs,.zero _,rfl,z.fv,by show 3*r.aK+0<=3*r.aK;omega,by show r.aK<=_;omega⟩;rw[U c1]at Q;have one:(s.k=2\/s.k=3\/s.k=5\/s.k=6\/s.k=8)->∃e,s.es=[e]/\NE e/\e.ty≠T0/\WE D e/\CN f.vs.length e:=λhk=>by
  obtain⟨e,m⟩:=Aw (kl (by omega));have n:e∈s.es:=by rw[m];simp
  exact⟨e,m,nE e n,nT (by omega) e n,we e n,re e n⟩
 by_cases c6:s.k=6;rw[af c6]at Q;rw[U (by omega),U (by omega),U (by omega),af c6]at w;rw[Q];rw[w]at Y o ⊢;obtain⟨e,m,a1,a2,a3,a4⟩:=one (by omega);have e1:pX.jk s.es=e:=by rw[m];rfl
 have S:qb.jk s.es=e:=by rw[m];rfl
 rw[e1];rw[S]at Y o ⊢;refine(BG K hE hS a1 a2 a3 nb wb Y o N f r vs st z hd h0 a4 rb).nB ?_;rw[eO,m,jb];omega;rw[U c6]at Q;by_cases ho:oB C r=true
 case neg=>
  rw[U ho]at Q;rw[Q];right;right;show kj X r (stop r) (ms r ⟨fn,(pos:Nat),to,vs⟩ L st) 0 _;exact BP z.e _ rfl rfl _
 rw[af ho]at Q;rw[Q];clear Q hg;have hts:(bV r).aK=r.aK+1:=rfl;by_cases c4:s.k=4;rw[ahR c4];rw[U (by omega),af c4]at w;rw[w]at Y o ⊢;obtain⟨a,b,m,vg⟩:=kp c4;have e1:pX.jk s.es=a:=by rw[m];rfl
 have S:qb.jk s.es=a:=by rw[m];rfl
 have e3:qb.es1 s.es=b:=by rw[m];rfl
 have e4:s.es.drop 1=[b]:=by rw[m];rfl
 rw[e1,e4];rw[S,e3]at Y o ⊢;have hma:a∈s.es:=by rw[m];simp
 have hmb:b∈s.es:=by rw[m];simp
 have hna:=(adN a).1 (nE a hma);have T:=(Bz a).1 (we a hma);have jE:=(xB _ a).1 (re a hma);have Zc:NL (a.aN++[b]):=by
  rw[O2];intro e n;rcases aed.1 n with n|n;exact(O2 _).1 hna.2.2.2 e n;rw[agx.1 n];exact⟨nE b hmb,nT (by omega) b hmb⟩
 have hwl:WL D (a.aN++[b]):=by
  rw[wO];intro e n;rcases aed.1 n with n|n;exact(wO _).1 T.2 e n;rw[agx.1 n];exact we b hmb
 have tj:zJ f.vs.length (a.aN++[b]):=by
  rw[mo];intro e n;rcases aed.1 n with n|n;exact(mo _ _).1 jE.2 e n;rw[agx.1 n];exact re b hmb
 have hcp:Og nv ns a (kT nv ns a.aN) (λnv ns=>cE nv ns b)=(kT nv ns (a.aN++[b])).2.dO (fW (HR a.k a.ref (cE (nv+(kT nv ns a.aN).2.vs.length) (ns+(kT nv ns a.aN).2.ss.length) b).1 (kT nv ns a.aN).1)):=by
  rw[KW];rfl
 rw[hcp]at Y o ⊢;have h:=tK hE (a.aN++[b]) f (bV r) fn c pos nv ns to vs L st z.bV Zc hwl tj Y.left (by rw[ahQ]at o;exact o);have S4:∀fr L st,ms (bV r) fr L st=ms r fr L st:=λ_ _ _=>rfl;simp only[S4]at h;have P:=IB Y (i:=HR a.k a.ref (cE (nv+(kT nv ns a.aN).2.vs.length) (ns+(kT nv ns a.aN).2.ss.length) b).1 (kT nv ns a.aN).1) rfl;have hsn:=KW a.aN nv ns b;have gW:=O3 a.aN nv ns;have hlen:(a.aN++[b]).length<=3:=by
  rcases vg with q|q;have:=T.1.2.2.1 (.inl q);simp;omega;have:=T.1.2.2.2.1 (.inl q);simp;omega
 have hw:E.eD (a.aN++[b])<=E.eD s.es:=by
  have q1:E.eD s.es=E.sz a+E.sz b:=by rw[m];simp[E.eD]
  have q2:=E.rj a;have q3:E.eD (a.aN++[b])=E.eD a.aN+E.sz b:=by
   generalize a.aN=l;induction l with
   |nil=>simp[E.eD]|cons x l ih=>simp[E.eD,ih];omega
  omega
 generalize hz:(cE (nv+(kT nv ns a.aN).2.vs.length) (ns+(kT nv ns a.aN).2.ss.length) b).1=bv at *;rcases h with⟨l,R,v0,F,O,Z,k,W,I,G,B,g4,g5,g6⟩|⟨R,v0,h⟩;simp only[v0];have J:=z.ny (r':=R) G (Nat.le_refl nv) F O Z;have g5:3*(r.aK+1)+k<=3*R.aK:=g5;have g6:R.aK<=r.aK+1+8*k+(a.aN++[b]).length:=g6;rw[hsn]at B;simp only at B;rcases vg with q|q;obtain⟨x,hx⟩:=KU (gW.trans (T.1.2.2.1 (.inl q)));rw[hx]at B P ⊢;have hpr:oF (R,f) a.k a.ref l=(eH { R with s:=pX.tH R.s (dQ W x) a.ref (dQ W bv) } (pX.ko R.s (dQ W x) a.ref),f):=by
  rw[B];unfold oF;rw[af q];rfl
 rw[hpr];refine adQ K J (show R.nf=r.nf from O) I G.1 (by omega) (by omega) hd P λa st=>?_;unfold HR;rw[af q];exact axM rfl;obtain⟨x,y,hx⟩:=y9 (gW.trans (T.1.2.2.2.1 (.inl q)));rw[hx]at B P ⊢;have hpr:oF (R,f) a.k a.ref l=(eH { R with s:=pX.tH R.s (dQ W x) (dQ W y) (dQ W bv) } (pX.ko R.s (dQ W x) (dQ W y)),f):=by
  rw[B];unfold oF;rw[U (by omega)];rfl
 rw[hpr];refine adQ K J (show R.nf=r.nf from O) I G.1 (by omega) (by omega) hd P λa st=>?_;unfold HR;rw[U (by omega)];exact axO rfl;simp only[v0];right;right;have h':kj X (bV r) R (ms r ⟨fn,(pos:Nat),to,vs⟩ L st) 0 (E.eD (a.aN++[b])+(40-r.nf)*M):=h;exact h'.iP (.zero _) (by omega) (by rw[eO];have:(bV r).aK=r.aK+1:=rfl;omega);rw[ahS c4];by_cases c2:s.k=2\/s.k=3;rw[af c2]at w;rw[w]at Y o ⊢;obtain⟨e,m,a1,a2,a3,a4⟩:=one (by omega);have S:qb.jk s.es=e:=by rw[m];rfl
 rw[S]at Y o ⊢;rw[m];rcases IA hE z a1 a2 a3 a4 Y o (fn:=fn) (to:=to) (st:=st) with⟨v,R,v0,F,O,Z,k,W,I,G,B,v1,v2,q1,q2,J⟩|⟨R,v0,h⟩;simp only[v0];have uL:jz fS s.k s.ref s.bd s.el [v] (R,f)=cy (R,f) s.ref v:=by unfold jz;rw[af c2];rfl
 rw[uL];have P:=IB Y (i:=HQ s.ref (cE nv ns e).1) rfl;unfold HQ at P ⊢;unfold cy;by_cases hr:s.ref<0;rw[af hr]at P;rw[af hr,af hr];refine O5 K J O I G (by omega) (by omega) (r3:={ R with g:=R.g.set (-1-s.ref).toNat v }) (f':=f) (K3:=W) P ⟨F,rfl,by simpa using Z,rfl⟩ ⟨rfl,hd,rfl⟩ ⟨rfl,B⟩ λa st=>?_;rw[arZ rfl];show { ms R ⟨fn,a,to,W⟩ L st with g:=R.g.set (-1-s.ref).toNat (dQ W (cE nv ns e).1) }=_;rw[v1];rfl;rw[U hr]at P;rw[U hr,U hr];refine O5 K J O I G (by omega) (by omega) (r3:=R) (f':={ f with vs:=f.vs.set s.ref.toNat v }) (K3:=W.set s.ref.toNat v) P ⟨F,rfl,Z,rfl⟩ ⟨by simp,hd,rfl⟩ ⟨by simp,by rw[List.take_set,B]⟩ λa st=>?_;rw[axI rfl,Ix];show ms R ⟨fn,a,to,W.set s.ref.toNat (dQ W (cE nv ns e).1)⟩ L st=_;rw[v1];simp only[v0];right;right;exact h.iP (.zero _) (by omega) (by rw[eO,m,jb];omega);rw[U c2,U c4]at w;by_cases c5:s.k=5;rw[af c5]at w;rw[w]at Y o ⊢;obtain⟨e,m,a1,a2,a3,a4⟩:=one (by omega);have S:qb.jk s.es=e:=by rw[m];rfl
 rw[S]at Y o ⊢;rw[m];have hP':Pl X C c.is pos ns ((cE nv ns e).2.dO O0):=by
  rw[TS];unfold Ph at Y;exact⟨λj i hj=>Y.is j i (lZ hj),λk t hk=>Y.ss k t (lZ (lZ hk))⟩
 have CF:nv+((cE nv ns e).2.dO O0).vs.length<=c.vars.length:=by
  rw[TS];unfold Ph at o;simp only[adV]at o;omega
 rcases IA hE z a1 a2 a3 a4 hP' CF (fn:=fn) (to:=to) (st:=st) with⟨v,R,v0,F,O,Z,k,W,I,G,B,v1,v2,q1,q2,J⟩|⟨R,v0,h⟩;simp only[v0];have uL:jz fS s.k s.ref s.bd s.el [v] (R,f)=if v≠0 then fN fS s.bd (R,f) else fN fS s.el (R,f):=by
  unfold jz;rw[U (by omega),af c5];rfl
 rw[uL];refine(amY K hS Y o I G v1 J O hd h0 q1 q2 nb ne wb wl rb rl 0).nB ?_;have:=E.Kb e;rw[eO,m,jb];omega;simp only[v0];right;right;exact h.iP (.zero _) (by omega) (by rw[eO,m,jb];omega);rw[U c5,U c6]at w;by_cases c7:s.k=7;rw[af c7]at w;have mZ:s.es=[]\/∃e,s.es=[e]:=by
  have:=kr c7;match hh:s.es,this with
  |[],_=>exact .inl rfl|[e],_=>exact .inr ⟨e,rfl⟩
 rcases mZ with m|⟨e,m⟩;rw[m]at w;simp only at w;rw[w]at Y o ⊢;rw[m];have hi:=Y.is 0 ⟨18,-1,0,0,0,[]⟩ rfl;rw[Nat.add_zero]at hi;have h:=K.step z.hc hi r to vs L st;rw[ajh rfl]at h;right;left;have Sj:vals fE f [] (bV r)=(some [],bV r):=rfl;rw[Sj];simp only;have uL:jz fS s.k s.ref s.bd s.el [] (bV r,f)=(bV r,{ f with done:=true }):=by
  unfold jz;rw[U (by omega),U (by omega),af c7];rfl
 rw[uL];refine⟨z.e,rfl,z.g,rfl,rfl,1,?_,by show 3*r.aK+1<=3*(r.aK+1);omega,by show r.aK+1<=_;omega⟩;have e5:fT (ms r ⟨fn,((pos+1:Nat):Int),to,vs⟩ L (st+1)) (if (mV ⟨18,-1,0,0,0,[]⟩).a<0 then 0 else dQ vs (mV ⟨18,-1,0,0,0,[]⟩).a)=fT (ms (bV r) ⟨fn,0,to,[]⟩ L (st+1)) ({ f with done:=true }:Fm).res:=by
  rw[Fg];show fT _ 0=fT _ f.res;rw[h0];rfl
 rw[e5]at h;exact h;have n:e∈s.es:=by rw[m];simp
 rw[m]at w;simp only at w;rw[w]at Y o ⊢;rw[m];rcases IA hE z (nE e n) (nT (by omega) e n) (we e n) (re e n) Y o (fn:=fn) (to:=to) (st:=st) with⟨v,R,v0,F,O,Z,k,W,I,G,B,v1,v2,q1,q2,J⟩|⟨R,v0,h⟩;simp only[v0];have uL:jz fS s.k s.ref s.bd s.el [v] (R,f)=(R,{ f with done:=true,res:=v }):=by
  unfold jz;rw[U (by omega),U (by omega),af c7];rfl
 rw[uL];have P:=IB Y (i:=⟨18,(cE nv ns e).1,0,0,0,[]⟩) rfl;have h:=K.step z.hc P R to W L (st+k);rw[ajh rfl]at h;right;left;refine⟨F,O,Z,rfl,rfl,k+1,?_,by show 3*r.aK+(k+1)<=3*R.aK;omega,by show R.aK<=_;omega⟩;have e5:fT (ms R ⟨fn,((pos+(cE nv ns e).2.is.length+1:Nat):Int),to,W⟩ L (st+k+1)) (if (mV ⟨18,(cE nv ns e).1,0,0,0,[]⟩).a<0 then 0 else dQ W (mV ⟨18,(cE nv ns e).1,0,0,0,[]⟩).a)=fT (ms R ⟨fn,0,to,[]⟩ L (st+(k+1))) v:=by
  rw[Fg];show fT _ (if (cE nv ns e).1<0 then 0 else dQ W (cE nv ns e).1)=_;rw[U (by omega),v1];rfl
 rw[e5]at h;exact I.trans h;simp only[v0];right;right;exact h.iP (.zero _) (by omega) (by rw[eO,m,jb];omega);rw[U c7]at w;by_cases c8:s.k=8;rw[af c8]at w;rw[w]at Y o ⊢;obtain⟨e,m,a1,a2,a3,a4⟩:=one (by omega);have S:qb.jk s.es=e:=by rw[m];rfl
 rw[S]at Y o ⊢;rw[m];rcases IA hE z a1 a2 a3 a4 Y o (fn:=fn) (to:=to) (st:=st) with⟨v,R,v0,F,O,Z,k,W,I,G,B,v1,v2,q1,q2,J⟩|⟨R,v0,h⟩;simp only[v0];have uL:jz fS s.k s.ref s.bd s.el [v] (R,f)=({ R with out:=R.out++[v] },f):=by
  unfold jz;rw[U (by omega),U (by omega),U (by omega),af c8];rfl
 rw[uL];have P:=IB Y (i:=⟨15,(cE nv ns e).1,0,0,0,[]⟩) rfl;refine O5 K J O I G (by omega) (by omega) (r3:={ R with out:=R.out++[v] }) (f':=f) (K3:=W) P ⟨F,rfl,Z,rfl⟩ ⟨rfl,hd,rfl⟩ ⟨rfl,B⟩ λa st=>?_;rw[arX rfl];show { ms R ⟨fn,a,to,W⟩ L st with out:=R.out++[dQ W (cE nv ns e).1] }=_;rw[v1];rfl;simp only[v0];right;right;exact h.iP (.zero _) (by omega) (by rw[eO,m,jb];omega);rw[U c8]at w;have c9:s.k=9:=by omega
 rw[af c9]at w;rw[w]at Y o ⊢;obtain⟨e,m⟩:=Aw (kl (by omega));have n:e∈s.es:=by rw[m];simp
 have S:qb.jk s.es=e:=by rw[m];rfl
 rw[S]at Y o ⊢;rw[m];have h:=hE e f (bV r) fn c pos nv ns to vs L st z.bV (nE e n) (we e n) (re e n) Y o;have S4:∀fr L st,ms (bV r) fr L st=ms r fr L st:=λ_ _ _=>rfl;unfold OE at h;simp only[S4]at h;have Pf:loc e=0:=by unfold loc;rw[U (by have:=n9 c9 e n;omega)]
 have Lm:vals fE f [e] (bV r)=if (fE e f (bV r)).2.e≠0 then (none,(fE e f (bV r)).2) else (some [(fE e f (bV r)).1],(fE e f (bV r)).2):=rfl
 rw[Lm];generalize fE e f (bV r)=y at *;rcases h with⟨F,e1,Z,k,W,I,G,B,g4,g5⟩|h;rw[U (by rw[F];simp)];simp only;have uL:jz fS s.k s.ref s.bd s.el [y.1] (y.2,f)=(y.2,f):=by
  unfold jz;rw[U (by omega),U (by omega),U (by omega),U (by omega)]
 rw[uL];left;have J:=z.ny (r':=y.2) G (Nat.le_refl nv) F e1 Z;have g4:3*(r.aK+1)+k<=3*y.2.aK:=g4;have g5:y.2.aK+1<=r.aK+1+8*k+loc e:=g5;exact⟨F,e1,Z,rfl,hd,rfl,k,W,I,G.1,J.fv,by show 3*r.aK+k<=3*y.2.aK;omega,by show y.2.aK<=_;omega⟩;rw[af h.e];right;right;have h':kj X (bV r) y.2 (ms r ⟨fn,(pos:Nat),to,vs⟩ L st) 0 (E.sz e+(40-r.nf)*M):=h;exact h'.iP (.zero _) (by omega) (by rw[eO,m,jb,hts];omega)
end qf
namespace qf
open Ax Go V7 iQ iZ qb
open pX (Rs Fm Cx Dm WE WL WS WB Ur Wz lM ev jl vals dW ja fN cu gq jz oF cy qE eH uq qF oC oD oB stop bV lW jN kN Bz wO E5 mW r0 qo run)
open iq (Ms MP Fr kR pF nu pW jZ gj mG fY mB fT pE tJ qC dQ nt oy)
variable {X:MP}{C:Cx}{D:Dm}{H:Hd}{cs:List Cd}{M:Nat}
theorem KR(K:KP X C D H cs M)(m:TP C D):∀n,SE X C D cs M (ev C n).1/\SS X C D cs M (ev C n).2
 |0=>by
  refine⟨λy f r fn c pos nv ns to vs L st h _ _ _ _ _=>.inr (BP h.e _ rfl rfl _),λs f r fn c pos nv ns to vs L st h t v _ _ _ _ _=>?_⟩;have q:(ev C 0).2 s (r,f)=if s.k=1 then (r,f) else if s.k=6 then cu C (λ_ _ r=>(0,stop r)) (λ_ x=>x) (pX.jk s.es) s.bd 0 (r,f) else (stop r,f):=rfl
  rw[q];by_cases c1:s.k=1;rw[af c1];have o:=Rd nv pos ns s;rw[U (by omega),U (by omega),U (by omega),U (by omega),U (by omega),U (by omega),U (by omega)]at o;rw[o];left;exact⟨h.e,rfl,h.g,rfl,t,rfl,0,vs,.zero _,rfl,h.fv,by grind,by grind⟩;rw[U c1];right;right;have:(if s.k=6 then cu C (λ_ _ r=>(0,stop r)) (λ_ x=>x) (pX.jk s.es) s.bd 0 (r,f) else (stop r,f))=(stop r,f):=by
   simp_all [cu,U]
  rw[this];exact BP h.e _ rfl rfl _
 |n+1=>by
  obtain⟨j,l⟩:=KR K m n;exact⟨KO K m j l λe f r=>rfl,KQ K j l λs x=>rfl⟩
def Cz(r:Rs):Prop:=r.e≠2->r.code=0
theorem CA{r:Rs}(h:Cz r)(c:Int):Cz (eH r c):=by
 unfold eH;split;intro q;grind;exact h
theorem Ab{r:Rs}(h:Cz r):Cz (stop r):=by
 unfold stop;split;rename_i U;intro _;exact h (by grind);exact h
variable {fE:E->Fm->Rs->Int×Rs}{fS:Sm->Rs×Fm->Rs×Fm}
def CE(fE:E->Fm->Rs->Int×Rs):Prop:=∀e f r,Cz r->Cz (fE e f r).2
def CS(fS:Sm->Rs×Fm->Rs×Fm):Prop:=∀s x,Cz x.1->Cz (fS s x).1
theorem O6(j:CE fE)(f:Fm):∀(l:List E)(r:Rs),Cz r->Cz (vals fE f l r).2
 |[],r,h=>h|e::l,r,h=>by
  unfold vals;split;exact j e f r h;have:=O6 j f l (fE e f r).2 (j e f r h)
  grind
theorem IC(g:CS fS):∀(l:List Sm)(x:Rs×Fm),Cz x.1->Cz (fN fS l x).1
 |[],x,h=>h|s::l,x,h=>by
  unfold fN;split;exact h;exact IC g l _ (g s x h)
theorem WQ(g:CS fS)(i:Int)(l:List Int)(r:Rs)(h:Cz r):Cz (dW C fS i l r).2:=by
 unfold dW;split;exact CA h 6;exact IC g _ ({ r with nf:=r.nf+1 },_) h
theorem ahT{r:Rs}(h:Cz r)(n:Int):Cz (oC r n).2:=by
 unfold oC;split;exact CA h 4;exact h
theorem ahU{r:Rs}(h:Cz r):Cz (oD r).2:=by
 unfold oD;split;exact CA h 5;exact h
theorem ahV(g:CS fS)(k n ref R:Int)(f:Fm)(l:List Int)(r:Rs)(h:Cz r):Cz (ja C (dW C fS) k n ref R f l r).2:=by
 unfold ja uq;repeat' split
 all_goals first|exact h|exact CA h _|exact WQ g _ _ _ h|exact ahT h _|exact ahU h
theorem ahW(j:CE fE)(g:CS fS)(e:E)(f:Fm)(r:Rs)(h:Cz r):Cz (jl C fE fS e f r).2:=by
 grind [jl,O6,ahV]
theorem O7(j:CE fE)(l:CS fS)(c:E)(b:List Sm):∀(k:Nat)(x:Rs×Fm),Cz x.1->Cz (cu C fE fS c b k x).1
 |0,x,h=>by
  grind [cu,Ab]
 |k+1,x,h=>by
  unfold cu;split;exact h;split;have g:=j c x.2 (bV x.1) h;split;exact g;exact O7 j l c b k _ (IC l b (_,x.2) g);exact Ab h
theorem am0(x:Rs×Fm)(ref v:Int)(h:Cz x.1):Cz (cy x ref v).1:=by unfold cy;split<;>exact h
theorem am1(j:CS fS)(k ref:Int)(B g:List Sm)(l:List Int)(x:Rs×Fm)(h:Cz x.1):Cz (jz fS k ref B g l x).1:=by
 unfold jz;repeat' split
 all_goals first|exact h|exact am0 _ _ _ h|exact IC j _ _ h
theorem am2(x:Rs×Fm)(k ref:Int)(l:List Int)(h:Cz x.1):Cz (oF x k ref l).1:=by
 unfold oF;split;refine CA ?_ _;exact h;refine CA ?_ _;exact h
theorem ahX(j:CE fE)(g:CS fS)(s:Sm)(x:Rs×Fm)(h:Cz x.1):Cz (gq fE fS s x).1:=by
 grind [gq,O6,pX.jk,am2,am1]
theorem aji:∀n,CE (ev C n).1/\CS (ev C n).2
 |0=>by
  refine⟨λe f r h=>Ab h,λs x h=>?_⟩;show Cz ((if s.k=1 then x else if s.k=6 then cu C (λ_ _ r=>(0,stop r)) (λ_ x=>x) (pX.jk s.es) s.bd 0 x else (stop x.1,x.2)):Rs×Fm).1;split;exact h;split;exact O7 (λ_ _ r h=>Ab h) (λ_ x h=>h) _ _ _ _ h;exact Ab h
 |n+1=>by
  obtain⟨j,g⟩:=aji n;refine⟨λe f r h=>?_,λs x h=>?_⟩;show Cz ((if oB C r=true then jl C (ev C n).1 (ev C n).2 e f (bV r) else (0,stop r)):Int×Rs).2;split;exact ahW j g e f (bV r) h;exact Ab h;show Cz ((if s.k=1 then x else if s.k=6 then cu C (ev C n).1 (ev C n).2 (pX.jk s.es) s.bd (n+1) x
   else if oB C x.1=true then gq (ev C n).1 (ev C n).2 s (bV x.1,x.2) else (stop x.1,x.2)):Rs×Fm).1
  split;exact h;split
  grind [O7]
  split;exact ahX j g s (bV x.1,x.2) h;exact Ab h
theorem OU(K:KP X C D H cs M)(t:TP C D)(q:X.ng=C.ng){main:Nat}(B:main<C.bs.length)(fm:List Int) :
  (((run C main fm).e=1\/(run C main fm).e=2)/\∃k m,Rn X k (iq.m0 X main fm) m/\m.e=(run C main fm).e/\m.code=(run C main fm).code/\m.out=(run C main fm).out/\k<=3*(run C main fm).aK+2)\/
  ((run C main fm).e=3/\(run C main fm).code=0/\∃k m,Rn X k (iq.m0 X main fm) m/\m.e=0/\m.out=(run C main fm).out/\k<=3*(run C main fm).aK/\(run C main fm).aK<=8*k+40*M):=by
 have v:C.bs[main]?=some C.bs[main]:=aas B;have h:=RU K t (KR K t C.fuel).2 v (l:=[]) (by simp) (r:=r0 C fm) rfl (L:=[]) rfl (by show 0<40;decide) (by simp[r0]) (-1) 0;have o:ms (r0 C fm) ⟨main,0,-1,[]++acp (nt X main-([]:List Int).length) 0⟩ [] 0=iq.m0 X main fm:=by
  unfold iq.m0 ms;rw[q];rfl
 rw[o]at h;have Q:=K.M main C.bs[main] v;have F:dW C (ev C C.fuel).2 (main:Int) [] (r0 C fm)=((fN (ev C C.fuel).2 C.bs[main].code ({ r0 C fm with nf:=(r0 C fm).nf+1 },⟨[]++acp (C.bs[main].vars.length-([]:List Int).length) 0,0,false⟩)).2.res,{ (fN (ev C C.fuel).2 C.bs[main].code ({ r0 C fm with nf:=(r0 C fm).nf+1 },⟨[]++acp (C.bs[main].vars.length-([]:List Int).length) 0,0,false⟩)).1 with nf:=(fN (ev C C.fuel).2 C.bs[main].code ({ r0 C fm with nf:=(r0 C fm).nf+1 },⟨[]++acp (C.bs[main].vars.length-([]:List Int).length) 0,0,false⟩)).1.nf-1 }):=by
  unfold dW;rw[U (by show ¬40<=0;decide)]
  grind
 have j:Cz (run C main fm):=by
  have s:=WQ (C:=C) (aji (C:=C) C.fuel).2 (main:Int) [] (r0 C fm) (λ_=>rfl);unfold run qo;split;rename_i R;intro _;exact s (by grind);exact s
 have x:run C main fm=qo (dW C (ev C C.fuel).2 (main:Int) [] (r0 C fm)).2:=rfl;rw[F]at x;generalize fN (ev C C.fuel).2 C.bs[main].code ({ r0 C fm with nf:=(r0 C fm).nf+1 },⟨[]++acp (C.bs[main].vars.length-([]:List Int).length) 0,0,false⟩)=y at *;have I:(r0 C fm).aK=0:=rfl;rcases h with⟨N,O,P,k,g,W,Y⟩|h;left;have n:run C main fm={ y.1 with nf:=y.1.nf-1,e:=1 }:=by simp_all [qo,af]
 have w:(run C main fm).code=0:=j (by grind);have z:fT (ms y.1 ⟨main,0,-1,[]⟩ [] (0+k)) y.2.res={ ms y.1 ⟨main,0,-1,[]⟩ [] (0+k) with l:=[],e:=1 }:=rfl;rw[z]at g;refine⟨.inl (by rw[n]),k,_,g,by rw[n],by rw[w];rfl,by rw[n];rfl,?_⟩
 grind
 have n:run C main fm={ y.1 with nf:=y.1.nf-1 }:=by rw[x];unfold qo;rw[U h.e]
 rcases h with⟨e,k,m,g,W,Y,J,G⟩|⟨e,k,m,g,W,Y,J,G⟩
 grind
 right;refine⟨by grind,j (by grind),k,m,g,W,by grind,?_,?_⟩
 grind
 rw[n];show y.1.aK<=8*k+40*M;have:(r0 C fm).nf=0:=rfl
 grind
end qf
namespace qf
open Ax Go V7 iQ iZ qb
open pX (Rs Cx Dm run)
open iq (Ms MP nu pW jZ yP m0 EZ)
variable {X:MP}{C:Cx}{D:Dm}{H:Hd}{cs:List Cd}{M:Nat}
theorem adR(m:Ms):(iq.mark m).out=m.out:=by grind [iq.mark]
theorem adS{m:Ms}(h:m.e≠0):iq.mark m=m:=by unfold iq.mark;grind
theorem Rn.on{k j:Nat}{m U:Ms}(h:Rn X k m U)(n:m.e=0):∃l,(nu X (k+j) m).out=U.out++l:=by
 rw[jZ,h.1];by_cases g:U.e=0;all_goals simp_all [EZ,yP]
theorem ar4(K:KP X C D H cs M)(v:TP C D)(h:X.ng=C.ng){main:Nat}(w:main<C.bs.length)(fm:List Int)(n:Nat)(y:n=3*C.fuel+10)(z:(run C main fm).aK<=C.fuel) :
  ((run C main fm).e=3->∃l,(pW X n (m0 X main fm)).out=(run C main fm).out++l)/\
  ((run C main fm).e≠3->(pW X n (m0 X main fm)).e=(run C main fm).e/\(pW X n (m0 X main fm)).code=(run C main fm).code/\(pW X n (m0 X main fm)).out=(run C main fm).out):=by
 rw[iq.run_mark,adR];rcases OU K v h w fm with⟨m,k,U,g,W,Y,J,t⟩|⟨m,x,k,U,g,W,Y,J,t⟩;have s:(run C main fm).e≠3:=by grind
 refine⟨λq=>au q s,λ_=>?_⟩;have o:U.e≠0:=by grind
 have:nu X n (m0 X main fm)=U:=by
  obtain⟨j,rfl⟩:∃j,n=k+j:=⟨n-k,by omega⟩;rw[jZ,g.1,yP o]
 grind [adS]
 refine⟨λ_=>?_,λq=>au m q⟩;obtain⟨j,rfl⟩:∃j,n=k+j:=⟨n-k,by omega⟩;rw[<-Y];exact g.on rfl
end qf
namespace qf
open Ax Go V7 iQ iZ qb
open pX (Rs Fm Cx Dm WE WL WS WB Ur Wz yQ)
open iq (Ms MP nt)
variable {X:MP}{C:Cx}{H:Hd}{cs:List Cd}{M:Nat}{V:List Vd}{bR:Bool}{res:T3}
theorem adT(o:Hd.gd H)(I:Gv H V)(e:E):∀y,xX H V e=.ok y->NE y:=by
 induction e using E.Cf with
 |_ e s=>
  intro y h;have l:=(Kr o (λv q=>(I v q).2) e y h).1;obtain⟨K,t,r,n,g,j,rfl⟩:=qj h;rw[adN];refine⟨l,λB=>?_,λkk=>?_,?_⟩;have B:e.k=8:=B;unfold mR at j;rw[U (by omega),U (by omega),U (by omega),U (by omega),U (by omega),U (by omega),U (by omega),af B]at j;obtain⟨q1,q2,_⟩:=dm j;rw[Ee,Ee,aA,aA]at q1;show t.b=3/\t.d=0
  grind
  have kk:e.k=1\/e.k=2\/e.k=3\/e.k=4\/e.k=8\/e.k=11:=kk;have w:e.aN.length=0:=by
   unfold ir at n
   grind
  have:=nH g;show K=[]
  grind
  show NL K;rw[O2];exact λz m=>⟨jy g s z m,F6 g z m⟩
theorem Fh:∀{l Y:List Sm}{V X:List Vd},(∀s∈l,∀V y W,Au H bR res V s=.ok (y,W)->Gv H V->NS y)->nN H bR res V l=.ok (Y,X)->Gv H V->NB Y
 |[],Y,V,X,_,h,_=>by
  grind [nN,NB]
 |s::l,Y,V,X,j,h,I=>by
  obtain⟨y,W,z,g,k,rfl⟩:=pK h;unfold NB;exact⟨j s aeb V y W g I,Fh (λt m=>j t (aee _ m)) k (Io s V y W g I).2⟩
theorem am3(q:Hd.gd H)(s:Sm):∀V y W,Au H bR res V s=.ok (y,W)->Gv H V->NS y:=by
 induction s using Sm.Cf with
 |_ s x T=>
  intro V y X h I;obtain⟨t,Y,r,W,o,K,l,J,B⟩:=xY h;have n:=Oj K J I;have j:∀e∈Y,NE e:=by
   unfold As at l;split at l
   grind [xX,agx,adT]
   exact jy l λe _ y O=>adT q I e y O
  have S:s.k≠9->∀e∈Y,e.ty≠T0:=λF=>by
   grind [DK,F6]
  have m:s.k=9->∀e∈Y,e.k=7:=λF=>by
   rw[F]at o l;obtain⟨e,U,G⟩:=TN o;rw[U,VT]at l;split at l;cases l;rename_i z P;cases l;intro w N;rw[agx.1 N];obtain⟨R,t,r,_,_,_,rfl⟩:=qj P;exact G
  rcases B with⟨_,b,Q,c,g,v,rfl⟩|⟨_,b,g,rfl⟩|⟨_,_,rfl,rfl⟩;rw[WJ];exact⟨j,S,m,λ_=>trivial,Fh x g n,Fh T v (uZ g n).2⟩;rw[WJ];exact⟨j,S,m,λ_=>trivial,Fh x g n,by simp[Sm.el,NB]⟩;rw[WJ];exact⟨j,S,m,λ_=>trivial,by simp[Sm.bd,NB],by simp[Sm.el,NB]⟩
theorem adU(o:Hd.gd H):∀{S:List Sg}{fs:List Fc}{bs:List Bd},(∀s∈S,Gv H s.ps)->qJ H S fs=.ok bs->∀b∈bs,NB b.code
 |[],fs,bs,_,h=>by grind [qJ]|_::_,[],bs,_,h=>by grind [qJ]|s::S,f::fs,bs,k,h=>by
  unfold qJ at h;split at h;cases h;rename_i c W m;split at h;cases h;rename_i l j;cases h;intro b g;rcases List.mem_cons.1 g with rfl|g
  grind [Fh,am3,aeb]
  exact adU o (λs h=>k s (aee _ h)) j b g
theorem WR:∀{m:List Sg}{bs:List Bd}{cs J:List Cd}{g S:List Sd}{all:Nat},yJ cs g all m bs=.ok (J,S)->m.length=bs.length->
  (∃l,J=cs++l)/\(∃l,S=g++l)/\∀(j:Nat) (b:Bd),bs[j]?=some b->∃s ns,m[j]?=some s/\J[cs.length+j]?=some (eJ ns s b)/\∀(k:Nat) (t:T3),(eG ns b).ss[k]?=some t->S[ns+k]?=some ⟨cs.length+j,t⟩
 |[],bs,cs,J,g,S,all,h,n=>by
  unfold yJ at h;cases h;have:bs=[]:=List.eq_nil_of_length_eq_zero (by grind);simp_all
 |s::m,[],_,_,_,_,_,_,n=>by simp at n|s::m,b::bs,cs,J,g,S,all,h,n=>by
  unfold yJ at h;split at h;cases h;obtain⟨⟨w,y⟩,⟨x,z⟩,v⟩:=WR h (by grind);refine⟨⟨eJ g.length s b::w,by grind⟩,⟨(eG g.length b).ss.map (λt=>⟨cs.length,t⟩)++x,by grind⟩,λj c o=>?_⟩;cases j with
  |zero=>
   grind
  |succ j=>
   rw[aeV]at o;obtain⟨B,ns,q1,q2,Q⟩:=v j c o;have q:(cs++[eJ g.length s b]).length+j=cs.length+(j+1):=(by simp;omega);rw[q]at q2 Q
   grind
structure IsX (X:MP)(C:Cx)(cs:List Cd)(ss:List Sd):Prop where
 jr:∀(j:Nat) (c:Cd),cs[j]?=some c->(dh.mF (X.aR.getD j iq.C0).jr)=c.is.map mV
 nv:∀(j:Nat) (c:Cd),cs[j]?=some c->nt X j=c.vars.length
 cells:∀(n:Nat) (s:Sd),ss[n]?=some s->s.ty.b=3->s.ty.d=0->X.cells.getD n 0=C.aU.getD s.ty.r.toNat 0
theorem ar5(o:Hd.CQ H){fs:List Fc}{bs:List Bd}(P:H.aW.length=fs.length)(q:qJ H H.aW fs=.ok bs){cs:List Cd}{S:List Sd}(J:yJ [] [] 0 H.aW bs=.ok (cs,S))(z:IsX X C cs S)(n:C.bs=bs)(x:C.ng=H.az.length)
  (y:∀f∈fs,Sm.eD f.body<=M):KP X C (yQ H) H cs M/\TP C (yQ H):=by
 have W:bs.length=H.aW.length:=by grind [iZ.zH]
 obtain⟨_,_,B⟩:=WR J W.symm;have m:=EB q;have O:=FX q y;refine⟨⟨z.jr,z.nv,λj b l=>?_,?_,λj p b g l=>?_,λj b l=>?_,x.symm⟩,⟨λb l=>?_⟩⟩;rw[n]at l;obtain⟨s,ns,q1,q2,Q⟩:=B j b l;rw[ahv,Nat.zero_add]at q2 Q;refine⟨s,ns,q1,q2,⟨λp i G=>?_,λk t N I F=>?_⟩⟩;rw[Nat.zero_add];exact lZ G;exact z.cells (ns+k) ⟨j,t⟩ (Q k t N) I F;rw[n];show (H.aW.map (·.ps.length)).length=bs.length;simp[W];rw[n]at l;have g:(H.aW.map (·.ps.length))[j]?=some p:=g;rw[List.getElem?_map]at g;obtain⟨w,v⟩:=List.getElem?_eq_some_iff.1 l;have h:j<H.aW.length:=by omega
 rw[aas h]at g;cases g;have:=(m j h w).1;rw[v]at this;exact⟨o.pn _ (List.getElem_mem h),this⟩
 grind
 rw[n]at l;obtain⟨j,w,rfl⟩:=List.getElem_of_mem l;have U:H.bJ.length=H.rs.length:=o.ok.rs.symm;exact⟨adU o.gd (λs K=>(aiS o K).gv) q _ l,pX.Us U q _ l,(m j (by omega) w).2⟩
end qf
