/- Part of a proof. -/
import Derived.Test.YtpnadocbfbbboaaGreatP
import Derived.Test.YtpnadocbfbbboaaGreatT

namespace RJ
open Ax Go V7 lf mG wU
variable {P:List UInt8->Prop}{T:List Tk}
def qk(P:List UInt8->Prop)(T:List Tk):Prop:=∀q,((dQ T q).k=1->P (dQ T q).t)/\((dQ T q).k=2->0<=(dQ T q).n/\(dQ T q).n<9223372036854775808)
def CM(P:List UInt8->Prop)(on:List UInt8):Prop:=on=aiB\/on=aa8\/P on
mutual
def Gx(P:List UInt8->Prop):E->Prop
 |.mk k n nm on od ay _ _ _=>dR k n ay.length=true/\(k=1->0<=n/\n<9223372036854775808)/\(k=4\/k=5\/k=7->P nm)/\(k=3\/k=9->CM P on/\0<=od/\od<=3)/\(k=8->P on/\od=0)/\JD P ay
def JD(P:List UInt8->Prop):List E->Prop
 |[]=>True|e::l=>Gx P e/\JD P l
end
theorem Fe(e:E):Gx P e↔dR e.k e.n e.ay.length=true/\(e.k=1->0<=e.n/\e.n<9223372036854775808)/\(e.k=4\/e.k=5\/e.k=7->P e.nm)/\(e.k=3\/e.k=9->CM P e.on/\0<=e.od/\e.od<=3)/\(e.k=8->P e.on/\e.od=0)/\JD P e.ay:=by
 obtain⟨k,n,nm,on,od,ay,a,ty,ref⟩:=e;unfold Gx;exact Iff.rfl
theorem nY:∀l:List E,JD P l↔∀e∈l,Gx P e
 |[]=>by simp[JD]|e::l=>by simp[JD,nY l]
theorem aiM(e:E):Gx P e->Wf e:=by
 refine E.xN (P:=λe=>Gx P e->Wf e) (λe ih h=>?_) e;rw[Fe]at h;obtain⟨h1,h2,h3,h4,h5,h6⟩:=h;rw[Hw];refine⟨h1,λq=>(h4 q).2,λq=>(h5 q).2,?_⟩;rw[tn];rw[nY]at h6;exact λx hx=>ih x hx (h6 x hx)
theorem Gm{k n:Int}{nm on:List UInt8}{od:Int}{ks:List E}{a:Int}(h:dR k n ks.length=true)(h1:k=1->0<=n/\n<9223372036854775808)(h2:k=4\/k=5\/k=7->P nm)(h3:k=3\/k=9->CM P on/\0<=od/\od<=3)(h4:k=8->P on/\od=0)(h5:∀e∈ks,Gx P e):Gx P (Em k n nm on od ks a):=
 (Fe _).2 ⟨h,h1,h2,h3,h4,(nY _).2 h5⟩
theorem vE(hT:qk P T){q:RQ}(h:(cW T q).2.fe=0):P (cW T q).1:=by
 unfold cW at h ⊢;split at h;rename_i c;rw[if_pos c];exact(hT q).1 c.2;exact absurd h (eL (by decide))
theorem aiN(hT:qk P T){q:RQ}(h:(WK T q).2.fe=0):CM P (WK T q).1:=by
 unfold WK at h ⊢;split at h;rename_i c;rw[if_pos c];simp only[Bool.or_eq_true,fP,Bool.and_eq_true,decide_eq_true_eq]at c;rcases c with c|c;exact .inl c.2;exact .inr (.inl c.2);rename_i c;rw[if_neg c];exact .inr (.inr (vE hT h))
theorem ZL(hT:qk P T){q:RQ}(h:(vl T q).2.fe=0):CM P (vl T q).1.1/\0<=(vl T q).1.2/\(vl T q).1.2<=3:=by
 have hL:=(zX (T:=T) 3 0 q).2.1;unfold vl at h ⊢;split at h;exact absurd h (eL (by decide));rename_i c;rw[if_neg c];have h1:=(yV (T:=T) (s:=[93]) _).hJ h;exact⟨aiN hT h1,by simp only;omega,by simp only;omega⟩
theorem aen{n:Nat}{c:Tk}(h:lK n c≠0):14<=lK n c/\lK n c<=24:=by
 unfold lK at h ⊢;split at h;rename_i c4;rw[if_pos c4];have:∀l:List (List UInt8×Int),(∀x∈l,14<=x.2/\x.2<=24)->fm l c.t≠0->14<=fm l c.t/\fm l c.t<=24:=by
  intro l;induction l with
  |nil=>intro _ h;exact absurd rfl h|cons x l ih=>
   intro hx h;obtain⟨s,k⟩:=x;unfold fm at h ⊢;split;exact hx (s,k) List.mem_cons_self;rename_i c;rw[if_neg c]at h;exact ih (λy hy=>hx y (List.mem_cons_of_mem _ hy)) h
 refine this _ ?_ h;unfold dH;split<;>decide;exact absurd rfl h
theorem HF{Q:E->Prop}{x:E}(h:Q x):∀e∈[x],Q e:=λe he=>by rw[List.mem_singleton.1 he];exact h
theorem abj{Q:E->Prop}{x y:E}(h:Q x)(k:Q y):∀e∈[x,y],Q e:=λe he=>by
 rcases List.mem_cons.1 he with rfl|he;exact h;rw[List.mem_singleton.1 he];exact k
theorem V9(hT:qk P T):∀f:Nat,(∀n q e r,eY T f n q=some (e,r)->r.fe=0->Gx P e)/\(∀n a q e r,iM T f n a q=some (e,r)->r.fe=0->Gx P a->Gx P e)/\
  (∀q e r,jA T f q=some (e,r)->r.fe=0->Gx P e)/\(∀a q e r,eJ T f a q=some (e,r)->r.fe=0->Gx P a->Gx P e)/\(∀q e r,jS T f q=some (e,r)->r.fe=0->Gx P e)/\
  (∀q e r,jB T f q=some (e,r)->r.fe=0->Gx P e)/\(∀a q e r,kz T f a q=some (e,r)->r.fe=0->Gx P e)/\(∀q e r,nN T f q=some (e,r)->r.fe=0->∀x∈e,Gx P x)/\
  (∀l q e r,nt T f l q=some (e,r)->r.fe=0->(∀x∈l,Gx P x)->∀x∈e,Gx P x)
 |0=>by simp[eY,iM,jA,eJ,jS,jB,kz,nN,nt]|f+1=>by
  obtain⟨hE,hS,hU,hB,hI,hF,hN,hA,hM⟩:=V9 hT f;obtain⟨gE,gS,gU,gB,gI,gF,gN,gA,gM⟩:=kI T f;refine⟨λn q e r h fr=>?_,λn a q e r h fr ha=>?_,λq e r h fr=>?_,λa q e r h fr ha=>?_,λq e r h fr=>?_,λq e r h fr=>?_,λa q e r h fr=>?_,λq e r h fr=>?_,λl q e r h fr hl=>?_⟩;unfold eY at h;split at h;exact hU _ _ _ h fr;obtain⟨⟨x1,x2⟩,h1,h2⟩:=Option.bind_eq_some_iff.1 h;have f2:=(gS _ _ _ _ _ h2).hJ fr;exact hS _ _ _ _ _ h2 fr (hE _ _ _ _ h1 f2);unfold iM at h;split at h;rename_i c;obtain⟨⟨x1,x2⟩,h1,h2⟩:=Option.bind_eq_some_iff.1 h;have f2:=(gS _ _ _ _ _ h2).hJ fr;have a1:=hE _ _ _ _ h1 f2;obtain⟨k1,k2⟩:=aen c.2;refine hS _ _ _ _ _ h2 fr (Gm ?_ (λq=>absurd q (by omega)) (λq=>absurd q (by omega)) (λq=>absurd q (by omega)) (λq=>absurd q (by omega)) (abj ha a1));generalize lK n (dQ T q)=k at *;unfold dR;rw[if_neg (by omega),if_neg (by omega),if_neg (by omega),if_neg (by omega)];simp[k1,k2];cases h;exact ha;unfold jA at h;split at h;obtain⟨⟨x1,x2⟩,h1,h2⟩:=Option.bind_eq_some_iff.1 h;cases h2;rw[OX]at fr;have a1:=hE _ _ _ _ h1 fr;by_cases c:fP T q [45]=true;rw[if_pos c];exact Gm rfl (by simp) (by simp) (by simp) (by simp) (HF a1);rw[if_neg c];exact Gm rfl (by simp) (by simp) (by simp) (by simp) (HF a1);obtain⟨⟨x1,x2⟩,h1,h2⟩:=Option.bind_eq_some_iff.1 h;have f2:=(gB _ _ _ _ h2).hJ fr;exact hB _ _ _ _ h2 fr (hF _ _ _ h1 f2);unfold eJ at h;split at h;have f2:=(gB _ _ _ _ h).hJ fr;exact hB _ _ _ _ h fr (Gm rfl (by simp) (λ_=>vE hT f2) (by simp) (by simp) (HF ha));split at h;obtain⟨⟨x1,x2⟩,h1,h2⟩:=Option.bind_eq_some_iff.1 h;have f2:=(gB _ _ _ _ h2).hJ fr;have f3:=(cD (T:=T) (q:=x2) (s:=[93])).hJ f2;have a1:=hE _ _ _ _ h1 f3;exact hB _ _ _ _ h2 fr (Gm rfl (by simp) (by simp) (by simp) (by simp) (abj ha a1));cases h;exact ha;unfold jS at h;obtain⟨⟨x1,x2⟩,h1,h2⟩:=Option.bind_eq_some_iff.1 h;cases h2;exact hE _ _ _ _ h1 ((cD (T:=T) (q:=x2) (s:=[41])).hJ fr);unfold jB at h;split at h;rename_i c;cases h;exact Gm rfl (λ_=>(hT q).2 c.2) (by simp) (by simp) (by simp) (by simp);split at h;cases h;refine Gm ?_ (by simp) (by simp) (by simp) (by simp) (by simp);split<;>rfl;split at h;cases h;exact Gm rfl (by simp) (by simp) (λ_=>ZL hT fr) (by simp) (by simp);split at h;exact hN _ _ _ _ h fr;split at h;obtain⟨⟨x1,x2⟩,h1,h2⟩:=Option.bind_eq_some_iff.1 h;cases h2;exact Gm rfl (by simp) (by simp) (by simp) (by simp) (HF (hI _ _ _ h1 fr));split at h;cases h;exact Gm rfl (by simp) (by simp) (by simp) (by simp) (by simp);split at h;exact hI _ _ _ h fr;split at h;obtain⟨⟨x1,x2⟩,h1,h2⟩:=Option.bind_eq_some_iff.1 h;cases h2;have f2:=(gA _ _ _ h1).hJ fr;exact Gm rfl (by simp) (λ_=>vE hT f2) (by simp) (by simp) (hA _ _ _ h1 fr);cases h;exact Gm rfl (by simp) (λ_=>vE hT fr) (by simp) (by simp) (by simp);unfold kz at h;split at h;obtain⟨⟨x1,x2⟩,h1,h2⟩:=Option.bind_eq_some_iff.1 h;cases h2;have f2:=(aI (T:=T) (s:=[93])).hJ ((gI _ _ _ h1).hJ fr);exact Gm rfl (by simp) (by simp) (λ_=>ZL hT f2) (by simp) (HF (hI _ _ _ h1 fr));cases h;exact Gm rfl (by simp) (by simp) (by simp) (λ_=>⟨vE hT fr,rfl⟩) (by simp);unfold nN at h;split at h;cases h;simp;obtain⟨⟨x1,x2⟩,h1,h2⟩:=Option.bind_eq_some_iff.1 h;have f2:=(gM _ _ _ _ h2).hJ fr;exact hM _ _ _ _ h2 fr (HF (hE _ _ _ _ h1 f2));unfold nt at h;split at h;obtain⟨⟨x1,x2⟩,h1,h2⟩:=Option.bind_eq_some_iff.1 h;have f2:=(gM _ _ _ _ h2).hJ fr;have a1:=hE _ _ _ _ h1 f2;refine hM _ _ _ _ h2 fr λx hx=>?_;rcases List.mem_append.1 hx with hx|hx;exact hl x hx;rw[List.mem_singleton.1 hx];exact a1;cases h;exact hl
theorem qJ(hT:qk P T){f n:Nat}{q r:RQ}{e:E}(h:eY T f n q=some (e,r))(fr:r.fe=0):Gx P e:=(V9 hT f).1 _ _ _ _ h fr
end RJ
namespace RJ
open Ax Go V7 lf mG wU
variable {P:List UInt8->Prop}{T:List Tk}
mutual
def Sa(P:List UInt8->Prop):Sm->Prop
 |.mk k nm on od es bd el _ _=>1<=k/\k<=9/\(k=1\/k=2->P nm/\CM P on/\0<=od/\od<=3)/\(k=3->P nm)/\zd k es/\JD P es/\(k≠5->k≠6->bd=[])/\(k≠5->el=[])/\xV P bd/\xV P el
def xV(P:List UInt8->Prop):List Sm->Prop
 |[]=>True|s::l=>Sa P s/\xV P l
end
theorem nh(s:Sm):Sa P s↔1<=s.k/\s.k<=9/\(s.k=1\/s.k=2->P s.nm/\CM P s.on/\0<=s.od/\s.od<=3)/\(s.k=3->P s.nm)/\zd s.k s.es/\JD P s.es/\(s.k≠5->s.k≠6->s.bd=[])/\(s.k≠5->s.el=[])/\xV P s.bd/\xV P s.el:=by
 obtain⟨k,nm,on,od,es,bd,el,a,ref⟩:=s;unfold Sa;exact Iff.rfl
theorem nZ:∀l:List Sm,xV P l↔∀e∈l,Sa P e
 |[]=>by simp[xV]|e::l=>by simp[xV,nZ l]
theorem aeo(s:Sm):Sa P s->WfS s:=by
 refine Sm.xN (P:=λs=>Sa P s->WfS s) (λs ib ie h=>?_) s;rw[nh]at h;obtain⟨h1,h2,h3,h4,h5,h6,h7,h8,h9,zf⟩:=h;rw[NQ];rw[nZ]at h9 zf;rw[nY]at h6;exact⟨h1,h2,λq=>(h3 q).2.2,h5,(tn _).2 λx hx=>aiM x (h6 x hx),h7,h8,(vC _).2 λx hx=>ib x hx (h9 x hx),(vC _).2 λx hx=>ie x hx (zf x hx)⟩
theorem aep{l:List Sm}(h:xV P l):PA l:=(vC _).2 λx hx=>aeo x ((nZ _).1 h x hx)
theorem ZM{q:RQ}{s:List UInt8}(h:(cH T q s).fe=0):fP T q s=true:=by
 unfold cH at h;split at h
 assumption
 exact absurd h (eL (by decide))
theorem Wa(hT:qk P T){f:Nat}{a:Int}{q r:RQ}{s:Sm}(h:mW T f a q=some (s,r))(fr:r.fe=0):Sa P s:=by
 unfold mW at h;obtain⟨⟨x1,x2⟩,h1,h2⟩:=Option.bind_eq_some_iff.1 h;dsimp only at h2;split at h2;obtain⟨⟨y1,y2⟩,h3,h4⟩:=Option.bind_eq_some_iff.1 h2;cases h4;have f1:=(aI (T:=T) (q:=y2) (s:=[59])).hJ fr;have a3:=qJ hT h3 f1;have f3:=(dK h3).hJ f1;have f4:=aI.hJ f3;by_cases c:x1.k=4\/x1.k=5\/x1.k=6;rw[if_pos c]at f4;have a1:=qJ hT h1 f4;by_cases c4:x1.k=4;rw[if_pos c4,nh];rw[Fe]at a1;refine⟨by simp[Sm.k],by simp[Sm.k],by simp[Sm.k],λ_=>a1.2.2.1 (.inl c4),?_,?_,by simp[Sm.bd],by simp[Sm.el],by simp[Sm.bd,xV],by simp[Sm.el,xV]⟩;simp[zd,Sm.k,Sm.es];simp[Sm.es,JD,a3];rw[if_neg c4,nh];have c':x1.k=5\/x1.k=6:=by rcases c with c|c;exact absurd c c4;exact c
 refine⟨by simp[Sm.k],by simp[Sm.k],by simp[Sm.k],by simp[Sm.k],?_,?_,by simp[Sm.bd],by simp[Sm.el],by simp[Sm.bd,xV],by simp[Sm.el,xV]⟩;simp[zd,Sm.k,Sm.es,c'];simp[Sm.es,JD,a1,a3];rw[if_neg c]at f4;exact absurd f4 (eL (by decide));cases h2;have hi:=ZM fr;have f1:=aI.hJ fr;by_cases c:fP T x2 [59]=true/\x1.k≠7;rw[if_pos c]at f1;exact absurd f1 (eL (by decide));rw[if_neg c]at hi f1;have k7:x1.k=7:=Classical.byContradiction λq=>c ⟨hi,q⟩;have a1:=qJ hT h1 f1;rw[nh];refine⟨by simp[Sm.k],by simp[Sm.k],by simp[Sm.k],by simp[Sm.k],?_,?_,by simp[Sm.bd],by simp[Sm.el],by simp[Sm.bd,xV],by simp[Sm.el,xV]⟩;simp[zd,Sm.k,Sm.es,k7];simp[Sm.es,JD,a1]
structure JE (P:List UInt8->Prop)(p:PD):Prop where
 name:P p.name
 ty:CM P p.on
 od:0<=p.od/\p.od<=3
theorem LZ(hT:qk P T){q:RQ}(h:(cU T q).2.fe=0):JE P (cU T q).1/\(dQ T q).k=1:=by
 have h1:=(aI (T:=T) (s:=[58])).hJ ((lZ (T:=T)).hJ h);obtain⟨a,b⟩:=ZL hT h;refine⟨⟨vE hT h1,a,b⟩,?_⟩;unfold cW at h1;split at h1;rename_i c;exact c.2;exact absurd h1 (eL (by decide))
theorem L0(hT:qk P T):∀f:Nat,(∀q s r,oB T f q=some (s,r)->r.fe=0->Sa P s)/\(∀q s r,gD T f q=some (s,r)->r.fe=0->xV P s)/\
  (∀l q s r,jT T f l q=some (s,r)->r.fe=0->xV P l->xV P s)
 |0=>by simp[oB,gD,jT]|f+1=>by
  obtain⟨hS,hB,hL⟩:=L0 hT f;obtain⟨gS,gB,gL⟩:=lN T f;refine⟨λq s r h fr=>?_,λq s r h fr=>?_,λl q s r h fr hl=>?_⟩;unfold oB at h;split at h;cases h;have f1:=aI.hJ fr;obtain⟨a1,_⟩:=LZ hT f1;rw[nh];exact⟨by simp[Sm.k],by simp[Sm.k],λ_=>⟨a1.1,a1.2,a1.3⟩,by simp[Sm.k],by simp[zd,Sm.k,Sm.es],by simp[Sm.es,JD],by simp[Sm.bd],by simp[Sm.el],by simp[Sm.bd,xV],by simp[Sm.el,xV]⟩;split at h;obtain⟨⟨x1,x2⟩,h1,h2⟩:=Option.bind_eq_some_iff.1 h;cases h2;have f1:=aI.hJ fr;have a1:=qJ hT h1 f1;have f2:=aI.hJ ((dK h1).hJ f1);obtain⟨a2,_⟩:=LZ hT f2;rw[nh];exact⟨by simp[Sm.k],by simp[Sm.k],λ_=>⟨a2.1,a2.2,a2.3⟩,by simp[Sm.k],by simp[zd,Sm.k,Sm.es],by simp[Sm.es,JD,a1],by simp[Sm.bd],by simp[Sm.el],by simp[Sm.bd,xV],by simp[Sm.el,xV]⟩;split at h;obtain⟨⟨x1,x2⟩,h1,h2⟩:=Option.bind_eq_some_iff.1 h;obtain⟨⟨y1,y2⟩,h3,h4⟩:=Option.bind_eq_some_iff.1 h2;dsimp only at h4;split at h4;obtain⟨⟨z1,z2⟩,h5,h6⟩:=Option.bind_eq_some_iff.1 h4;cases h6;have f5:=(gB _ _ _ h5).1.hJ fr;have f4:y2.fe=0:=f5;have f3:=(gB _ _ _ h3).1.hJ f4;have a1:=qJ hT h1 f3;have a2:=hB _ _ _ h3 f4;have a3:=hB _ _ _ h5 fr;rw[nh];exact⟨by simp[Sm.k],by simp[Sm.k],by simp[Sm.k],by simp[Sm.k],by simp[zd,Sm.k,Sm.es],by simp[Sm.es,JD,a1],by simp[Sm.k],by simp[Sm.k],by simpa [Sm.bd] using a2,by simpa [Sm.el] using a3⟩;cases h4;have f3:=(gB _ _ _ h3).1.hJ fr;have a1:=qJ hT h1 f3;have a2:=hB _ _ _ h3 fr;rw[nh];exact⟨by simp[Sm.k],by simp[Sm.k],by simp[Sm.k],by simp[Sm.k],by simp[zd,Sm.k,Sm.es],by simp[Sm.es,JD,a1],by simp[Sm.k],by simp[Sm.k],by simpa [Sm.bd] using a2,by simp[Sm.el,xV]⟩;split at h;obtain⟨⟨x1,x2⟩,h1,h2⟩:=Option.bind_eq_some_iff.1 h;obtain⟨⟨y1,y2⟩,h3,h4⟩:=Option.bind_eq_some_iff.1 h2;cases h4;have f3:=(gB _ _ _ h3).1.hJ fr;have a1:=qJ hT h1 f3;have a2:=hB _ _ _ h3 fr;rw[nh];exact⟨by simp[Sm.k],by simp[Sm.k],by simp[Sm.k],by simp[Sm.k],by simp[zd,Sm.k,Sm.es],by simp[Sm.es,JD,a1],by simp[Sm.k],by simp[Sm.el],by simpa [Sm.bd] using a2,by simp[Sm.el,xV]⟩;split at h;split at h;cases h;rw[nh];exact⟨by simp[Sm.k],by simp[Sm.k],by simp[Sm.k],by simp[Sm.k],by simp[zd,Sm.k,Sm.es],by simp[Sm.es,JD],by simp[Sm.bd],by simp[Sm.el],by simp[Sm.bd,xV],by simp[Sm.el,xV]⟩;obtain⟨⟨x1,x2⟩,h1,h2⟩:=Option.bind_eq_some_iff.1 h;cases h2;have a1:=qJ hT h1 (aI.hJ fr);rw[nh];exact⟨by simp[Sm.k],by simp[Sm.k],by simp[Sm.k],by simp[Sm.k],by simp[zd,Sm.k,Sm.es],by simp[Sm.es,JD,a1],by simp[Sm.bd],by simp[Sm.el],by simp[Sm.bd,xV],by simp[Sm.el,xV]⟩;split at h;obtain⟨⟨x1,x2⟩,h1,h2⟩:=Option.bind_eq_some_iff.1 h;cases h2;have a1:=qJ hT h1 (aI.hJ fr);rw[nh];exact⟨by simp[Sm.k],by simp[Sm.k],by simp[Sm.k],by simp[Sm.k],by simp[zd,Sm.k,Sm.es],by simp[Sm.es,JD,a1],by simp[Sm.bd],by simp[Sm.el],by simp[Sm.bd,xV],by simp[Sm.el,xV]⟩;exact Wa hT h fr;unfold gD at h;exact hL _ _ _ _ h fr trivial;unfold jT at h;split at h;obtain⟨⟨x1,x2⟩,h1,h2⟩:=Option.bind_eq_some_iff.1 h;have f1:=(gL _ _ _ _ h2).hJ fr;have a1:=hS _ _ _ h1 f1;refine hL _ _ _ _ h2 fr ((nZ _).2 λx hx=>?_);rcases List.mem_append.1 hx with hx|hx;exact(nZ _).1 hl x hx;rw[List.mem_singleton.1 hx];exact a1;cases h;exact hl
theorem L1(hT:qk P T){f:Nat}{q r:RQ}{s:List Sm}(h:gD T f q=some (s,r))(fr:r.fe=0):xV P s:=(L0 hT f).2.1 _ _ _ h fr
theorem w5{α:Type}{Q:α->Prop}{l:List α}{y:α}(h:∀x∈l,Q x)(k:Q y):∀x∈l++[y],Q x:=λx hx=>by
 rcases List.mem_append.1 hx with hx|hx;exact h x hx;rw[List.mem_singleton.1 hx];exact k
theorem HH(hT:qk P T):∀(f:Nat)(l:List PD)(q:RQ)(s:List PD)(r:RQ),gZ T f l q=some (s,r)->r.fe=0->(∀p∈l,JE P p)->l.length<=8->(∀p∈s,JE P p)/\s.length<=8
 |0,_,_,_,_,h=>by simp[gZ]at h|f+1,l,q,s,r,h=>by
  intro fr hl hn;unfold gZ at h;split at h;split at h;cases h;exact absurd fr (eL (by decide));rename_i c;have f1:=aI.hJ ((sX T _ _ _ _ _ h).hJ fr);obtain⟨a1,a2⟩:=LZ hT f1;exact HH hT f _ _ _ _ h fr (w5 hl a1) (by
   have:l.length≠8:=λe=>c ⟨a2,e⟩;simp;omega)
  cases h;exact⟨hl,hn⟩
theorem Bx(hT:qk P T):∀(f:Nat)(l:List PD)(q:RQ)(s:List PD)(r:RQ),gK T f l q=some (s,r)->r.fe=0->(∀p∈l,JE P p)->l.length<=6->(∀p∈s,JE P p)/\s.length<=6
 |0,_,_,_,_,h=>by simp[gK]at h|f+1,l,q,s,r,h=>by
  intro fr hl hn;unfold gK at h;split at h;split at h;cases h;exact absurd fr (eL (by decide));rename_i c;have f1:=oQ.hJ ((nu T _ _ _ _ _ h).hJ fr);obtain⟨a1,a2⟩:=LZ hT f1;exact Bx hT f _ _ _ _ h fr (w5 hl a1) (by
   have:l.length≠6:=λe=>c ⟨a2,e⟩;simp;omega)
  cases h;exact⟨hl,hn⟩
structure GxR (P:List UInt8->Prop)(c:Rc):Prop where
 name:P c.name
 len:c.bH.length<=8
 f:∀p∈c.bH,JE P p
structure GxF (P:List UInt8->Prop)(c:Fc):Prop where
 name:P c.name
 len:c.params.length<=6
 p:∀p∈c.params,JE P p
 res:c.ct=true->CM P c.on/\0<=c.od/\c.od<=3
 no:c.ct=false->c.on=[]/\c.od=0
 body:xV P c.body
structure Wb (P:List UInt8->Prop)(p:Pg):Prop where
 rl:p.bz.length<=12
 gl:p.aH.length<=8
 fl:p.funcs.length<=16
 r:∀r∈p.bz,GxR P r
 g:∀q∈p.aH,JE P q
 f:∀f∈p.funcs,GxF P f
theorem Wb.wf{p:Pg}(h:Wb P p):WfP p:=
 ⟨h.rl,h.gl,h.fl,λr hr=>⟨(h.r r hr).len,λp hp=>((h.r r hr).f p hp).od⟩,λq hq=>(h.g q hq).od,λf hf=>
  have k:=h.f f hf
  ⟨k.len,λp hp=>(k.p p hp).od,by
   cases e:f.ct with
   |true=>exact(k.res e).2|false=>rw[(k.no e).2];decide,k.no,aep k.body⟩⟩
theorem RK(hT:qk P T){f:Nat}{q r:RQ}{s:Rc}(h:lY T f q=some (s,r))(fr:r.fe=0):GxR P s:=by
 unfold lY at h;obtain⟨⟨x1,x2⟩,h1,h2⟩:=Option.bind_eq_some_iff.1 h;cases h2;have f1:=aI.hJ fr;have f2:=aI.hJ ((sX T _ _ _ _ _ h1).hJ f1);obtain⟨a1,a2⟩:=HH hT _ _ _ _ _ h1 f1 (by simp) (by simp);exact⟨vE hT f2,a2,a1⟩
theorem ZN(hT:qk P T){f:Nat}{q r:RQ}{s:Fc}(h:rJ T f q=some (s,r))(fr:r.fe=0):GxF P s:=by
 unfold rJ at h;obtain⟨⟨x1,x2⟩,h1,h2⟩:=Option.bind_eq_some_iff.1 h;dsimp only at h2;split at h2;obtain⟨⟨y1,y2⟩,h3,h4⟩:=Option.bind_eq_some_iff.1 h2;cases h4;have f1:=(kB h3).1.hJ fr;have f0:(cH T x2 [41]).fe=0:=(lZ (T:=T) (q:=aA (cH T x2 [41]))).hJ f1;have f2:=aI.hJ f0;have f3:=aI.hJ ((nu T _ _ _ _ _ h1).hJ f2);obtain⟨a1,a2⟩:=Bx hT _ _ _ _ _ h1 f2 (by simp) (by simp);exact⟨vE hT f3,a2,a1,λ_=>ZL hT f1,λe=>by simp at e,L1 hT h3 fr⟩;obtain⟨⟨y1,y2⟩,h3,h4⟩:=Option.bind_eq_some_iff.1 h2;cases h4;have f0:=(kB h3).1.hJ fr;have f2:=aI.hJ f0;have f3:=aI.hJ ((nu T _ _ _ _ _ h1).hJ f2);obtain⟨a1,a2⟩:=Bx hT _ _ _ _ _ h1 f2 (by simp) (by simp);exact⟨vE hT f3,a2,a1,λe=>by simp at e,λ_=>⟨rfl,rfl⟩,L1 hT h3 fr⟩
theorem uz(hT:qk P T):∀(f:Nat)(p:Pg)(q:RQ)(s:Pg)(r:RQ),gu T f p q=some (s,r)->(q.fe=0->Wb P p)->r.fe=0->Wb P s
 |0,_,_,_,_,h,_=>by simp[gu]at h|f+1,p,q,s,r,h,hp=>by
  unfold gu at h;split at h;rename_i c;have yu:=hp c.1;split at h;exact uz hT f _ _ _ _ h λe=>absurd e (eL (by decide));rename_i J;split at h;rename_i d;obtain⟨⟨x1,x2⟩,h1,h2⟩:=Option.bind_eq_some_iff.1 h;exact uz hT f _ _ _ _ h2 λe=>⟨by
   have:p.bz.length≠12:=λe=>J (.inl ⟨d,e⟩);have:=yu.rl;simp;omega,yu.gl,yu.fl,w5 yu.r (RK hT h1 e),yu.g,yu.f⟩
  split at h;rename_i d;exact uz hT f _ _ _ _ h λe=>⟨yu.rl,by
   have:p.aH.length≠8:=λe=>J (.inr (.inl ⟨d,e⟩));have:=yu.gl;simp;omega,yu.fl,yu.r,w5 yu.g (LZ hT (aI.hJ e)).1,yu.f⟩
  split at h;rename_i d;obtain⟨⟨x1,x2⟩,h1,h2⟩:=Option.bind_eq_some_iff.1 h;exact uz hT f _ _ _ _ h2 λe=>⟨yu.rl,yu.gl,by
   have:p.funcs.length≠16:=λe=>J (.inr (.inr ⟨d,e⟩));have:=yu.fl;simp;omega,yu.r,yu.g,w5 yu.f (ZN hT h1 e)⟩
  exact uz hT f _ _ _ _ h λe=>absurd e (eL (by decide));cases h;exact λe=>hp e
theorem ZO(hT:qk P T){f:Nat}{x:Pg×Int×Int}(h:oN T f=some x):Wb P x.1:=by
 have h0:Wb P Ca:=⟨Nat.zero_le _,Nat.zero_le _,Nat.zero_le _,λ_ h=>(by cases h),λ_ h=>(by cases h),λ_ h=>(by cases h)⟩;unfold oN at h;obtain⟨⟨p,r⟩,h1,h2⟩:=Option.bind_eq_some_iff.1 h;dsimp only at h2;split at h2;rename_i c;cases h2;exact uz hT f _ _ _ _ h1 (λ_=>h0) c;cases h2;exact h0
end RJ
namespace Sb
open Ax Go V7 lf mG wU
def qc(n:Nat):List UInt8:=if n=0 then [] else qc (n / 10)++[UInt8.ofNat (48+n % 10)]
termination_by n
decreasing_by omega
def WW(n:Nat):List UInt8:=if n=0 then [48] else qc n
def yC(on:List UInt8)(od:Int):List UInt8:=List.replicate od.toNat 91++on++List.replicate od.toNat 93
abbrev Kb:=Nat×List UInt8
def wb(l:Nat)(x:Kb):List UInt8:=if x.1<l then 40::(x.2++[41]) else x.2
def b0(ks:List Kb):Kb:=match ks with|x::_=>x | []=>(7,[])
def b1(ks:List Kb):Kb:=match ks with|_::x::_=>x|_=>(7,[])
def By:List Kb->List UInt8
 |[]=>[]
 |x::l=>44::32::(x.2++By l)
def pQ(ks:List Kb):List UInt8:=match ks with | []=>[]|x::l=>x.2++By l
def prO(k n:Int)(nm on:List UInt8)(od:Int)(ks:List Kb):List UInt8:=
 if k=1 then WW n.toNat
 else if k=2 then (if n=1 then Ci else wV)
 else if k=3 then Cj++32::yC on od
 else if k=4 then nm
 else if k=5 then wb 7 (b0 ks)++46::nm
 else if k=6 then wb 7 (b0 ks)++91::((b1 ks).2++[93])
 else if k=7 then nm++40::(pQ ks++[41])
 else if k=8 then tR++32::on
 else if k=9 then tR++32::91::(yC on od++93::40::((b0 ks).2++[41]))
 else if k=10 then Fa++40::((b0 ks).2++[41])
 else if k=11 then Ck++[40,41]
 else if k=12 then 45::wb 6 (b0 ks)
 else if k=13 then 33::wb 6 (b0 ks)
 else wb (iG k) (b0 ks)++32::(iN k++32::wb (iG k+1) (b1 ks))
mutual
def jZ:E->List UInt8
 |.mk k n nm on od ay _ _ _=>prO k n nm on od (iH ay)
def iH:List E->List Kb
 |[]=>[]
 |e::l=>(iG e.k,jZ e)::iH l
end
theorem Ff(e:E):jZ e=prO e.k e.n e.nm e.on e.od (iH e.ay):=by
 obtain⟨k,n,nm,on,od,ay,a,ty,ref⟩:=e
 (conv=>lhs;unfold jZ)<;>rfl
def z0(es:List E):List UInt8:=match es with|e::_=>jZ e | []=>[]
def z1(es:List E):List UInt8:=match es with|_::e::_=>jZ e|_=>[]
def Bz(d:Nat):List UInt8:=List.replicate (2*d) 32
def sB(d:Nat)(k:Int)(nm on:List UInt8)(od:Int)(es:List E)(b c:List UInt8)(ce:Bool):List UInt8:=
 if k=1 then ZH++32::(nm++58::32::(yC on od++[59]))
 else if k=2 then ZI++32::(nm++58::32::(yC on od++32::61::32::(z0 es++[59])))
 else if k=3 then nm++32::61::32::(z0 es++[59])
 else if k=4 then z0 es++32::61::32::(z1 es++[59])
 else if k=5 then wIf++32::(z0 es++32::123::10::(b++(Bz d++125::(if ce then [] else 32::(yA++32::123::10::(c++(Bz d++[125])))))))
 else if k=6 then Jw++32::(z0 es++32::123::10::(b++(Bz d++[125])))
 else if k=7 then RC++((if es.isEmpty then [] else 32::z0 es)++[59])
 else if k=8 then Jx++32::(z0 es++[59])
 else z0 es++[59]
mutual
def Sc(d:Nat):Sm->List UInt8
 |.mk k nm on od es bd el _ _=>sB d k nm on od es (AD (d+1) bd) (AD (d+1) el) el.isEmpty
def AD(d:Nat):List Sm->List UInt8
 |[]=>[]
 |s::l=>Bz d++(Sc d s++10::AD d l)
end
theorem NS(d:Nat)(s:Sm):Sc d s=sB d s.k s.nm s.on s.od s.es (AD (d+1) s.bd) (AD (d+1) s.el) s.el.isEmpty:=by
 obtain⟨k,nm,on,od,es,bd,el,a,ref⟩:=s
 (conv=>lhs;unfold Sc)<;>rfl
def Di(p:PD):List UInt8:=p.name++58::32::yC p.on p.od
def AE:List PD->List UInt8
 |[]=>[]
 |p::l=>32::32::(Di p++59::10::AE l)
def PV(r:Rc):List UInt8:=No++32::(r.name++32::123::10::(AE r.bH++[125,10]))
def Sd(p:PD):List UInt8:=Ew++32::(Di p++[59,10])
def BA:List PD->List UInt8
 |[]=>[]
 |p::l=>44::32::(Di p++BA l)
def rY(l:List PD):List UInt8:=match l with | []=>[]|p::l=>Di p++BA l
def Se(f:Fc):List UInt8:=zV++32::(f.name++40::(rY f.params++41::((if f.ct then 58::32::yC f.on f.od else [])++32::123::10::(AD 1 f.body++[125,10]))))
def mw{α:Type}(g:α->List UInt8):List α->List UInt8
 |[]=>[]
 |x::l=>g x++mw g l
def RL(p:Pg):List UInt8:=mw PV p.bz++(mw Sd p.aH++mw Se p.funcs)
end Sb
