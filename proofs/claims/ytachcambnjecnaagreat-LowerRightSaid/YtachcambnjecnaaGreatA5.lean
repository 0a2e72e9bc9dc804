/- The library of this proof, part 5: an abstract interpreter of the loaded code, and its soundness. -/
import Derived.Test.YtachcambnjecnaaGreatA4
import Derived.Scope
import Derived.ChangeStays
import Derived.ChangeSame
import Derived.ChangeOld
import Derived.ChangeArms
import Derived.JoinedOf
import Derived.RowKit3
import Derived.ReadAgain
import Derived.Handed

namespace Ax
open Go
variable {S:Nat->Option aC}{P:Program}{O:jo}{wl aa:Nat}
theorem ze:∀{m:List aZ}{s e:St}{gw:List St},dD O wl aa m s=some (e,gw)->
  gw.length=m.length+1/\gw[0]?=some s/\gw[m.length]?=some e/\∀(i:Nat) so,m[i]?=some so->∃x y,gw[i]?=some x/\gw[i+1]?=some y/\evalOp O wl aa so x=some y
 |[],s,e,gw,h=>by
  simp only[dD,Option.some.injEq,Prod.mk.injEq]at h
  obtain⟨rfl,rfl⟩:=h
  exact⟨rfl,rfl,rfl,λi so h=>by simp at h⟩
 |o::m,s,e,gw,h=>by
  simp only[dD]at h
  split at h
  ·rename_i s1 y9
   split at h
   ·rename_i e' l' hr
    cases h
    obtain⟨h1,h2,h3,h4⟩:=ze hr
    refine⟨by simp[h1],rfl,by simpa using h3,λi so hi=>?_⟩
    cases i with
    |zero=>simp at hi;subst hi;exact⟨s,s1,rfl,by simpa using h2,y9⟩
    |succ i=>
     obtain⟨x,y,a1,a2,a3⟩:=h4 i so (by simpa using hi)
     exact⟨x,y,by simpa using a1,by simpa using a2,a3⟩
   ·cases h
  ·cases h
structure Xa (S:Nat->Option aC)(O:jo)(wl aa:Nat)(so:aZ)(s t:St):Prop where
 tH:∀u,u ∉ pC so->cC t.env u=cC s.env u
 agh:∀b,so.op.bW≠some b->t.bx[b]?=s.bx[b]?
 Tt:t.bx.length=s.bx.length
 Xb:so.op.nP S=false->t.st=s.st
 non:kZ s.env so.guard=some false->cC t.env=jA (cC s.env) so.dst (.val .undef)/\t.bx=s.bx/\t.st=s.st
 yes:kZ s.env so.guard=some true->∃e,act O wl aa so.op (so.args.map (FZ s.env)) s.st s.bx=some (e,t.st,t.bx)/\cC t.env=jA (iS (cC s.env) (ow so.args)) so.dst e
 wan:kZ s.env so.guard≠none
theorem agi {so:aZ}{s t:St}(hO:zd S O)(h:evalOp O wl aa so s=some t):Xa S O wl aa so s t:=by
 unfold evalOp at h
 split at h
 ·cases h
 ·rename_i hw
  cases h
  refine⟨λu hu=>?_,λ_ _=>rfl,rfl,λ_=>rfl,λ_=>⟨jv _ _ _,rfl,rfl⟩,λh=>(by rw[hw]at h;cases h),(by rw[hw];simp)⟩
  simp only[pC,List.mem_append,Option.mem_toList,not_or]at hu
  rw[jv]
  simp only[jA]
  rw[if_neg hu.1]
 ·rename_i hw
  split at h
  ·cases h
  ·rename_i e bP eR ha
   have fin:t=⟨vp (so.args.foldl kU s.env) so.dst e,eR,bP⟩->Xa S O wl aa so s t:=by
    intro ht
    subst ht
    have he:cC (vp (so.args.foldl kU s.env) so.dst e)=jA (iS (cC s.env) (ow so.args)) so.dst e:=by rw[jv,rS]
    have hb:(∀b,so.op.bW≠some b->eR[b]?=s.bx[b]?)/\eR.length=s.bx.length:=by
     obtain⟨wA,h1,h2,h3,h4,h5,h6⟩:=GN (wA:=s.bx) rfl (λ_ _=>rfl) ha
     exact⟨h6,h2⟩
    refine⟨λu hu=>?_,hb.1,hb.2,λhW=>KC hO hW ha,λh=>(by rw[hw]at h;cases h),λ_=>⟨e,ha,he⟩,(by rw[hw];simp)⟩
    simp only[pC,List.mem_append,Option.mem_toList,not_or]at hu
    show cC (vp (so.args.foldl kU s.env) so.dst e) u=_
    rw[he]
    simp only[jA,iS]
    rw[if_neg hu.1,if_neg hu.2]
   split at h
   ·cases h;exact fin rfl
   ·split at h
    ·cases h;exact fin rfl
    ·cases h
structure Text (S:Nat->Option aC)(O:jo)(wl aa:Nat)(m:List aZ)(T:Nat->St):Prop where
 one:∀(i:Nat) so,m[i]?=some so->Xa S O wl aa so (T i) (T (i+1))
def Jk (m:List aZ)(T:Nat->St)(k:Nat)(t:Nat):Option dX:=match m[k]? with
 |some so=>if t∈pC so then some (cC (T (k+1)).env t) else none
 |none=>none
def Jl (m:List aZ)(T:Nat->St)(k:Nat)(b:Nat):Option (Option (List AV)):=match m[k]? with
 |some so=>if so.op.bW=some b then some ((T (k+1)).bx[b]?) else none
 |none=>none
def Jm (S:Nat->Option aC)(m:List aZ)(T:Nat->St)(k:Nat)(_:Unit):Option an:=match m[k]? with
 |some so=>if so.op.nP S=true then some (T (k+1)).st else none
 |none=>none
abbrev vT (m:List aZ)(T:Nat->St)(D:Nat->Bool)(t:Nat):dX:=nF (cC (T 0).env) (Jk m T) D m.length t
abbrev vB (m:List aZ)(T:Nat->St)(D:Nat->Bool)(b:Nat):Option (List AV):=nF (λb=>(T 0).bx[b]?) (Jl m T) D m.length b
abbrev vS (S:Nat->Option aC)(m:List aZ)(T:Nat->St)(D:Nat->Bool):an:=nF (λ_=>(T 0).st) (Jm S m T) D m.length ()
section
variable {m:List aZ}{T:Nat->St}
theorem OB (h:Text S O wl aa m T){j:Nat}(hj:j<=m.length)(t:Nat):vT m T (λk=>decide (k<j)) t=cC (T j).env t:=by
 refine yu (st:=λk t=>cC (T k).env t) (λ_=>rfl) (λk hk x=>?_) hj t
 have hs:m[k]?=some m[k]:=List.getElem?_eq_getElem hk
 simp only[Jk,hs]
 split
 ·rfl
 ·rename_i hx;exact(h.one k _ hs).tH x hx
theorem OD (h:Text S O wl aa m T){j:Nat}(hj:j<=m.length)(b:Nat):vB m T (λk=>decide (k<j)) b=(T j).bx[b]?:=by
 refine yu (st:=λk b=>(T k).bx[b]?) (λ_=>rfl) (λk hk x=>?_) hj b
 have hs:m[k]?=some m[k]:=List.getElem?_eq_getElem hk
 simp only[Jl,hs]
 split
 ·rfl
 ·rename_i hx;exact(h.one k _ hs).agh x hx
theorem OE (h:Text S O wl aa m T){j:Nat}(hj:j<=m.length):vS S m T (λk=>decide (k<j))=(T j).st:=by
 refine yu (st:=λk (_:Unit)=>(T k).st) (λ_=>rfl) (λk hk x=>?_) hj ()
 have hs:m[k]?=some m[k]:=List.getElem?_eq_getElem hk
 simp only[Jm,hs]
 split
 ·rfl
 ·rename_i hx;exact(h.one k _ hs).Xb (by simpa using hx)
theorem KF (D:Nat->Bool):∀(N:Nat),N<=m.length->∃p,p<=N/\nF (λ_=>(T 0).st) (Jm S m T) D N ()=(T p).st/\
  (p=0\/∃q so,p=q+1/\m[q]?=some so/\D q=true/\so.op.nP S=true)/\∀(j:Nat) so,p<=j->j<N->m[j]?=some so->so.op.nP S=true->D j=false
 |0,_=>⟨0,Nat.le_refl _,rfl,.inl rfl,λj so h1 h2=>by omega⟩
 |N+1,hN=>by
  obtain⟨p,h1,h2,h3,h4⟩:=KF D N (by omega)
  have hs:m[N]?=some m[N]:=List.getElem?_eq_getElem (by omega)
  by_cases hD:D N=true/\(m[N]).op.nP S=true
  ·refine⟨N+1,Nat.le_refl _,?_,.inr ⟨N,m[N],rfl,hs,hD.1,hD.2⟩,λj so h5 h6=>by omega⟩
   simp only[nF,hD.1,Jm,hs,if_true,hD.2,Option.getD_some]
  ·refine⟨p,by omega,?_,h3,λj so h5 h6 h7 h8=>?_⟩
   ·simp only[nF]
    cases hDN:D N with
    |false=>simpa using h2
    |true=>
     have:¬(m[N]).op.nP S=true:=λh=>hD ⟨hDN,h⟩
     simp only[Jm,hs,if_true]
     rw[if_neg this]
     simpa using h2
   ·by_cases hj:j=N
    ·subst hj
     rw[hs]at h7;cases h7
     cases hDN:D j with
     |false=>rfl
     |true=>exact absurd ⟨hDN,h8⟩ hD
    ·exact h4 j so h5 (by omega) h7 h8
theorem xm (h:Text S O wl aa m T){p:Nat}:∀(d:Nat),p+d<=m.length->(∀(j:Nat) so,p<=j->j<p+d->m[j]?=some so->so.op.nP S=false)->(T (p+d)).st=(T p).st
 |0,_,_=>rfl
 |d+1,hd,hn=>by
  have hs:m[p+d]?=some m[p+d]:=List.getElem?_eq_getElem (by omega)
  have e:=(h.one (p+d) _ hs).Xb (hn (p+d) _ (by omega) (by omega) hs)
  rw[show p+(d+1)=p+d+1 by omega,e]
  exact xm h d (by omega) λj so h1 h2=>hn j so h1 (by omega)
theorem KG (S:Nat->Option aC)(m:List aZ)(p:Nat):∀(d:Nat),p+d<=m.length->(∀(j:Nat) so,p<=j->j<p+d->m[j]?=some so->so.op.nP S=false)\/
  ∃(w:Nat) (so:aZ),p<=w/\w<p+d/\m[w]?=some so/\so.op.nP S=true/\∀(j:Nat) so,p<=j->j<w->m[j]?=some so->so.op.nP S=false
 |0,_=>.inl λj so h1 h2=>by omega
 |d+1,hd=>by
  rcases KG S m p d (by omega) with h|⟨w,so,h1,h2,h3,h4,h5⟩
  ·have hs:m[p+d]?=some m[p+d]:=List.getElem?_eq_getElem (by omega)
   cases hw:(m[p+d]).op.nP S with
   |true=>exact .inr ⟨p+d,_,by omega,by omega,hs,hw,λj so a1 a2=>h j so a1 a2⟩
   |false=>
    refine .inl λj so a1 a2 a3=>?_
    by_cases hj:j=p+d
    ·subst hj;rw[hs]at a3;cases a3;exact hw
    ·exact h j so a1 (by omega) a3
  ·exact .inr ⟨w,so,h1,by omega,h3,h4,h5⟩
end
end Ax
namespace Ax
open Go
variable {S:Nat->Option aC}{P:Program}{O:jo}{wl aa n:Nat}
variable {ops:Array Oper}{m:List aZ}{bH:List (Nat×Nat)}{T:Nat->St}{xp:Option (Nat×Nat×an)}
structure Spc (S:Nat->Option aC)(O:jo)(wl aa:Nat)(m:List aZ)(bH:List (Nat×Nat))(T:Nat->St)(p q:Nat)(X:an):Prop where
 lt:p<q
 ql:q<m.length
 mem:(100000+p,q)∈bH
 wp:∀a,m[p]?=some a->a.op.nP S=true/\a.guard=none
 wq:∀a,m[q]?=some a->a.op.nP S=true/\a.guard=none
 gap:∀(j:Nat) o,p<j->j<q->m[j]?=some o->o.op.nP S=false
 un:∀i j,i<100000->(100000+i,j)∈bH->i=p/\j=q
 cl:∀k w,(k,w)∈bH->k<100000->w=p\/w=q->(100000*(k+2)+p,q)∈bH
 x1:∀a,m[q]?=some a->∀e bx eR,act O wl aa a.op (a.args.map (FZ (T q).env)) (T q).st bx=some (e,(T (q+1)).st,eR)->act O wl aa a.op (a.args.map (FZ (T q).env)) (T p).st bx=some (e,X,eR)
 x2:∀a,m[p]?=some a->∀e bx eR,act O wl aa a.op (a.args.map (FZ (T p).env)) (T p).st bx=some (e,(T (p+1)).st,eR)->act O wl aa a.op (a.args.map (FZ (T p).env)) X bx=some (e,(T (q+1)).st,eR)
 rd:∀k,(100000*(k+2)+p,q)∈bH->∀o,m[k]?=some o->cV O wl aa o (T k) (T (k+1)) X=true
structure IN (S:Nat->Option aC)(P:Program)(O:jo)(wl aa n:Nat)(ops:Array Oper)(m:List aZ)(bH:List (Nat×Nat))(T:Nat->St)(xp:Option (Nat×Nat×an)):Prop where
 dr:VT S P ops n m bH
 tx:Text S O wl aa m T
 pr:∀q w,q<100000->(q,w)∈bH->∀o,m[q]?=some o->cV O wl aa o (T q) (T (q+1)) (T w).st=true/\cV O wl aa o (T q) (T (q+1)) (T (w+1)).st=true
 sn:xp=none->∀i j,i<100000->(100000+i,j) ∉ bH
 sp:∀p q X,xp=some (p,q,X)->Spc S O wl aa m bH T p q X
 bo:∀(i:Nat) so j,m[i]?=some so->so.op.aF=some j->cP j (T 0).env=true
 pu:zd S O
theorem Ae {i j:Nat}{a b:aZ}(h:apart S bH i j a b=true):(∀t,t∈pC a->t ∉ wB b/\t ∉ pC b)/\(∀t,t∈pC b->t ∉ wB a):=by
 simp only[apart,Bool.and_eq_true,List.all_eq_true,Bool.not_eq_true',List.contains_eq_mem,decide_eq_false_iff_not]at h
 exact⟨h.1.1.1.1.1.1,h.1.1.1.1.1.2⟩
theorem EE {i j:Nat}{a b:aZ}(h:apart S bH i j a b=true):(∀x,a.op.bW=some x->b.op.bA≠some x)/\(∀x,b.op.bW=some x->a.op.bA≠some x):=by
 simp only[apart,Bool.and_eq_true]at h
 obtain⟨⟨⟨⟨⟨_,h1⟩,h2⟩,_⟩,_⟩,_⟩:=h
 refine⟨λx hx=>?_,λx hx=>?_⟩
 ·rw[hx]at h1;simpa using h1
 ·rw[hx]at h2;simpa using h2
theorem xq {i j:Nat}{a b:aZ}(h:apart S bH i j a b=true):(a.op.nP S=true/\b.op.nP S=true->(100000+i,j)∈bH)/\(a.op.Jj=true\/b.op.nP S=false\/a.op.nP S=true\/(i,j)∈bH)/\(b.op.Jj=true\/a.op.nP S=false\/b.op.nP S=true\/(j,i)∈bH):=by
 simp only[apart,Bool.and_eq_true,Bool.or_eq_true,Bool.not_eq_true',Bool.and_eq_false_iff,List.contains_eq_mem,decide_eq_true_eq]at h
 obtain⟨⟨⟨_,h3⟩,h4⟩,h5⟩:=h
 refine⟨λ⟨x,y⟩=>?_,by rcases h4 with ((h|h)|h)|h<;>simp[h],by rcases h5 with ((h|h)|h)|h<;>simp[h]⟩
 rcases h3 with (h|h)|h
 ·rw[x]at h;cases h
 ·rw[y]at h;cases h
 ·exact h
theorem VU {op:cL}{x:Nat}(h:op.bW=some x):op.bA=some x:=by
 cases op<;>simp[cL.bW]at h<;>simp[cL.bA,h]
structure CM (ops:Array Oper)(m:List aZ)(D:Nat->Bool)(k:Nat)(o:Oper)(so:aZ):Prop where
 down:Down ops D
 ho:ops[k]?=some o
 hs:m[k]?=some so
 pre:∀p∈mO o,D p=true
 new:D k=false
theorem CM.apart (hR:IN S P O wl aa n ops m bH T xp){D:Nat->Bool}{k:Nat}{o:Oper}{so:aZ}(h:CM ops m D k o so){j:Nat}{b:aZ}(hj:m[j]?=some b)(hd:D j≠decide (j<k)) :
  (j<k/\D j=false/\apart S bH j k b so=true)\/(k<j/\D j=true/\apart S bH k j so b=true):=by
 rcases Nat.lt_trichotomy j k with h1|h1|h1
 ·have:D j=false:=by rw[decide_eq_true h1]at hd;simpa using hd
  exact .inl ⟨h1,this,hR.dr.apA D h.down k o h.ho h.pre j b so h1 this hj h.hs⟩
 ·subst h1
  exact absurd (h.new.trans (by simp)) hd
 ·have:D j=true:=by rw[decide_eq_false (by omega)]at hd;simpa using hd
  exact .inr ⟨h1,this,hR.dr.apB D h.down k j so b h1 h.new this h.hs hj⟩
section
variable {D:Nat->Bool}{k:Nat}{o:Oper}{so:aZ}
theorem CM.lt (h:CM ops m D k o so):k<m.length:=(List.getElem?_eq_some_iff.1 h.hs).1
theorem CM.slot (hR:IN S P O wl aa n ops m bH T xp)(h:CM ops m D k o so){t:Nat}(ht:t∈pC so\/t∈wB so):vT m T D t=cC (T k).env t:=by
 rw[<-OB hR.tx (Nat.le_of_lt h.lt)]
 refine lB λj hj hd=>?_
 have hb:m[j]?=some m[j]:=List.getElem?_eq_getElem hj
 simp only[Jk,hb]
 rw[if_neg]
 intro Xc
 rcases h.apart hR hb hd with⟨_,_,ha⟩|⟨_,_,ha⟩
 ·have:=(Ae ha).1 t Xc
  rcases ht with ht|ht
  ·exact this.2 ht
  ·exact this.1 ht
 ·rcases ht with ht|ht
  ·exact((Ae ha).1 t ht).2 Xc
  ·exact(Ae ha).2 t Xc ht
theorem CM.box (hR:IN S P O wl aa n ops m bH T xp)(h:CM ops m D k o so){b:Nat}(hb:so.op.bA=some b):vB m T D b=(T k).bx[b]?:=by
 rw[<-OD hR.tx (Nat.le_of_lt h.lt)]
 refine lB λj hj hd=>?_
 have hm:m[j]?=some m[j]:=List.getElem?_eq_getElem hj
 simp only[Jl,hm]
 rw[if_neg]
 intro hw
 rcases h.apart hR hm hd with⟨_,_,ha⟩|⟨_,_,ha⟩
 ·exact(EE ha).1 b hw hb
 ·exact(EE ha).2 b hw hb
def vX (S:Nat->Option aC)(m:List aZ)(T:Nat->St)(xp:Option (Nat×Nat×an))(D:Nat->Bool):an:=match xp with
 |some (p,q,X)=>if D q && !D p then X else vS S m T D
 |none=>vS S m T D
theorem pD {D:Nat->Bool}(h:∀p q X,xp=some (p,q,X)->D q=true->D p=true):vX S m T xp D=vS S m T D:=by
 unfold vX
 cases xp with
 |none=>rfl
 |some x=>
  obtain⟨p,q,X⟩:=x
  simp only
  rw[if_neg]
  intro hc
  simp only[Bool.and_eq_true,Bool.not_eq_true']at hc
  rw[h p q X rfl hc.1]at hc;cases hc.2
theorem Bs {D:Nat->Bool}{p q:Nat}{X:an}(hx:xp=some (p,q,X))(h1:D q=true)(h2:D p=false):vX S m T xp D=X:=by
 unfold vX
 rw[hx]
 simp[h1,h2]
theorem IN.two (hR:IN S P O wl aa n ops m bH T xp){i j:Nat}{a b:aZ}(hi:m[i]?=some a)(h:apart S bH i j a b=true)(ha:a.op.nP S=true)(hb:b.op.nP S=true):∃X,xp=some (i,j,X):=by
 have hm:=(xq h).1 ⟨ha,hb⟩
 have oM:i<100000:=Nat.lt_trans (List.getElem?_eq_some_iff.1 hi).1 hR.dr.small
 cases hx:xp with
 |none=>exact absurd hm (hR.sn hx i j oM)
 |some x=>
  obtain⟨p,q,X⟩:=x
  obtain⟨rfl,rfl⟩:=(hR.sp p q X hx).un i j oM hm
  exact⟨X,rfl⟩
theorem CM.OF (hR:IN S P O wl aa n ops m bH T xp)(h:CM ops m D k o so)(hw:so.op.nP S=true){j:Nat}{b:aZ}(hj:m[j]?=some b)(hb:b.op.nP S=true)(hd:D j≠decide (j<k)) :
  (j<k/\D j=false/\∃X,xp=some (j,k,X))\/(k<j/\D j=true/\∃X,xp=some (k,j,X)):=by
 rcases h.apart hR hj hd with⟨h1,h2,h3⟩|⟨h1,h2,h3⟩
 ·exact .inl ⟨h1,h2,hR.two hj h3 hb hw⟩
 ·exact .inr ⟨h1,h2,hR.two h.hs h3 hw hb⟩
theorem IN.at (hR:IN S P O wl aa n ops m bH T xp){D:Nat->Bool}{t:Nat}(ht:t<=m.length)(h:∀(j:Nat) b,m[j]?=some b->b.op.nP S=true->D j=decide (j<t)):vS S m T D=(T t).st:=by
 rw[<-OE hR.tx ht]
 refine lB λj hj hd=>?_
 have hm:m[j]?=some m[j]:=List.getElem?_eq_getElem hj
 simp only[Jm,hm]
 rw[if_neg]
 intro hjw
 exact hd (h j _ hm hjw)
def kC (D:Nat->Bool)(k:Nat):Nat->Bool:=λj=>if j=k then true else D j
theorem ox {j:Nat}(h:j≠k):kC D k j=D j:=by simp[kC,h]
theorem xu:kC D k k=true:=by simp[kC]
theorem CM.write (hR:IN S P O wl aa n ops m bH T xp)(h:CM ops m D k o so)(hw:so.op.nP S=true) :
  (vX S m T xp D=(T k).st/\vX S m T xp (kC D k)=(T (k+1)).st)\/
  (∃p X,xp=some (p,k,X)/\vX S m T xp D=(T p).st/\vX S m T xp (kC D k)=X)\/
  (∃q X,xp=some (k,q,X)/\vX S m T xp D=X/\vX S m T xp (kC D k)=(T (q+1)).st):=by
 have hk:=h.lt
 have plain:(∀(j:Nat) b,m[j]?=some b->b.op.nP S=true->D j=decide (j<k))->vS S m T D=(T k).st/\vS S m T (kC D k)=(T (k+1)).st:=λiU=>by
  refine⟨hR.at (Nat.le_of_lt hk) iU,hR.at hk λj b hj hb=>?_⟩
  by_cases tg:j=k
  ·subst tg;rw[xu];simp
  ·rw[ox tg,iU j b hj hb]
   exact decide_eq_decide.2 ⟨λh=>by omega,λh=>by omega⟩
 cases hx:xp with
 |none=>
  refine .inl ?_
  have:=plain λj b hj hb=>Classical.byContradiction λhd=>by
   rcases h.OF hR hw hj hb hd with⟨_,_,X,e⟩|⟨_,_,X,e⟩<;>rw[hx]at e<;>cases e
  exact this
 |some x=>
  obtain⟨p,q,X⟩:=x
  have sp:=hR.sp p q X hx
  have OH:q<m.length:=sp.ql
  have LX:p<m.length:=Nat.lt_trans sp.lt OH
  have Tr:m[p]?=some m[p]:=List.getElem?_eq_getElem LX
  have hqm:m[q]?=some m[q]:=List.getElem?_eq_getElem OH
  have hpw:=(sp.wp _ Tr).1
  have hqw:=(sp.wq _ hqm).1
  have Sl:=sp.lt
  rw[<-hx]
  have other:∀(j:Nat) b,m[j]?=some b->b.op.nP S=true->D j≠decide (j<k)->(j=p/\k=q/\D p=false)\/(k=p/\j=q/\D q=true):=λj b hj hb hd=>by
   rcases h.OF hR hw hj hb hd with⟨_,g,X',e⟩|⟨_,g,X',e⟩
   ·rw[hx]at e;cases e;exact .inl ⟨rfl,rfl,g⟩
   ·rw[hx]at e;cases e;exact .inr ⟨rfl,rfl,g⟩
  by_cases Tu:k=q
  ·subst Tu
   cases hDp:D p with
   |true=>
    refine .inl ?_
    have iU:∀(j:Nat) b,m[j]?=some b->b.op.nP S=true->D j=decide (j<k):=λj b hj hb=>Classical.byContradiction λhd=>by
     rcases other j b hj hb hd with⟨_,_,g⟩|⟨g,_,_⟩
     ·rw[hDp]at g;cases g
     ·omega
    rw[pD λp' q' X' e hq=>?_,pD λp' q' X' e hq=>?_]
    ·exact plain iU
    ·rw[hx]at e;cases e;rw[ox (by omega)];exact hDp
    ·rw[hx]at e;cases e;exact hDp
   |false=>
    refine .inr (.inl ⟨p,X,hx,?_,?_⟩)
    ·rw[pD λp' q' X' e hq=>by rw[hx]at e;cases e;rw[h.new]at hq;cases hq]
     refine hR.at (by omega) λj b hj hb=>?_
     by_cases hjp:j=p
     ·subst hjp;rw[hDp];simp
     ·by_cases tg:j=k
      ·subst tg;rw[h.new];symm;rw[decide_eq_false_iff_not];omega
      ·by_cases GO:p<j/\j<k
       ·have:=sp.gap j b GO.1 GO.2 hj
        rw[this]at hb;cases hb
       ·have:D j=decide (j<k):=Classical.byContradiction λhd=>by
         rcases other j b hj hb hd with⟨g,_,_⟩|⟨g,_,_⟩
         ·exact hjp g
         ·omega
        rw[this]
        exact decide_eq_decide.2 ⟨λh=>by omega,λh=>by omega⟩
    ·exact Bs hx xu (by rw[ox (by omega)];exact hDp)
  ·by_cases Z7:k=p
   ·subst Z7
    cases hDq:D q with
    |false=>
     refine .inl ?_
     have iU:∀(j:Nat) b,m[j]?=some b->b.op.nP S=true->D j=decide (j<k):=λj b hj hb=>Classical.byContradiction λhd=>by
      rcases other j b hj hb hd with⟨_,g,_⟩|⟨_,_,g⟩
      ·exact Tu g
      ·rw[hDq]at g;cases g
     rw[pD λp' q' X' e hq=>?_,pD λp' q' X' e hq=>?_]
     ·exact plain iU
     ·rw[hx]at e;cases e;exact xu
     ·rw[hx]at e;cases e;rw[hDq]at hq;cases hq
    |true=>
     refine .inr (.inr ⟨q,X,hx,Bs hx hDq h.new,?_⟩)
     rw[pD λp' q' X' e hq=>by rw[hx]at e;cases e;exact xu]
     refine hR.at sp.ql λj b hj hb=>?_
     by_cases tg:j=k
     ·subst tg;rw[xu];symm;rw[decide_eq_true_iff];omega
     ·rw[ox tg]
      by_cases hjq:j=q
      ·subst hjq;rw[hDq];simp
      ·by_cases GO:k<j/\j<q
       ·have:=sp.gap j b GO.1 GO.2 hj
        rw[this]at hb;cases hb
       ·have:D j=decide (j<k):=Classical.byContradiction λhd=>by
         rcases other j b hj hb hd with⟨g,_,_⟩|⟨_,g,_⟩
         ·exact tg g
         ·exact hjq g
        rw[this]
        exact decide_eq_decide.2 ⟨λh=>by omega,λh=>by omega⟩
   ·refine .inl ?_
    have iU:∀(j:Nat) b,m[j]?=some b->b.op.nP S=true->D j=decide (j<k):=λj b hj hb=>Classical.byContradiction λhd=>by
     rcases other j b hj hb hd with⟨_,g,_⟩|⟨g,_,_⟩
     ·exact Tu g
     ·exact Z7 g
    have abL:D q=true->D p=true:=λhq=>Classical.byContradiction λhp=>by
     have hp':D p=false:=by simpa using hp
     have g1:=iU p _ Tr hpw
     have g2:=iU q _ hqm hqw
     rw[hp']at g1;rw[hq]at g2
     have g1:=of_decide_eq_false g1.symm
     have g2:=of_decide_eq_true g2.symm
     omega
    rw[pD λp' q' X' e hq=>?_,pD λp' q' X' e hq=>?_]
    ·exact plain iU
    ·rw[hx]at e;cases e
     rw[ox (λe=>Tu e.symm)]at hq;rw[ox (λe=>Z7 e.symm)];exact abL hq
    ·rw[hx]at e;cases e;exact abL hq
theorem CM.still (h:CM ops m D k o so)(hR:IN S P O wl aa n ops m bH T xp)(hw:so.op.nP S=false):vX S m T xp (kC D k)=vX S m T xp D:=by
 have e:vS S m T (kC D k)=vS S m T D:=by
  refine lB λj hj hd=>?_
  by_cases tg:j=k
  ·subst tg;simp[Jm,h.hs,hw]
  ·rw[ox tg]at hd;exact absurd rfl hd
 cases hx:xp with
 |none=>simp only[vX];exact e
 |some x=>
  obtain⟨p,q,X⟩:=x
  have sp:=hR.sp p q X hx
  have h1:p≠k:=λhe=>by subst he;have:=(sp.wp _ h.hs).1;rw[hw]at this;cases this
  have h2:q≠k:=λhe=>by subst he;have:=(sp.wq _ h.hs).1;rw[hw]at this;cases this
  simp only[vX,ox h1,ox h2,e]
theorem CM.seen (hR:IN S P O wl aa n ops m bH T xp)(h:CM ops m D k o so)(hn:so.op.Jj=false)(hw:so.op.nP S=false) :
  vX S m T xp D=(T k).st\/cV O wl aa so (T k) (T (k+1)) (vX S m T xp D)=true:=by
 have s8:k<100000:=Nat.lt_trans h.lt hR.dr.small
 by_cases Sq:∃p q X,xp=some (p,q,X)/\D q=true/\D p=false
 ·obtain⟨p,q,X,hx,hq,hp⟩:=Sq
  right
  have sp:=hR.sp p q X hx
  rw[Bs hx hq hp]
  refine sp.rd k ?_ so h.hs
  have OH:q<m.length:=sp.ql
  have LX:p<m.length:=Nat.lt_trans sp.lt OH
  have Tr:m[p]?=some m[p]:=List.getElem?_eq_getElem LX
  have hqm:m[q]?=some m[q]:=List.getElem?_eq_getElem OH
  rcases Nat.lt_trichotomy k q with Tu|Tu|Tu
  ·have ha:=hR.dr.apB D h.down k q so _ Tu h.new hq h.hs hqm
   rcases (xq ha).2.1 with e|e|e|e
   ·rw[hn]at e;cases e
   ·rw[(sp.wq _ hqm).1]at e;cases e
   ·rw[hw]at e;cases e
   ·exact sp.cl k q e s8 (.inr rfl)
  ·subst Tu;rw[h.new]at hq;cases hq
  ·have ha:=hR.dr.apA D h.down k o h.ho h.pre p _ so (by have:=sp.lt;omega) hp Tr h.hs
   rcases (xq ha).2.2 with e|e|e|e
   ·rw[hn]at e;cases e
   ·rw[(sp.wp _ Tr).1]at e;cases e
   ·rw[hw]at e;cases e
   ·exact sp.cl k p e s8 (.inl rfl)
 rw[pD λp q X hx hq=>Classical.byContradiction λhp=>Sq ⟨p,q,X,hx,hq,by simpa using hp⟩]
 obtain⟨p,h1,h2,h3,h4⟩:=KF (S:=S) (m:=m) (T:=T) D m.length (Nat.le_refl _)
 have hv:vS S m T D=(T p).st:=h2
 have hk:=h.lt
 have pair:∀(w:Nat) b,m[w]?=some b->b.op.nP S=true->D w≠decide (w<k)->(k,w)∈bH:=by
  intro w b hb hbw hd
  rcases h.apart hR hb hd with⟨_,_,ha⟩|⟨_,_,ha⟩
  ·rcases (xq ha).2.2 with e|e|e|e
   ·rw[hn]at e;cases e
   ·rw[hbw]at e;cases e
   ·rw[hw]at e;cases e
   ·exact e
  ·rcases (xq ha).2.1 with e|e|e|e
   ·rw[hn]at e;cases e
   ·rw[hbw]at e;cases e
   ·rw[hw]at e;cases e
   ·exact e
 by_cases hpk:p<=k
 ·obtain⟨d,hd⟩:∃d,k=p+d:=⟨k-p,by omega⟩
  rcases KG S m p d (by omega) with hg|⟨w,b,g1,g2,g3,g4,g5⟩
  ·left
   rw[hv,hd]
   exact(xm hR.tx d (by omega) hg).symm
  ·right
   have hDw:=h4 w b g1 (by have:=(List.getElem?_eq_some_iff.1 g3).1;omega) g3 g4
   have hp:=pair w b g3 g4 (by rw[hDw,decide_eq_true (by omega)];simp)
   have e:(T p).st=(T w).st:=by
    obtain⟨d',C3⟩:∃d,w=p+d:=⟨w-p,by omega⟩
    rw[C3]
    exact(xm hR.tx d' (by have:=(List.getElem?_eq_some_iff.1 g3).1;omega) λj so a1 a2=>g5 j so a1 (by omega)).symm
   rw[hv,e]
   exact(hR.pr k w s8 hp so h.hs).1
 ·right
  rcases h3 with h3|⟨q,b,rfl,g1,g2,g3⟩
  ·omega
  ·have hp:=pair q b g1 g3 (by
    by_cases hq:q=k
    ·subst hq;rw[h.new]at g2;cases g2
    ·rw[g2,decide_eq_false (by omega)];simp)
   rw[hv]
   exact(hR.pr k q s8 hp so h.hs).2
theorem CM.VV (hR:IN S P O wl aa n ops m bH T xp)(h:CM ops m D k o so)(t:Nat):vT m T (kC D k) t=if t∈pC so then cC (T (k+1)).env t else vT m T D t:=by
 have:=GJ (init:=cC (T 0).env) (wN:=Jk m T) (D:=D) (D':=kC D k) (x:=t) (j:=k) h.lt h.new (λj=>rfl) λj h1 h2 h3 h4=>by
  have hb:m[j]?=some m[j]:=List.getElem?_eq_getElem h2
  have ha:=hR.dr.apB D h.down k j so _ h1 h.new h3 h.hs hb
  simp only[Jk,h.hs]at h4
  simp only[Jk,hb]
  rw[if_neg]
  intro Xc
  by_cases ht:t∈pC so
  ·exact((Ae ha).1 t ht).2 Xc
  ·rw[if_neg ht]at h4;exact h4 rfl
 refine this.trans ?_
 simp only[Jk,h.hs]
 split
 ·rfl
 ·rfl
theorem CM.VX (hR:IN S P O wl aa n ops m bH T xp)(h:CM ops m D k o so)(b:Nat):vB m T (kC D k) b=if so.op.bW=some b then (T (k+1)).bx[b]? else vB m T D b:=by
 have:=GJ (init:=λb=>(T 0).bx[b]?) (wN:=Jl m T) (D:=D) (D':=kC D k) (x:=b) (j:=k) h.lt h.new (λj=>rfl) λj h1 h2 h3 h4=>by
  have hb:m[j]?=some m[j]:=List.getElem?_eq_getElem h2
  have ha:=hR.dr.apB D h.down k j so _ h1 h.new h3 h.hs hb
  simp only[Jl,h.hs]at h4
  simp only[Jl,hb]
  rw[if_neg]
  intro Xc
  by_cases ht:so.op.bW=some b
  ·exact(EE ha).1 b ht (VU Xc)
  ·rw[if_neg ht]at h4;exact h4 rfl
 refine this.trans ?_
 simp only[Jl,h.hs]
 split
 ·rfl
 ·rfl
end
end Ax
namespace Ax
open Go
variable {S:Nat->Option aC}{P:Program}{O:jo}{wl aa n:Nat}
variable {ops:Array Oper}{m:List aZ}{bH:List (Nat×Nat)}{T:Nat->St}{xp:Option (Nat×Nat×an)}
variable {w0 w w':World}{G0 G G':aM}{β fQ:List k8}{A0:Nat->Nat}{a:Act}{bx:aX}
structure At (S:Nat->Option aC)(n:Nat)(m:List aZ)(T:Nat->St)(xp:Option (Nat×Nat×an))(w0:World)(G0:aM)(A0:Nat->Nat)(D:Nat->Bool)(w:World)(G:aM)(β:List k8)(a:Act)(bx:aX):Prop where
 fs:FS w G β a (vT m T D) bx (vX S m T xp D) n
 mv:Mv w0 G0 A0 w G (sQ β a (vT m T D) bx (vX S m T xp D) G n)
 bb:∀b,bx[b]?=vB m T D b
 bl:bx.length=(T 0).bx.length
 fp:∀(i:Nat) so j,m[i]?=some so->so.op.aF=some j->D i=false->∀t,(vT m T D t).ny j=true
theorem Text.Tt (h:Text S O wl aa m T):∀{j:Nat},j<=m.length->(T j).bx.length=(T 0).bx.length
 |0,_=>rfl
 |j+1,hj=>by
  have hs:m[j]?=some m[j]:=List.getElem?_eq_getElem (by omega)
  rw[(h.one j _ hs).Tt,h.Tt (by omega)]
theorem Jn {e f:dX}(h:e.same f=true):e=f:=by
 cases e<;>cases f<;>simp[dX.same]at h
 ·rfl
 ·rw[Ej _ _ h]
 ·obtain⟨rfl,rfl⟩:=h;rfl
theorem Jo {op:cL}(h:op.Jj=false):op.bA=none:=by
 cases op<;>simp[cL.Jj,cL.bA]at h ⊢
theorem Mg {η:Nat->dX}{j:Nat}(h:∀t,(η t).ny j=true)(s:Src):(x8 η s).ny j=true:=by
 cases s with
 |const a=>rfl
 |tmp t mv=>
  cases mv with
  |true=>exact h t
  |false=>
   have:=h t
   simp only[x8]
   cases he:η t with
   |none=>rfl
   |val v=>rfl
   |fp i k=>rw[he]at this;exact this
theorem yw {η NB:Nat->dX}:∀{l:List Src},(∀t∈Tq l,η t=NB t)->l.map (x8 η)=l.map (x8 NB)
 |[],_=>rfl
 |.tmp t mv::l,h=>by
  simp only[List.map_cons]
  rw[yw (l:=l) λu hu=>h u (List.mem_cons_of_mem _ hu)]
  have:=h t List.mem_cons_self
  cases mv<;>simp only[x8,this]
 |.const a::l,h=>by
  simp only[List.map_cons]
  rw[yw (l:=l) λu hu=>h u hu]
  rfl
theorem Tv {Q:Exit->Act->World->Prop}(hR:IN S P O wl aa n ops m bH T xp)(hO:jg S P O){D:Nat->Bool}{k:Nat}{o:Oper}{so:aZ}(h:CM ops m D k o so)(hA:At S n m T xp w0 G0 A0 D w G β a bx){K:Act->World->Prop}
  (hK:∀w' G' fQ a' eR,At S n m T xp w0 G0 A0 (kC D k) w' G' fQ a' eR->K a' w'):wpOp P ops Q k K a w:=by
 have one:=hR.tx.one k so h.hs
 have hwe:rR (vT m T D) so.guard=kZ (T k).env so.guard:=by
  rw[Dy]
  cases hg:so.guard with
  |none=>rfl
  |some x=>
   obtain⟨t,b⟩:=x
   have:=h.slot hR (t:=t) (.inr (by simp[wB,hg]))
   simp only[rR,this]
 obtain⟨b,hb⟩:∃b,kZ (T k).env so.guard=some b:=by
  cases hw:kZ (T k).env so.guard with
  |none=>exact absurd hw one.wan
  |some b=>exact⟨b,rfl⟩
 refine KB (wl:=wl) (aa:=aa) h.ho (hR.dr.get k o so h.ho h.hs) hO hA.fs hA.mv.one (hwe.trans hb) (λhbf a' f1 f2=>?_) (λVY=>?_)
 ·subst hbf
  obtain⟨n1,n2,n3⟩:=one.non hb
  have e1:jA (vT m T D) so.dst (.val .undef)=vT m T (kC D k):=by
   funext t
   rw[h.VV hR]
   split
   ·rename_i ht
    rw[n1]
    simp only[jA]
    split
    ·rfl
    ·exact h.slot hR (.inl ht)
   ·rename_i ht
    simp only[pC,List.mem_append,Option.mem_toList,not_or]at ht
    simp only[jA]
    rw[if_neg ht.1]
  have e2:vX S m T xp (kC D k)=vX S m T xp D:=by
   by_cases hw:so.op.nP S=true
   ·rcases h.write hR hw with⟨e1,e2⟩|⟨p,X,hx,_⟩|⟨q,X,hx,_⟩
    ·rw[e1,e2,n3]
    ·have:=(hR.sp p k X hx).wq so h.hs
     rw[this.2]at hb;cases hb
    ·have:=(hR.sp k q X hx).wp so h.hs
     rw[this.2]at hb;cases hb
   ·exact h.still hR (by simpa using hw)
  rw[e1,<-e2]at f1
  rw[e1,<-e2]at f2
  refine hK w G β a' bx ⟨f1,?_,λx=>?_,hA.bl,λi si j hi hj hD t=>?_⟩
  ·rw[e2]at f2 ⊢
   exact hA.mv.trans f2
  ·rw[h.VX hR,hA.bb]
   split
   ·rename_i hx;rw[n2];exact h.box hR (VU hx)
   ·rfl
  ·have iQ:i≠k/\D i=false:=by
    unfold kC at hD
    by_cases Tw:i=k
    ·rw[if_pos Tw]at hD;cases hD
    ·rw[if_neg Tw]at hD;exact⟨Tw,hD⟩
   rw[<-e1]
   simp only[jA]
   split
   ·rfl
   ·exact hA.fp i si j hi hj iQ.2 t
 ·subst VY
  obtain⟨e,ha,y2⟩:=one.yes hb
  have vH:so.args.map (FZ (T k).env)=so.args.map (x8 (vT m T D)):=by
   rw[List.map_congr_left (g:=x8 (cC (T k).env)) λx _=>Ac _ x]
   exact(yw λt ht=>h.slot hR (.inr (by simp[wB,ht]))).symm
  rw[vH]at ha
  have Xd:act O wl aa so.op (so.args.map (x8 (vT m T D))) (vX S m T xp D) (T k).bx=some (e,vX S m T xp (kC D k),(T (k+1)).bx):=by
   by_cases hw:so.op.nP S=true
   ·rcases h.write hR hw with⟨e1,e2⟩|⟨p,X,hx,e1,e2⟩|⟨q,X,hx,e1,e2⟩
    ·rw[e1,e2];exact ha
    ·rw[e1,e2,<-vH]
     rw[<-vH]at ha
     exact(hR.sp p k X hx).x1 so h.hs _ _ _ ha
    ·rw[e1,e2,<-vH]
     rw[<-vH]at ha
     exact(hR.sp k q X hx).x2 so h.hs _ _ _ ha
   ·have DC:so.op.nP S=false:=by simpa using hw
    rw[h.still hR DC]
    have fm:=one.Xb DC
    by_cases hn:so.op.Jj=true
    ·exact To hn _ ha
    ·have Oq:so.op.Jj=false:=by simpa using hn
     rcases h.seen hR Oq DC with hs|hs
     ·rw[hs];rw[fm]at ha;exact ha
     ·unfold cV at hs
      rw[hb]at hs
      simp only at hs
      rw[vH]at hs
      split at hs
      ·rename_i e' bP eR Jp
       have agl:=KC hR.pu DC Jp
       subst agl
       have Sr:=Jo Oq
       obtain⟨rfl,_⟩:=ED Sr (T k).bx Jp
       obtain⟨hbx,_⟩:=ED Sr (T k).bx ha
       rw[hbx]
       split at hs
       ·rename_i d hd
        have:=Jn hs
        rw[y2]at this
        simp only[jA,hd,if_true]at this
        subst this
        exact Jp
       ·cases hs
      ·cases hs
  obtain⟨wA,b1,b2,b3,b4,b5,_⟩:=GN (wA:=bx) (by rw[hA.bl,hR.tx.Tt (Nat.le_of_lt h.lt)]) (λb hb=>by rw[hA.bb];exact h.box hR hb) Xd
  refine⟨e,vX S m T xp (kC D k),wA,b1,λj hj t _ _=>hA.fp k so j h.hs hj h.new t,λw' G' fQ a' f1 f2=>?_⟩
  have e1:jA (iS (vT m T D) (ow so.args)) so.dst e=vT m T (kC D k):=by
   funext t
   rw[h.VV hR]
   split
   ·rename_i ht
    rw[y2]
    simp only[jA,iS]
    split
    ·rfl
    ·split
     ·rfl
     ·exact h.slot hR (.inl ht)
   ·rename_i ht
    simp only[pC,List.mem_append,Option.mem_toList,not_or]at ht
    simp only[jA,iS]
    rw[if_neg ht.1,if_neg ht.2]
  rw[e1]at f1 f2
  refine hK w' G' fQ a' wA ⟨f1,hA.mv.trans f2,λx=>?_,b3.trans hA.bl,λi si j hi hj hD t=>?_⟩
  ·rw[h.VX hR]
   split
   ·rename_i hx;exact b4 x hx
   ·rename_i hx;rw[b5 x hx,hA.bb]
  ·have iQ:i≠k/\D i=false:=by
    unfold kC at hD
    by_cases Tw:i=k
    ·rw[if_pos Tw]at hD;cases hD
    ·rw[if_neg Tw]at hD;exact⟨Tw,hD⟩
   rw[<-e1]
   simp only[jA,iS]
   split
   ·refine W7 b1 (λx hx=>?_) λhn=>?_
    ·obtain⟨s,_,rfl⟩:=List.mem_map.1 hx
     exact Mg (λt=>hA.fp i si j hi hj iQ.2 t) s
    ·rcases Nat.lt_or_gt_of_ne iQ.1 with hl|hl
     ·exact hR.dr.boxes i k si so j hl hi h.hs hj hn
     ·exact hR.dr.boxes k i so si j hl h.hs hi hn hj
   ·split
    ·rfl
    ·exact hA.fp i si j hi hj iQ.2 t
def g8 (eE:Array Bool):Nat->Bool:=λk=>eE.getD k false
theorem OI {Q:Exit->Act->World->Prop}(hR:IN S P O wl aa n ops m bH T xp)(hO:jg S P O)
  (hQ:∀w' G' fQ a' eR D,(∀k,k<m.length->D k=true)->At S n m T xp w0 G0 A0 D w' G' fQ a' eR->Q .normal a' w') :
  ∀(fuel:Nat) (eE:Array Bool) (a:Act) (w:World) (G:aM) (β:List k8) (bx:aX),eE.size=ops.size->Down ops (g8 eE)->fP (λk=>if g8 eE k then 0 else 1) ops.size<=fuel->
   At S n m T xp w0 G0 A0 (g8 eE) w G β a bx->wpAny P .any ops Q fuel eE a w:=by
 have Mh:∀(eE:Array Bool) (a:Act) (w:World) (G:aM) (β:List k8) (bx:aX),eE.size=ops.size->At S n m T xp w0 G0 A0 (g8 eE) w G β a bx->Region.ready .any ops eE=[]->Q .normal a w:=by
  intro eE a w G β bx dZ hA hr
  refine hQ w G β a bx _ (λk=>?_) hA
  induction k using Nat.strongRecOn with
  |_ k ih=>
   intro hk
   cases hd:g8 eE k with
   |true=>rfl
   |false=>
    exfalso
    rw[hR.dr.len]at hk
    have ho:ops[k]?=some ops[k]:=by simp[hk]
    have:k∈Region.ready .any ops eE:=by
     rw[mem_ready]
     refine⟨?_,ops[k],ho,λe he hb=>?_⟩
     ·have qL:k<eE.size:=by omega
      simp only[g8,Array.getD,qL,dif_pos]at hd ⊢
      exact hd
     ·have hp:e.on∈mO ops[k]:=by
       unfold mO
       exact List.mem_map.2 ⟨e,List.mem_filter.2 ⟨by simpa using he,hb⟩,rfl⟩
      have aV:=hR.dr.lt k ops[k] ho e.on hp
      exact ih e.on aV (by rw[hR.dr.len];omega)
    rw[hr]at this
    cases this
 intro fuel
 induction fuel with
 |zero=>
  intro eE a w G β bx dZ hD hf hA
  have iU:∀k,k<ops.size->g8 eE k=true:=λk hk=>by
   have:=tP (f:=λk=>if g8 eE k then 0 else 1) hk
   cases hd:g8 eE k with
   |true=>rfl
   |false=>simp only[hd,Bool.false_eq_true,if_false]at this;omega
  have hr:Region.ready .any ops eE=[]:=by
   rw[List.eq_nil_iff_forall_not_mem]
   intro j hj
   rw[mem_ready]at hj
   obtain⟨h1,o,ho,_⟩:=hj
   have hk:=(Array.getElem?_eq_some_iff.1 ho).1
   have h2:=iU j hk
   have qL:j<eE.size:=by omega
   simp only[g8,Array.getD,qL,dif_pos]at h1 h2
   rw[h1]at h2;cases h2
  exact⟨hr,Mh eE a w G β bx dZ hA hr⟩
 |succ fuel ih=>
  intro eE a w G β bx dZ hD hf hA
  refine⟨Mh eE a w G β bx dZ hA,λi hi=>?_⟩
  rw[mem_ready]at hi
  obtain⟨h1,o,ho,h3⟩:=hi
  have hk:=(Array.getElem?_eq_some_iff.1 ho).1
  have hkm:i<m.length:=by rw[hR.dr.len];exact hk
  have hs:m[i]?=some m[i]:=List.getElem?_eq_getElem hkm
  have qL:i<eE.size:=by omega
  have ov:g8 eE i=false:=by
   simp only[g8,Array.getD,qL,dif_pos]at h1 ⊢
   exact h1
  have OJ:∀p∈mO o,g8 eE p=true:=by
   intro p hp
   unfold mO at hp
   obtain⟨e,he,rfl⟩:=List.mem_map.1 hp
   obtain⟨he1,he2⟩:=List.mem_filter.1 he
   exact h3 e (by simpa using he1) he2
  have agm:CM ops m (g8 eE) i o m[i]:=⟨hD,ho,hs,OJ,ov⟩
  have KH:g8 (eE.setIfInBounds i true)=kC (g8 eE) i:=by
   funext j
   by_cases hj:j=i
   ·subst hj
    simp[g8,kC,qL]
   ·simp[g8,kC,hj,show ¬i=j from λe=>hj e.symm]
  refine Tv hR hO agm hA λw' G' fQ a' eR GC=>?_
  rw[<-KH]at GC
  refine ih _ a' w' G' fQ eR (by simp[dZ]) ?_ ?_ GC
  ·intro j oj hoj hj p hp
   rw[KH]at hj ⊢
   unfold kC at hj ⊢
   by_cases hji:j=i
   ·subst hji
    rw[ho]at hoj;cases hoj
    split
    ·rfl
    ·exact OJ p hp
   ·rw[if_neg hji]at hj
    split
    ·rfl
    ·exact hD j oj hoj hj p hp
  ·have h5:=qT (f:=λk=>if g8 (eE.setIfInBounds i true) k then 0 else 1) (g:=λk=>if g8 eE k then 0 else 1) (d:=i) hk λt ht=>by
    rw[KH];simp[kC,ht]
   have e1:g8 (eE.setIfInBounds i true) i=true:=by rw[KH];simp[kC]
   simp only[e1,ov,if_true,Bool.false_eq_true,if_false]at h5
   omega
theorem Jq {wl aa:Nat}{st bP:an}{i v x y:Nat}{cs:List AV}(h:dL wl aa st (.ptr i v x y) cs=some bP):∃o,bP=st.set i o/\∀(lN:an),lN[i]?=st[i]?->dL wl aa lN (.ptr i v x y) cs=some (lN.set i o):=by
 unfold dL at h
 simp only at h
 split at h
 ·rename_i v' sz rows fm
  split at h
  ·rename_i hc
   split at h
   ·rename_i r hr
    split at h
    ·rename_i hl
     simp only[Option.some.injEq]at h
     refine⟨_,h.symm,λlN h2=>?_⟩
     unfold dL
     simp only[h2,fm,if_pos hc,hr,if_pos hl]
    ·cases h
   ·cases h
  ·cases h
 ·cases h
theorem DD {O:jo}{wl aa:Nat}{n:Nat}{st bP:an}{bx eR:aX}{i v x y:Nat}{u:AV}{e:dX}(h:act O wl aa (.store n) [.val (.ptr i v x y),.val u] st bx=some (e,bP,eR)) :
  ∃o,bP=st.set i o/\eR=bx/\∀(lN:an) (wA:aX),lN[i]?=st[i]?->act O wl aa (.store n) [.val (.ptr i v x y),.val u] lN wA=some (e,lN.set i o,wA):=by
 simp only[act,aL]at h
 split at h
 ·rename_i hc
  split at h
  ·rename_i s1 hw
   cases h
   obtain⟨o,h1,h2⟩:=Jq hw
   refine⟨o,h1,rfl,λlN wA he=>?_⟩
   simp only[act,aL,if_pos hc,h2 lN he]
  ·cases h
 ·cases h
theorem GQ {id:Nat}{Q:Exit->Act->World->Prop}{s e:St}(hm:KE S P ops n m bH=true)(hO:jg S P O)(hP:zd S O)(_hs:FT w G β a s n)(h1:∀b,fS β a s G n b<=1)(he:fH O wl aa m bH s=some e)
  (Xe:∀d,FT { w with drawn:=d } G β a s n/\∀w' G' A',Mv { w with drawn:=d } G (fS β a s G n) w' G' A'->Mv w G (fS β a s G n) w' G' A')
  (hQ:∀w' G' fQ a',FT w' G' fQ a' e n->Mv w G (fS β a s G n) w' G' (fS fQ a' e G' n)->Q .normal a' w'):(Code.region id ops true).wp P Q a w:=by
 have hd:=OA hm
 unfold fH at he
 split at he
 ·cases he
 ·rename_i e' gw hr
  split at he
  ·rename_i hc
   cases he
   simp only[Bool.and_eq_true,List.all_eq_true]at hc
   obtain⟨r1,r2,r3,r4⟩:=ze hr
   let T:Nat->St:=λk=>(gw[k]?).getD s
   have hT:∀(i:Nat) x,gw[i]?=some x->T i=x:=λi x hx=>by simp only[T,hx,Option.getD_some]
   have tx:Text S O wl aa m T:=⟨λi so hi=>by
    obtain⟨x,y,a1,a2,a3⟩:=r4 i so hi
    rw[hT i x a1,hT (i+1) y a2]
    exact agi hP a3⟩
   obtain⟨xp,hsn,ot⟩:∃xp:Option (Nat×Nat×an),(xp=none->∀i j,i<100000->(100000+i,j) ∉ bH)/\∀p q X,xp=some (p,q,X)->Spc S O wl aa m bH T p q X:=by
    by_cases hex:∃p q,p<100000/\(100000+p,q)∈bH
    ·obtain⟨p,q,hp,Sl⟩:=hex
     obtain⟨t1,⟨a,b,t2,t3,t4,t5,t6,t7⟩,t8,t9,t10⟩:=hd.xt p q hp Sl
     have OH:q<m.length:=(List.getElem?_eq_some_iff.1 t3).1
     have VN:=hc.1 _ Sl
     unfold gW at VN
     simp only[show ¬100000+p<100000 by omega,if_false,show (100000+p) % 100000=p by omega]at VN
     cases hX:xSt wl aa m gw p q with
     |none=>rw[hX]at VN;cases VN
     |some X=>
      refine⟨some (p,q,X),⟨λh=>(by cases h),λp' q' X' h=>?_⟩⟩
      cases h
      have GO:(T q).st=(T (p+1)).st:=by
       obtain⟨d,C3⟩:∃d,q=p+1+d:=⟨q-(p+1),by omega⟩
       rw[C3]
       exact xm tx d (by omega) λj so a1 a2 a3=>t8 j so (by omega) (by omega) a3
      unfold xSt at hX
      split at hX
      ·rename_i a' s' b' t' g1 g2 g3 g4
       rw[t2]at g1;cases g1
       rw[t3]at g3;cases g3
       have zH:=hT p s' g2
       have ht':=hT q t' g4
       subst zH ht'
       split at hX
       ·rename_i ao av bo bv ma i vi xi yi ui mb j vj xj yj uj k1 k2 k3 k4
        split at hX
        ·cases hX
        ·rename_i zG
         split at hX
         ·rename_i e0 X0 b0 zK
          cases hX
          have abO:act O wl aa (.store mb) [.val (.ptr j vj xj yj),.val uj] (T p).st []=some (e0,X,b0):=zK
          obtain⟨ob,o1,o2,o3⟩:=DD abO
          have ago:=tx.one p a t2
          obtain⟨ep,ap,_⟩:=ago.yes (by rw[t6];rfl)
          rw[k1,k2]at ap
          obtain⟨oa,p1,p2,p3⟩:=DD ap
          have agp:=tx.one q b t3
          obtain⟨eq,aq,_⟩:=agp.yes (by rw[t7];rfl)
          rw[k3,k4]at aq
          have abP:(T q).st[j]?=(T p).st[j]?:=by rw[GO,p1,List.getElem?_set_ne zG]
          have q1:(T (q+1)).st=(T q).st.set j ob:=by
           have:=o3 (T q).st (T q).bx abP
           rw[this]at aq
           simp only[Option.some.injEq,Prod.mk.injEq]at aq
           exact aq.2.1.symm
          refine⟨t1,OH,Sl,λa' Jp=>?_,λa' Jp=>?_,t8,t10,t9,λa' Jp e bx eR hh=>?_,λa' Jp e bx eR hh=>?_,λk hk o ho=>?_⟩
          ·rw[t2]at Jp;cases Jp
           exact⟨by rw[k1];rfl,t6⟩
          ·rw[t3]at Jp;cases Jp
           exact⟨by rw[k3];rfl,t7⟩
          ·rw[t3]at Jp;cases Jp
           rw[k3,k4]at hh ⊢
           rw[o3 (T q).st bx abP]at hh
           simp only[Option.some.injEq,Prod.mk.injEq]at hh
           rw[o3 (T p).st bx rfl,hh.1,hh.2.2,o1]
          ·rw[t2]at Jp;cases Jp
           rw[k1,k2]at hh ⊢
           rw[p3 (T p).st bx rfl]at hh
           simp only[Option.some.injEq,Prod.mk.injEq]at hh
           rw[p3 X bx (by rw[o1,List.getElem?_set_ne (λe=>zG e.symm)]),hh.1,hh.2.2,q1,GO,p1,o1,List.set_comm _ _ zG]
          ·have:=hc.1 _ hk
           unfold gW at this
           simp only[show ¬100000*(k+2)+p<100000 by omega,if_false,show (100000*(k+2)+p) % 100000=p by omega,show ¬100000*(k+2)+p<200000 by omega,show (100000*(k+2)+p) / 100000-2=k by omega]at this
           have hX2:xSt wl aa m gw p q=some X:=by
            unfold xSt
            simp only[t2,t3,g2,g4,k1,k2,k3,k4,if_neg zG,zK]
           rw[hX2]at this
           simp only at this
           split at this
           ·rename_i o' x y g5 g6 g7
            rw[ho]at g5;cases g5
            rw[hT k x g6,hT (k+1) y g7]
            exact this
           ·cases this
         ·cases hX
       ·cases hX
      ·cases hX
    ·exact⟨none,⟨λ_ i j hi zG=>hex ⟨i,j,hi,zG⟩,λ_ _ _ h=>(by cases h)⟩⟩
   have hR:IN S P O wl aa n ops m bH T xp:=by
    refine⟨hd,tx,λq w OH hqw o ho=>?_,hsn,ot,λi so j hi hj=>?_,hP⟩
    ·have:=hc.1 (q,w) hqw
     unfold gW at this
     simp only[OH,if_true]at this
     split at this
     ·rename_i o' x y x' y' g1 g2 g3 g4 g5
      rw[ho]at g1;cases g1
      rw[hT q x g2,hT (q+1) y g3,hT w x' g4,hT (w+1) y' g5]
      simpa only [Bool.and_eq_true] using this
     ·cases this
    ·have:=hc.2 so (cG hi)
     unfold aI at this
     rw[hj]at this
     rw[hT 0 s r2]
     exact this
   have h0:T 0=s:=hT 0 s r2
   have OK:g8 (Array.replicate ops.size false)=λ_=>false:=by
    funext k
    simp only[g8,Array.getD,Array.size_replicate,Array.getInternal_eq_getElem,Array.getElem_replicate]
    split<;>rfl
   have OL:∀{K V:Type} (init:K->V) (wN:Nat->K->Option V) (N:Nat) (x:K),nF init wN (λ_=>false) N x=init x:=by
    intro K V init wN N x
    induction N with
    |zero=>rfl
    |succ N ih=>simp only[nF,ih];rfl
   obtain⟨d1,d2⟩:=Xe (w.drawn+1)
   refine wp_region_any hd.fol (OI (w0:={ w with drawn:=w.drawn+1 }) (G0:=G) (A0:=fS β a s G n) hR hO (λw' G' fQ a' eR D hD hA=>?_) ops.size _ a _ G β s.bx (by simp) ?_ ?_ ?_)
   ·have iU:∀{K V:Type} (init:K->V) (wN:Nat->K->Option V) (x:K),nF init wN D m.length x=nF init wN (λk=>decide (k<m.length)) m.length x:=λinit wN x=>lB λk hk iQ=>by
     rw[hD k hk,decide_eq_true hk]at iQ;exact absurd rfl iQ
    have hTe:T m.length=e:=hT _ e r3
    have e1:vT m T D=cC e.env:=by
     funext t
     rw[<-hTe,<-OB tx (Nat.le_refl _)]
     exact iU _ _ t
    have e2:vX S m T xp D=e.st:=by
     rw[pD λp q X hx _=>hD p (by have:=ot p q X hx;have:=this.lt;have:=(ot p q X hx).ql;omega)]
     rw[<-hTe,<-OE tx (Nat.le_refl _)]
     exact iU _ _ ()
    have e3:eR=e.bx:=by
     apply List.ext_getElem?
     intro b
     rw[hA.bb b,<-hTe,<-OD tx (Nat.le_refl _)]
     exact iU _ _ b
    have f1:=hA.fs
    have f2:=hA.mv
    rw[e1,e2,e3]at f1 f2
    exact hQ w' G' fQ a' f1 (d2 _ _ _ f2)
   ·intro j o _ hj
    rw[OK]at hj;cases hj
   ·rw[OK]
    have:∀N,fP (λ_=>1) N=N:=λN=>by induction N with|zero=>rfl|succ N ih=>simp[fP,ih]
    simp[this]
   ·rw[OK]
    have e1:vT m T (λ_=>false)=cC s.env:=by funext t;rw[<-h0];exact OL _ _ _ t
    have e2:vX S m T xp (λ_=>false)=s.st:=by rw[pD λp q X _ h=>by cases h];rw[<-h0];exact OL _ _ _ ()
    refine⟨?_,?_,λb=>?_,by rw[h0],λi so j hi hj _ t=>?_⟩
    ·rw[e1,e2];exact d1
    ·rw[e1,e2];exact Mv.refl h1
    ·rw[<-h0];exact(OL _ _ _ b).symm
    ·rw[e1,<-h0];exact Bf (hR.bo i so j hi hj) t
  ·cases he
end Ax
namespace Ax
open Go
variable {S:Nat->Option aC}{P:Program}{O:jo}{wl aa n:Nat}
variable {w w':World}{G G':aM}{β fQ:List k8}{a:Act}{s s':St}
def Bt:Code->Code
 |.scope c=>Bt c
 |c=>c
def EF (S:Nat->Option aC)(P:Program)(n:Nat)(ops:Array Oper)(draw:Bool)(m:List aZ):Option (List (Nat×Nat))->Bool
 |none=>!draw&&pA S P ops n ops.toList m
 |some bH=>draw&&KE S P ops n m bH
def iI (S:Nat->Option aC)(P:Program)(n:Nat):bG->Code->Bool
 |.skip,c=>match Bt c with|.skip=>true|_=>false
 |.region m draw _,c=>match Bt c with
  |.region _ ops d=>EF S P n ops d m draw
  |_=>false
 |.seq x y,c=>match x with
  |.NP _=>iI S P n y c
  |.AE _ _=>iI S P n y c
  |.vo _ _=>iI S P n y c
  |x=>match Bt c with
   |.seq a b=>iI S P n x a&&iI S P n y b
   |_=>false
 |.cond t _ x _ y,c=>match Bt c with
  |.cond u a b=>IU u t&&iI S P n x a&&iI S P n y b
  |_=>false
 |.block i x,c=>match Bt c with
  |.block j a=>i==j&&iI S P n x a
  |_=>false
 |.loop x,c=>match Bt c with
  |.loop a=>iI S P n x a
  |_=>false
 |.exit i,c=>match Bt c with
  |.exit j=>i==j
  |_=>false
 |.ret,c=>match Bt c with
  |.ret=>true
  |_=>false
 |.NP _,_=>false
 |.AE _ _,_=>false
 |.vo _ _,_=>false
def Bu:Ex->Exit
 |.normal=>.normal
 |.exit id=>.exit id
 |.ret _=>.ret
def Pst (n:Nat)(rs:List jP)(A:Nat->Nat)(w:World)(G:aM)(x:Ex)(s':St)(w':World)(G':aM)(fQ:List k8)(a':Act):Prop:=
 ∃sr,FT w' G' fQ a' sr n/\Mv w G A w' G' (fS fQ a' sr G' n)/\(match x with|.ret v=>v8 sr rs=some v/\s'.st=sr.st|_=>s'=sr)
theorem Pst.trans {rs:List jP}{A A1:Nat->Nat}{w1:World}{G1:aM}{x:Ex}{a':Act}(h:Mv w G A w1 G1 A1)(k:Pst n rs A1 w1 G1 x s' w' G' fQ a'):Pst n rs A w G x s' w' G' fQ a':=by
 obtain⟨sr,h1,h2,h3⟩:=k
 exact⟨sr,h1,h.trans h2,h3⟩
def EG (P:Program)(c:Code)(Q:Exit->Act->World->Prop)(a:Act)(w:World):Prop:=
 ∀(b:Frame) (k:List Item) (cs:List Frame),∃e a' w',Q e a' w'/\Arrives P (lone (b.at a (.code c::.inLoop c::k)) cs w) b k cs e a' w'
theorem GR {c:Code}{Q:Exit->Act->World->Prop}{w:World}(h:c.wp P (Exit.then (EG P c Q) Q) a w):EG P c Q a w:=by
 intro b k cs
 obtain⟨e,OM,ON,hq,GS⟩:=h b (.inLoop c::k) cs
 cases e with
 |normal=>
  obtain⟨agr,ags,agt,abR,Tx⟩:=hq b k cs
  exact⟨agr,ags,agt,abR,.of_steps (Steps.trans GS (.one step_inLoop)) Tx⟩
 |exit id=>exact⟨_,OM,ON,hq,.pass (x:=.inLoop c) rfl (λ_ _=>.inl (by simp)) GS⟩
 |goto l=>exact⟨_,OM,ON,hq,.pass (x:=.inLoop c) rfl (λ_ _=>.inl (by simp)) GS⟩
 |ret=>exact⟨_,OM,ON,hq,.pass (x:=.inLoop c) rfl (λ_ _=>.inl (by simp)) GS⟩
 |panic ch=>exact⟨_,OM,ON,hq,.pass (x:=.inLoop c) rfl (λ_ _=>.inl (by simp)) GS⟩
 |outgrown=>exact⟨_,OM,ON,hq,.pass (x:=.inLoop c) rfl (λ_ _=>.inl (by simp)) GS⟩
theorem GU {c:Code}{Q:Exit->Act->World->Prop}{w:World}(h:EG P c Q a w):(Code.loop c).wp P Q a w:=by
 intro b k cs
 obtain⟨e,a',w',hq,GS⟩:=h b k cs
 exact⟨e,a',w',hq,.of_steps (.one step_loop) GS⟩
theorem oy {Q:Exit->Act->World->Prop}{w:World}:∀{c:Code},(Bt c).wp P (Exit.noGoto Q) a w->c.wp P Q a w
 |.scope c,h=>wp_scope_straight (oy (c:=c) (wp_mono h λe _ _ he=>by cases e<;>exact he))
 |.skip,h|.region ..,h|.seq ..,h|.cond ..,h|.block ..,h|.loop ..,h|.rangeFunc ..,h|.exit _,h|.label _,h|.goto _,h|.refuse _,h|.ret,h=>wp_mono h λe _ _ he=>by
  cases e<;>first|exact he|exact he.elim
def uN (S:Nat->Option aC)(P:Program)(O:jo):Prop:=
 ∀wl aa rs c s x s',O.loop wl aa rs c s=some (x,s')->∀code n,iI S P n c code=true->∀(w:World) (G:aM) (β:List k8) (a:Act),FT w G β a s n->(∀b,fS β a s G n b<=1)->
  ∀(Q:Exit->Act->World->Prop),(∀w' G' fQ a',Pst n rs (fS β a s G n) w G x s' w' G' fQ a'->Q (Bu x) a' w')->EG P code Q a w
theorem FT.clear (h:FT w G β a s n)(l:List Nat):FT w G β a { s with env:=gX l s.env } n/\∀b,fS β a { s with env:=gX l s.env } G n b<=fS β a s G n b:=
 FS.forget h λt=>by
  simp only[rO]
  split
  ·exact .inr rfl
  ·exact .inl rfl
theorem FT.kill (h:FT w G β a s n)(c:Src)(l:List Nat):FT w G β a { s with env:=gX l (kU s.env c) } n/\∀b,fS β a { s with env:=gX l (kU s.env c) } G n b<=fS β a s G n b:=
 FS.forget h λt=>by
  have h1:=qS t [c] s.env
  simp only[List.foldl_cons,List.foldl_nil]at h1
  simp only[rO,h1]
  split
  ·exact .inr rfl
  ·split
   ·exact .inr rfl
   ·exact .inl rfl
theorem Mv.less {A A' A'':Nat->Nat}(h:Mv w G A w' G' A')(hl:∀b,A'' b<=A' b):Mv w G A w' G' A'':=
 h.weaken (λ_=>Nat.le_refl _) (λb hb=>Nat.le_trans (hl b) (h.eP b hb)) λb=>Nat.le_trans (hl b) (h.one b)
theorem uO (w:World)(G:aM)(d:Nat):qa w G { w with drawn:=d } G:=⟨λ_ _ hi=>⟨rfl,hi⟩,λ_ loc h=>⟨loc,h,Nat.le_refl _,λ_=>rfl⟩⟩
theorem FT.drawn (h:FT w G β a s n)(d:Nat):FT { w with drawn:=d } G β a s n where
 defs:=h.defs
 size:=h.size
 rep:=λt=>(h.rep t).iB (uO w G d) λ_ _=>⟨rfl,rfl⟩
 lt:=h.lt
 inv:=tK h.inv (uO w G d) rfl (λ_ _=>⟨rfl,rfl⟩) h.inv.k9
 box:=lA h.box (uO w G d) λ_ _=>⟨rfl,rfl⟩
theorem Mv.drawn {A A':Nat->Nat}{d:Nat}(h:Mv { w with drawn:=d } G A w' G' A'):Mv w G A w' G' A':=
 ⟨(uO w G d).trans h.iB,h.eP,h.one,λb hb h0=>h.tH b hb h0,h.size,h.os,h.out⟩
theorem Xf {t:Nat}{v v':AV}{bP:an}(hs:FT w G β a s n)(h1:∀b,fS β a s G n b<=1)(hv:cC s.env t=.val v)(hf:jy wl v s.st=some (v',bP)) :
  ∃G',FT w G' β a ⟨tq s.env t (.val v'),s.bx,bP⟩ n/\Mv w G (fS β a s G n) w G' (fS β a ⟨tq s.env t (.val v'),s.bx,bP⟩ G' n):=by
 have htn:t<n:=by
  rcases Nat.lt_or_ge t n with h|h
  ·exact h
  ·rw[hs.lt t h]at hv;cases hv
 have Bk:=hs.rep t
 rw[hv]at Bk
 obtain⟨G',hF,hr,iY⟩:=wu (w:=w) hs.inv (λb=>by have:=h1 b;unfold fS sQ at this;omega) Bk hf
 have I0:∀b,cj b (.val v') (ke a t)=0:=λb=>eu b _ _ iY
 have fm:∀b,0<cj b (cC s.env t) (ke a t)\/True:=λ_=>.inr trivial
 have EC:∀b,fP (λu=>cj b (cC (tq s.env t (.val v')) u) (ke a u)) n<=fP (λu=>cj b (cC s.env u) (ke a u)) n:=λb=>Aa λu _=>by
  rw[tO]
  by_cases hu:u=t
  ·subst hu;rw[if_pos rfl,I0 b];omega
  ·rw[if_neg hu];exact Nat.le_refl _
 have Bv:∀b,0<fP (λu=>cj b (cC s.env u) (ke a u)) n+fC b β s.bx->dH w G w G' b:=λb hb=>⟨hF.tH b (by have:=h1 b;unfold fS sQ at this;omega),rfl⟩
 have hle:∀b,fS β a ⟨tq s.env t (.val v'),s.bx,bP⟩ G' n b<=fS β a s G n b:=λb=>by
  have e1:=EC b
  have e2:=hF.eP b
  show fP (λu=>cj b (cC (tq s.env t (.val v')) u) (ke a u)) n+fC b β s.bx+bY b G'.ls bP<=fP (λu=>cj b (cC s.env u) (ke a u)) n+fC b β s.bx+bY b G.ls s.st
  omega
 refine⟨G',⟨hs.defs,hs.size,λu=>?_,λu hu=>?_,hF.inv,lA (bx:=s.bx) hs.box hF.iB λb hb=>Bv b (by omega)⟩,⟨hF.iB,λb _=>hle b,λb=>Nat.le_trans (hle b) (h1 b),λb hb h0=>?_,Nat.le_refl _,rfl,rfl⟩⟩
 ·show jF w G' β (cC (tq s.env t (.val v')) u) (ke a u)
  rw[tO]
  by_cases hu:u=t
  ·subst hu;rw[if_pos rfl];exact hr
  ·rw[if_neg hu]
   refine(hs.rep u).iB hF.iB λb hb=>Bv b ?_
   have Gn:u<n:=by
    rcases Nat.lt_or_ge u n with h|h
    ·exact h
    ·rw[hs.lt u h]at hb;simp[cj]at hb
   have:=tP (f:=λu=>cj b (cC s.env u) (ke a u)) Gn
   omega
 ·show cC (tq s.env t (.val v')) u=.none
  rw[tO,if_neg (by omega)]
  exact hs.lt u hu
 ·have:bY b G.ls s.st=0:=by unfold fS sQ at h0;omega
  exact⟨hF.tH b this,rfl⟩
theorem xx {wl:Nat}{v v':AV}{st bP:an}(h:jy wl v st=some (v',bP)):v'.cw=true:=by
 unfold jy at h
 split at h
 ·split at h
  ·split at h
   ·split at h
    ·cases h;rfl
    ·cases h
   ·cases h
  ·cases h
 ·cases h;rfl
 ·cases h
theorem wV.put {row:List AV}{g:k8}{k:Nat}{v:AV}{u:Value}(h:wV w G row g)(hk:k<row.length)(hu:g.vals[k]?=some u)(hr:aN w G v u)(hc:v.cw=true):wV w G (af row k [v]) g:=by
 have hv:b8 w G [v] [u]:=⟨rfl,λi c x h1 h2=>by
  cases i with
  |zero=>simp at h1 h2;subst h1;subst h2;exact hr
  |succ i=>simp at h1⟩
 have hs:af g.vals k [u]=g.vals:=by
  have Z8:k<g.vals.length:=(List.getElem?_eq_some_iff.1 hu).1
  have e:=rL g.vals k 1 (by omega)
  have e2:(g.vals.drop k).take 1=[u]:=by
   rw[List.drop_eq_getElem_cons Z8]
   simp[(List.getElem?_eq_some_iff.1 hu).2]
  rw[e2]at e
  exact e
 refine⟨?_,je h.z6 (by simp[AV.aK,hc]) (by simp;omega),?_⟩
 ·have:=h.rep.af hv (n:=k) (by simp;omega)
  rwa [hs]at this
 ·rcases h.nS with⟨h1,h2⟩|⟨b,c,e,h1,h2,h3,h4,h5⟩
  ·subst h2;simp at hk
  ·exact .inr ⟨b,c,e,h1,h2,by rw[di];exact h3,h4,h5⟩
theorem Tz {j k:Nat}{row:List AV}{v v':AV}{bP:an}(hs:FT w G β a s n)(h1:∀b,fS β a s G n b<=1)(hr:s.bx[j]?=some row)(hv:row[k]?=some v)(hf:jy wl v s.st=some (v',bP)) :
  ∃G',FT w G' β a ⟨s.env,s.bx.set j (af row k [v']),bP⟩ n/\Mv w G (fS β a s G n) w G' (fS β a ⟨s.env,s.bx.set j (af row k [v']),bP⟩ G' n):=by
 have uP:=(List.getElem?_eq_some_iff.1 hr).1
 have de:=(List.getElem?_eq_some_iff.1 hv).1
 obtain⟨g,hg⟩:∃g,β[j]?=some g:=⟨_,List.getElem?_eq_getElem (by rw[hs.box.len];exact uP)⟩
 have hbx:=hs.box.box j row g hr hg
 obtain⟨u,hu⟩:∃u,g.vals[k]?=some u:=⟨_,List.getElem?_eq_getElem (by rw[<-hbx.rep.1];exact de)⟩
 obtain⟨G',hF,dj,iY⟩:=wu (w:=w) hs.inv (λb=>by have:=h1 b;unfold fS sQ at this;omega) (hbx.rep.2 k v u hv hu) hf
 have gY:=xx hf
 have Bv:∀b,0<fP (λu=>cj b (cC s.env u) (ke a u)) n+fC b β s.bx->dH w G w G' b:=λb hb=>⟨hF.tH b (by have:=h1 b;unfold fS sQ at this;omega),rfl⟩
 have hbc:∀b,fC b β (s.bx.set j (af row k [v']))<=fC b β s.bx:=λb=>by
  have e1:=wU b β s.bx j g row g (af row k [v']) hg hr
  have e2:β.set j g=β:=by
   obtain⟨hj,e⟩:=List.getElem?_eq_some_iff.1 hg
   rw[<-e];exact List.set_getElem_self _
  have zH:af g.vals k [u]=g.vals:=by
   have Z8:k<g.vals.length:=(List.getElem?_eq_some_iff.1 hu).1
   have e:=rL g.vals k 1 (by omega)
   have e2:(g.vals.drop k).take 1=[u]:=by
    rw[List.drop_eq_getElem_cons Z8]
    simp[(List.getElem?_eq_some_iff.1 hu).2]
   rw[e2]at e
   exact e
  have e3:=o0 b row [v'] g.vals [u] k hbx.rep.1 rfl (by simp;omega)
  rw[zH]at e3
  have e4:bR b [v'] [u]=0:=by simp only[bR,eu b v' u iY]
  rw[e2]at e1
  omega
 have hle:∀b,fS β a ⟨s.env,s.bx.set j (af row k [v']),bP⟩ G' n b<=fS β a s G n b:=λb=>by
  have e1:=hbc b
  have e2:=hF.eP b
  show fP (λu=>cj b (cC s.env u) (ke a u)) n+fC b β (s.bx.set j (af row k [v']))+bY b G'.ls bP<=fP (λu=>cj b (cC s.env u) (ke a u)) n+fC b β s.bx+bY b G.ls s.st
  omega
 have hB:=lA (bx:=s.bx) hs.box hF.iB λb hb=>Bv b (by omega)
 refine⟨G',⟨hs.defs,hs.size,λu=>?_,hs.lt,hF.inv,⟨by simpa using hB.len,λi r x e1 e2=>?_⟩⟩,⟨hF.iB,λb _=>hle b,λb=>Nat.le_trans (hle b) (h1 b),λb hb h0=>?_,Nat.le_refl _,rfl,rfl⟩⟩
 ·refine(hs.rep u).iB hF.iB λb hb=>Bv b ?_
  have Gn:u<n:=by
   rcases Nat.lt_or_ge u n with h|h
   ·exact h
   ·rw[hs.lt u h]at hb;simp[cj]at hb
  have:=tP (f:=λu=>cj b (cC s.env u) (ke a u)) Gn
  omega
 ·simp only[List.getElem?_set]at e1
  by_cases zG:j=i
  ·subst zG
   rw[if_pos rfl,if_pos uP]at e1
   cases e1
   rw[hg]at e2;cases e2
   exact(hB.box j row g hr hg).put de hu dj gY
  ·rw[if_neg zG]at e1
   exact hB.box i r x e1 e2
 ·have:bY b G.ls s.st=0:=by unfold fS sQ at h0;omega
  exact⟨hF.tH b this,rfl⟩
theorem OO {wl aa:Nat}{st lz lN:an}{id bU i k off:Nat}{v v':AV}{u:Value}(hI:Inv w G st)(hX:∀b,bY b G.ls st<=1)(hp:aN w G (.ptr id bU i k) u)
  (hr:fN st (.ptr id bU i (k+off)) 1=some [v]) (hf:jy wl v st=some (v',lz)) (hw:dL wl aa lz (.ptr id bU i (k+off)) [v']=some lN):∃G',F3 w G st G' lN:=by
 unfold fN at hr
 simp only at hr
 split at hr
 ·rename_i ve sz rows fm
  split at hr
  ·rename_i hve
   subst hve
   split at hr
   ·rename_i r cR
    obtain⟨loc,b,o,c,e,xs,hl,yU,yV,gi,Gq,qJ,eS,fj,eH,hle,hlen,gx,I6,kN,dh⟩:=wY hI hp fm cR
    obtain⟨mI,Ja,F2⟩:=o5 hr
    have VC:k+off<r.length:=by omega
    have hv:r[k+off]?=some v:=by
     have:((r.drop (k+off)).take 1)[0]?=some v:=by rw[<-mI];rfl
     rw[List.getElem?_take,if_pos (by omega),List.getElem?_drop]at this
     exact this
    obtain⟨x,hx⟩:∃x,xs[k+off]?=some x:=⟨_,List.getElem?_eq_getElem (by rw[<-kN.1];exact VC)⟩
    obtain⟨G',hF,dj,iY⟩:=wu hI hX (kN.2 _ _ _ hv hx) hf
    have gY:=xx hf
    have hp':aN w G' (.ptr id ve i k) u:=hp.ym hF.iB rfl
    unfold dL at hw
    simp only at hw
    split at hw
    ·rename_i ve1 sz1 OP zJ
     split at hw
     ·rename_i abS
      simp only[Bool.and_eq_true,decide_eq_true_eq]at abS
      obtain⟨rfl,_⟩:=abS
      split at hw
      ·rename_i r1 KI
       split at hw
       ·rename_i bn
        cases hw
        obtain⟨TA,b1,o1,c1,e1,Ss,VP,agw,agx,GW,Xg,agy,abT,ajh,Xh,agz,abU,abV,TB,Oo,KJ⟩:=wY hF.inv hp' zJ KI
        have hk1:k+off<r1.length:=by simp only[List.length_singleton]at bn;omega
        obtain⟨x1,hx1⟩:∃x,Ss[k+off]?=some x:=⟨_,List.getElem?_eq_getElem (by rw[<-Oo.1];exact hk1)⟩
        rw[Gq]at Xg
        simp only[Value.pointer.injEq,Option.some.injEq,Addr.mk.injEq,and_true]at Xg
        obtain⟨hb,ho⟩:=Xg
        have hxx:x1=x:=by
         have a1:=dh i xs (k+off) x I6 hx
         have a2:=KJ i Ss (k+off) x1 TB hx1
         rw[hb,show o+(i*sz+(k+off))=o1+(i*sz1+(k+off)) by omega,a2]at a1
         cases a1;rfl
        subst hxx
        have hs:af Ss (k+off) [x1]=Ss:=by
         have e:=rL Ss (k+off) 1 (by have:=(List.getElem?_eq_some_iff.1 hx1).1;omega)
         have e2:(Ss.drop (k+off)).take 1=[x1]:=by
          rw[List.drop_eq_getElem_cons (List.getElem?_eq_some_iff.1 hx1).1]
          simp[(List.getElem?_eq_some_iff.1 hx1).2]
         rw[e2]at e
         exact e
        have abW:b8 w G' (af r1 (k+off) [v']) Ss:=by
         have CX:b8 w G' [v'] [x1]:=⟨rfl,λi c x h1 h2=>by
          cases i with
          |zero=>simp at h1 h2;subst h1;subst h2;exact dj
          |succ i=>simp at h1⟩
         have:=Oo.af CX (n:=k+off) (by simp;omega)
         rwa [hs]at this
        have ov:nT w G' (.rows ve1 sz1 (OP.set i (af r1 (k+off) [v']))) TA:=by
         refine⟨agw,agx,b9.2 λr' vu=>?_,λr' vu=>?_,by simp[GW.len],GW.size,by simp[GW.qv],λi' r' IL h1 h2=>?_,.inr ⟨b1,o1,c1,e1,agy,abT,Xh,agz,by simpa using abU,abV,KJ⟩⟩
         ·rcases List.mem_or_eq_of_mem_set vu with h|h
          ·exact b9.1 GW.fit r' h
          ·rw[h,di];exact b9.1 GW.fit r1 (cG KI)
         ·rcases List.mem_or_eq_of_mem_set vu with h|h
          ·exact GW.z6 r' h
          ·rw[h];exact je (GW.z6 r1 (cG KI)) (by simp[AV.aK,gY]) (by simpa using bn)
         ·rw[List.getElem?_set]at h1
          by_cases I8:i=i'
          ·subst I8
           rw[if_pos rfl]at h1
           split at h1
           ·cases h1
            rw[TB]at h2;cases h2
            exact abW
           ·cases h1
          ·rw[if_neg I8]at h1
           exact GW.qP i' r' IL h1 h2
        refine⟨G',hF.trans ⟨qa.refl w G',z9 hF.inv (qa.refl w G') (ga _ _ _ VP).symm (λ_ _ _ _ _ _ _ _=>⟨rfl,rfl⟩) ov hF.inv.k9,λb'=>?_,λ_ _=>rfl⟩⟩
        have h1:=tG b' G'.ls lz id TA _ TA (.rows ve1 sz1 (OP.set i (af r1 (k+off) [v']))) VP zJ
        rw[ga _ _ _ VP]at h1
        have h4:=qQ b' OP TA.vals i r1 Ss (af r1 (k+off) [v']) Ss KI TB
        rw[ga _ _ _ TB]at h4
        have e3:=o0 b' r1 [v'] Ss [x1] (k+off) Oo.1 rfl (by simp;omega)
        rw[hs]at e3
        have e4:bR b' [v'] [x1]=0:=by simp only[bR,eu b' v' x1 iY]
        simp only[gz]at h1
        omega
       ·cases hw
      ·cases hw
     ·cases hw
    ·cases hw
   ·cases hr
  ·cases hr
 ·cases hr
theorem Mi {wl aa:Nat}{st lz lN:an}{id bU i k off:Nat}{v v':AV}{u:Value}(hI:Inv w G st)(hX:∀b,bY b G.ls st<=1)(hp:aN w G (.ptr id bU i k) u)
  (hr:fN st (.ptr id bU i (k+off)) 1=some [v]) (hf:om wl v st=some (v',lz)) (hw:dL wl aa lz (.ptr id bU i (k+off)) [v']=some lN):∃G',F3 w G st G' lN:=by
 unfold om at hf
 split at hf
 ·rename_i iP dJ
  cases hf
  unfold fN at hr
  simp only at hr
  split at hr
  ·rename_i ve sz rows fm
   split at hr
   ·rename_i hve
    subst hve
    split at hr
    ·rename_i r cR
     obtain⟨mI,Ja,F2⟩:=o5 hr
     have VC:k+off<r.length:=by omega
     have hv:r[k+off]?=some (.raw iP dJ):=by
      have:((r.drop (k+off)).take 1)[0]?=some (.raw iP dJ):=by rw[<-mI];rfl
      rw[List.getElem?_take,if_pos (by omega),List.getElem?_drop]at this
      exact this
     have IJ:id<st.length:=(List.getElem?_eq_some_iff.1 fm).1
     have zJ:(st++[fB.rows 0 iP dJ])[id]?=some (.rows ve sz rows):=by rw[List.getElem?_append_left IJ];exact fm
     unfold dL at hw
     simp only[zJ,cR]at hw
     split at hw
     ·split at hw
      ·cases hw
       exact Th hI hp fm cR hv
      ·cases hw
     ·cases hw
    ·cases hr
   ·cases hr
  ·cases hr
 ·exact OO hI hX hp hr hf hw
theorem TC {wl aa:Nat}{t id bU i k off:Nat}{v v':AV}{lz lN:an}(hs:FT w G β a s n)(h1:∀b,fS β a s G n b<=1)(ht:cC s.env t=.val (.ptr id bU i k))
  (hr:fN s.st (.ptr id bU i (k+off)) 1=some [v]) (hf:om wl v s.st=some (v',lz)) (hw:dL wl aa lz (.ptr id bU i (k+off)) [v']=some lN) :
  ∃G',FT w G' β a ⟨s.env,s.bx,lN⟩ n/\Mv w G (fS β a s G n) w G' (fS β a ⟨s.env,s.bx,lN⟩ G' n):=by
 have Bk:jF w G β (cC s.env t) (ke a t):=hs.rep t
 rw[ht]at Bk
 obtain⟨G',hF⟩:=Mi hs.inv (λb=>by have:=h1 b;unfold fS sQ at this;omega) Bk hr hf hw
 have Bv:∀b,0<fP (λu=>cj b (cC s.env u) (ke a u)) n+fC b β s.bx->dH w G w G' b:=λb hb=>⟨hF.tH b (by have:=h1 b;unfold fS sQ at this;omega),rfl⟩
 have hle:∀b,fS β a ⟨s.env,s.bx,lN⟩ G' n b<=fS β a s G n b:=λb=>by
  have e2:=hF.eP b
  show fP (λu=>cj b (cC s.env u) (ke a u)) n+fC b β s.bx+bY b G'.ls lN<=fP (λu=>cj b (cC s.env u) (ke a u)) n+fC b β s.bx+bY b G.ls s.st
  omega
 refine⟨G',⟨hs.defs,hs.size,λu=>?_,hs.lt,hF.inv,lA (bx:=s.bx) hs.box hF.iB λb hb=>Bv b (by omega)⟩,⟨hF.iB,λb _=>hle b,λb=>Nat.le_trans (hle b) (h1 b),λb hb h0=>?_,Nat.le_refl _,rfl,rfl⟩⟩
 ·refine(hs.rep u).iB hF.iB λb hb=>Bv b ?_
  have Gn:u<n:=by
   rcases Nat.lt_or_ge u n with h|h
   ·exact h
   ·rw[hs.lt u h]at hb;simp[cj]at hb
  have:=tP (f:=λu=>cj b (cC s.env u) (ke a u)) Gn
  omega
 ·have:bY b G.ls s.st=0:=by unfold fS sQ at h0;omega
  exact⟨hF.tH b this,rfl⟩
end Ax
namespace Ax
open Go
variable {S:Nat->Option aC}{P:Program}{O:jo}{wl aa n:Nat}
theorem uQ {Q:Exit->Act->World->Prop}{x:Ex}{a:Act}{w:World}(h:Q (Bu x) a w):Exit.noGoto Q (Bu x) a w:=by
 cases x<;>exact h
theorem Mj {x y:bG}{c:Code}(h:iI S P n (.seq x y) c=true):(∃t,x=.NP t/\iI S P n y c=true)\/(∃j k,x=.AE j k/\iI S P n y c=true)\/(∃j k,x=.vo j k/\iI S P n y c=true)\/(∃a b,Bt c=.seq a b/\iI S P n x a=true/\iI S P n y b=true):=by
 unfold iI at h
 split at h
 ·exact .inl ⟨_,rfl,h⟩
 ·exact .inr (.inl ⟨_,_,rfl,h⟩)
 ·exact .inr (.inr (.inl ⟨_,_,rfl,h⟩))
 ·split at h
  ·rename_i a b he
   simp only[Bool.and_eq_true]at h
   exact .inr (.inr (.inr ⟨a,b,he,h.1,h.2⟩))
  ·cases h
theorem qz (hO:jg S P O)(hL:uN S P O)(hP:zd S O){rs:List jP}:∀(c:bG)(code:Code)(s s':St)(x:Ex)(w:World)(G:aM)(β:List k8)(a:Act)(Q:Exit->Act->World->Prop),
  iI S P n c code=true->FT w G β a s n->(∀b,fS β a s G n b<=1)->gu O wl aa rs c s=some (x,s')->
  (∀w' G' fQ a',Pst n rs (fS β a s G n) w G x s' w' G' fQ a'->Q (Bu x) a' w')->code.wp P Q a w
 |.skip,code,s,s',x,w,G,β,a,Q,hm,hs,h1,he,hQ=>by
  refine oy ?_
  simp only[gu,Option.some.injEq,Prod.mk.injEq]at he
  obtain⟨rfl,rfl⟩:=he
  unfold iI at hm
  split at hm
  ·rename_i hp
   rw[hp]
   exact wp_skip (hQ w G β a ⟨s,hs,Mv.refl h1,rfl⟩)
  ·cases hm
 |.region m draw dc,code,s,s',x,w,G,β,a,Q,hm,hs,h1,he,hQ=>by
  refine oy ?_
  unfold iI at hm
  split at hm
  ·rename_i id ops d hp
   rw[hp]
   unfold gu at he
   cases draw with
   |none=>
    simp only[EF,Bool.and_eq_true,Bool.not_eq_true']at hm
    obtain⟨rfl,hm⟩:=hm
    simp only at he
    split at he
    ·rename_i s1 y9
     cases he
     refine wp_region ?_
     have:=Bn (Q:=Exit.noGoto Q) hO ops.toList m 0 w G β a s rfl hm hs h1 y9 λw' G' fQ a' f1 f2=>by
      obtain⟨g1,g2⟩:=f1.clear dc
      exact hQ w' G' fQ a' ⟨_,g1,f2.less g2,rfl⟩
     rw[List.range_eq_range']
     simpa using this
    ·cases he
   |some bH=>
    simp only[EF,Bool.and_eq_true]at hm
    obtain⟨rfl,hm⟩:=hm
    simp only at he
    split at he
    ·rename_i s1 y9
     cases he
     exact GQ (Q:=Exit.noGoto Q) hm hO hP hs h1 y9 (λd=>⟨hs.drawn d,λ_ _ _ h=>h.drawn⟩) λw' G' fQ a' f1 f2=>by
      obtain⟨g1,g2⟩:=f1.clear dc
      exact hQ w' G' fQ a' ⟨_,g1,f2.less g2,rfl⟩
    ·cases he
  ·cases hm
 |.seq c1 c2,code,s,s',x,w,G,β,a,Q,hm,hs,h1,he,hQ=>by
  rcases Mj hm with⟨t,rfl,TD⟩|⟨j,k,rfl,TD⟩|⟨t,off,rfl,TD⟩|⟨a1,b1,hp,Xi,TD⟩
  ·unfold gu at he
   cases hc:gu O wl aa rs (.NP t) s with
   |none=>rw[hc]at he;cases he
   |some y=>
    obtain⟨x1,s1⟩:=y
    rw[hc]at he
    unfold gu at hc
    cases hv:cC s.env t with
    |none=>rw[hv]at hc;cases hc
    |fp j k=>rw[hv]at hc;cases hc
    |val v=>
     rw[hv]at hc
     simp only at hc
     cases hf:jy wl v s.st with
     |none=>rw[hf]at hc;cases hc
     |some y=>
      obtain⟨v',bP⟩:=y
      rw[hf]at hc
      cases hc
      obtain⟨G',f1,f2⟩:=Xf hs h1 hv hf
      exact qz hO hL hP c2 code _ s' x w G' β a Q TD f1 f2.one he λw' G2 Ox a2 hp=>hQ w' G2 Ox a2 (hp.trans f2)
  ·unfold gu at he
   cases hc:gu O wl aa rs (.AE j k) s with
   |none=>rw[hc]at he;cases he
   |some y=>
    obtain⟨x1,s1⟩:=y
    rw[hc]at he
    unfold gu at hc
    cases hb:s.bx[j]? with
    |none=>rw[hb]at hc;cases hc
    |some row=>
     rw[hb]at hc
     simp only at hc
     cases hv:row[k]? with
     |none=>rw[hv]at hc;cases hc
     |some v=>
      rw[hv]at hc
      simp only at hc
      cases hf:jy wl v s.st with
      |none=>rw[hf]at hc;cases hc
      |some y=>
       obtain⟨v',bP⟩:=y
       rw[hf]at hc
       cases hc
       obtain⟨G',f1,f2⟩:=Tz hs h1 hb hv hf
       exact qz hO hL hP c2 code _ s' x w G' β a Q TD f1 f2.one he λw' G2 Ox a2 hp=>hQ w' G2 Ox a2 (hp.trans f2)
  ·unfold gu at he
   cases hc:gu O wl aa rs (.vo t off) s with
   |none=>rw[hc]at he;cases he
   |some y=>
    obtain⟨x1,s1⟩:=y
    rw[hc]at he
    obtain⟨rfl,id,bU,i,k,v,v',lz,lN,g1,g2,g3,g4,rfl⟩:=AI hc
    simp only at he
    obtain⟨G',f1,f2⟩:=TC hs h1 g1 g2 g3 g4
    exact qz hO hL hP c2 code _ s' x w G' β a Q TD f1 f2.one he λw' G2 Ox a2 hp=>hQ w' G2 Ox a2 (hp.trans f2)
  ·refine oy ?_
   rw[hp]
   refine wp_seq ?_
   unfold gu at he
   cases hc:gu O wl aa rs c1 s with
   |none=>rw[hc]at he;cases he
   |some y=>
    obtain⟨x1,s1⟩:=y
    rw[hc]at he
    refine qz hO hL hP c1 a1 s s1 x1 w G β a _ Xi hs h1 hc λw' G' fQ a' VZ=>?_
    cases x1 with
    |normal=>
     obtain⟨sr,g1,g2,g3⟩:=VZ
     simp only at g3
     subst g3
     exact qz hO hL hP c2 b1 s1 s' x w' G' fQ a' _ TD g1 g2.one he λw2 G2 Ox a2 hp2=>uQ (hQ w2 G2 Ox a2 (hp2.trans g2))
    |exit id=>cases he;exact hQ w' G' fQ a' VZ
    |ret v=>cases he;exact hQ w' G' fQ a' VZ
 |.cond t ca c1 cb c2,code,s,s',x,w,G,β,a,Q,hm,hs,h1,he,hQ=>by
  refine oy ?_
  unfold iI at hm
  split at hm
  ·rename_i u a1 b1 hp
   rw[hp]
   simp only[Bool.and_eq_true]at hm
   obtain⟨⟨hms,Xi⟩,TD⟩:=hm
   unfold gu at he
   have hev:=(KA hs.rep hms).1
   have hb:∀b,oW s.env t=some b->a.eval u=.bool b:=λb hb=>by
    unfold oW at hb
    rw[Ac]at hb
    split at hb
    ·rename_i b' lO
     cases hb
     rw[lO]at hev
     exact aN.jc hev
    ·cases hb
   split at he
   ·rename_i hr
    obtain⟨g1,g2⟩:=FT.kill hs t ca
    refine wp_cond_true (hb _ hr) (qz hO hL hP c1 a1 _ s' x w G β a _ Xi g1 (λb=>Nat.le_trans (g2 b) (h1 b)) he λw' G' fQ a' hp=>uQ (hQ w' G' fQ a' (hp.trans ((Mv.refl h1).less g2))))
   ·rename_i hr
    obtain⟨g1,g2⟩:=FT.kill hs t cb
    refine wp_cond_false (hb _ hr) (qz hO hL hP c2 b1 _ s' x w G β a _ TD g1 (λb=>Nat.le_trans (g2 b) (h1 b)) he λw' G' fQ a' hp=>uQ (hQ w' G' fQ a' (hp.trans ((Mv.refl h1).less g2))))
   ·cases he
  ·cases hm
 |.block id c1,code,s,s',x,w,G,β,a,Q,hm,hs,h1,he,hQ=>by
  refine oy ?_
  unfold iI at hm
  split at hm
  ·rename_i j a1 hp
   rw[hp]
   simp only[Bool.and_eq_true,beq_iff_eq]at hm
   obtain⟨rfl,Xi⟩:=hm
   refine wp_block ?_
   unfold gu at he
   cases hc:gu O wl aa rs c1 s with
   |none=>rw[hc]at he;cases he
   |some y=>
    obtain⟨x1,s1⟩:=y
    rw[hc]at he
    refine qz hO hL hP c1 a1 s s1 x1 w G β a _ Xi hs h1 hc λw' G' fQ a' VZ=>?_
    cases x1 with
    |normal=>cases he;exact hQ w' G' fQ a' VZ
    |exit i=>
     simp only at he
     simp only[Bu,Exit.inBlock]
     split at he
     ·rename_i hi
      cases he
      rw[if_pos hi]
      exact hQ w' G' fQ a' VZ
     ·rename_i hi
      cases he
      rw[if_neg hi]
      exact hQ w' G' fQ a' VZ
    |ret v=>cases he;exact hQ w' G' fQ a' VZ
  ·cases hm
 |.loop c1,code,s,s',x,w,G,β,a,Q,hm,hs,h1,he,hQ=>by
  refine oy ?_
  unfold iI at hm
  split at hm
  ·rename_i a1 hp
   rw[hp]
   unfold gu at he
   exact GU (hL wl aa rs c1 s x s' he a1 n hm w G β a hs h1 _ λw' G' fQ a' hp=>uQ (hQ w' G' fQ a' hp))
  ·cases hm
 |.exit id,code,s,s',x,w,G,β,a,Q,hm,hs,h1,he,hQ=>by
  refine oy ?_
  simp only[gu,Option.some.injEq,Prod.mk.injEq]at he
  obtain⟨rfl,rfl⟩:=he
  unfold iI at hm
  split at hm
  ·rename_i j hp
   rw[hp]
   simp only[beq_iff_eq]at hm
   subst hm
   exact wp_exit (hQ w G β a ⟨s,hs,Mv.refl h1,rfl⟩)
  ·cases hm
 |.ret,code,s,s',x,w,G,β,a,Q,hm,hs,h1,he,hQ=>by
  refine oy ?_
  unfold iI at hm
  split at hm
  ·rename_i hp
   rw[hp]
   unfold gu at he
   split at he
   ·rename_i v hv
    cases he
    exact wp_ret (hQ w G β a ⟨s,hs,Mv.refl h1,hv,rfl⟩)
   ·cases he
  ·cases hm
 |.NP t,code,s,s',x,w,G,β,a,Q,hm,hs,h1,he,hQ=>by
  simp[iI]at hm
 |.AE j k,code,s,s',x,w,G,β,a,Q,hm,hs,h1,he,hQ=>by
  simp[iI]at hm
 |.vo t off,code,s,s',x,w,G,β,a,Q,hm,hs,h1,he,hQ=>by
  simp[iI]at hm
def KK (S:Nat->Option aC)(P:Program)(sf:aC):Bool:=
 match P.funcs[sf.eL]? with
 |some fn=>match fn.body with
  |some code => !(fn.name == "runtime.NumGoroutine") && iI S P fn.ntmps sf.body code && wz P fn.results.toList sf.results && tR (nW sf.results) && tR (Bo sf.results) && decide (sf.nparams ≤ fn.ntmps)
  |none=>false
 |none=>false
def GX (S:Nat->Option aC)(P:Program):Prop:=∀f sf,S f=some sf->KK S P sf=true/\(f<100000->sf.eL=f)
def zP (b:Nat)(args:List AV)(vs:List Value)(k t:Nat):Nat:=if k<=t then (match args[t-k]?,vs[t-k]? with|some v,some u=>eP b v u|_,_=>0) else 0
theorem GY {w:World}{G:aM}(b:Nat):∀(args:List AV)(vs:List Value)(k N:Nat),args.length=vs.length->k+args.length<=N->
  fP (zP b args vs k) N=bR b args vs
 |[],[],k,N,_,_=>by
  have:fP (zP b [] [] k) N=fP (λ_=>0) N:=mM λt _=>by simp[zP]
  rw[this,Dt];rfl
 |v::args,u::vs,k,N,hl,hN=>by
  have ih:=GY (w:=w) (G:=G) b args vs (k+1) N (by simpa using hl) (by simp at hN;omega)
  have:=qT (f:=zP b (v::args) (u::vs) k) (g:=zP b args vs (k+1)) (d:=k) (n:=N) (by simp at hN;omega) λt ht=>by
    unfold zP
    by_cases hk:k<=t
    ·have h1:k+1<=t:=by omega
     have h2:t-k=(t-(k+1))+1:=by omega
     simp only[hk,h1,if_true,h2,List.getElem?_cons_succ]
    ·have h1:¬k+1<=t:=by omega
     simp only[hk,h1,if_false]
  have e1:zP b (v::args) (u::vs) k k=eP b v u:=by simp[zP]
  have e2:zP b args vs (k+1) k=0:=by unfold zP;rw[if_neg (by omega)]
  rw[e1,e2,ih]at this
  simp only[bR]
  omega
 |[],_::_,_,_,h,_=>by simp at h
 |_::_,[],_,_,h,_=>by simp at h
end Ax
namespace Ax
open Go
variable {S:Nat->Option aC}{P:Program}{O:jo}{wl aa n:Nat}
variable {w w':World}{G G':aM}{β fQ:List k8}{a:Act}{s s':St}
theorem TE {fn:Func}{rs:List jP}{v:AV}(hs:FT w G β a s n)(hm:wz P fn.results.toList rs=true)(h1:tR (nW rs)=true)(h2:tR (Bo rs)=true)(hr:v8 s rs=some v) :
  ∃u,(results fn a.tmps).run P w=.ok u w/\aN w G v u/\∀b,eP b v u+bY b G.ls s.st<=fS β a s G n b:=by
 unfold v8 at hr
 cases gi:v7 s rs with
 |none=>rw[gi]at hr;cases hr
 |some vs=>
  obtain⟨us,k1,k2,k3⟩:=DB hs _ rs vs hm gi
  have k4:=GH k1
  rw[gi]at hr
  have hle:∀b,bR b vs us+bY b G.ls s.st<=fS β a s G n b:=λb=>by
   have e1:=k3 b
   have e2:=xd (f:=λt=>cj b (cC s.env t) (ke a t)) (n:=n) (λt ht=>by rw[hs.lt t ht];rfl) _ (uM h1)
   have e3:=xd (f:=qU b β s.bx) (n:=s.bx.length) (λt ht=>by
    unfold qU
    rw[List.getElem?_eq_none ht]
    split
    ·rename_i h;cases h
    ·rfl) _ (uM h2)
   have e4:=GI b β s.bx
   unfold fS sQ
   omega
  match vs,us,k2,hle,hr,k4 with
  |[v1],[u],k2,hle,hr,k4=>
   cases hr
   refine⟨u,k4,k2.2 0 _ u rfl rfl,λb=>?_⟩
   have:=hle b
   simp only[bR]at this
   omega
  |[],us,k2,hle,hr,k4=>
   have:us=[]:=by have:=k2.1;simpa using this.symm
   subst this
   cases hr
   exact⟨_,k4,.fz _ _ rfl λi c v h=>by simp at h,λb=>by have:=hle b;simpa [eP,Mf] using this⟩
  |v1::v2::vs,us,k2,hle,hr,k4=>
   cases hr
   match us,k2,hle,k4 with
   |[],k2,_,_=>have:=k2.1;simp at this
   |[_],k2,_,_=>have:=k2.1;simp at this
   |u1::u2::us,k2,hle,k4=>
    exact⟨_,k4,.fz _ _ (by simpa using k2.1) λi c v h k=>k2.2 i c v h (by simpa using k),λb=>by have:=hle b;simpa [eP,Mf] using this⟩
  |[_],[],k2,_,_,_=>have:=k2.1;simp at this
  |[_],_::_::_,k2,_,_,_=>have:=k2.1;simp at this
theorem Xj {m:Mode}{st lz bP:an}{v v':AV}{u:Value}{A:Nat->Nat}(hI0:Inv w G st)(hk:cN (m.v9 st.length wl) (m.oX st.length aa) st lz)(hf:m.fin st v lz=some (v',bP))(hr:aN w' G' v u)(hI:Inv w' G' lz)
  (hM:Mv w G A w' G' (λb=>eP b v u+bY b G'.ls lz)):∃G2,aN w' G2 v' u/\Inv w' G2 bP/\Mv w G A w' G2 (λb=>eP b v' u+bY b G2.ls bP):=by
 have Xk:(m=.pure\/m=.lS)->Du st.length lz:=λh=>by
  have hl:m.oX st.length aa=st.length:=by rcases h with rfl|rfl<;>rfl
  rw[hl]at hk
  exact hk.aa st.length (Nat.le_refl _) (Nat.le_refl _) hI0.abF
 have cut:v.au=true->Du st.length lz->∃G2,aN w' G2 v u/\Inv w' G2 (lz.take st.length)/\Mv w G A w' G2 (λb=>eP b v u+bY b G2.ls (lz.take st.length)):=by
  intro hp hl
  have hc:∀b,eP b v u+bY b (G'.cut st.length).ls (lz.take st.length)<=eP b v u+bY b G'.ls lz:=λb=>by
   have:=Dv b st.length G'.ls lz
   simp only[aM.cut]
   omega
  refine⟨G'.cut st.length,hr.Bg (gZ _ v hp),hI.Bg hl,?_⟩
  exact⟨Tm hM.iB (by rw[hI0.len];exact Nat.le_refl _),λb hb=>Nat.le_trans (hc b) (hM.eP b hb),λb=>Nat.le_trans (hc b) (hM.one b),λb hb h0=>hM.tH b hb h0,hM.size,hM.os,hM.out⟩
 cases m with
 |CP=>
  simp only[Mode.fin,Option.some.injEq,Prod.mk.injEq]at hf
  obtain⟨rfl,rfl⟩:=hf
  exact⟨G',hr,hI,hM⟩
 |pure=>
  simp only[Mode.fin]at hf
  split at hf
  ·rename_i hp
   cases hf
   obtain⟨G2,c1,c2,c3⟩:=cut hp (Xk (.inl rfl))
   have:lz.take st.length=st:=by
    apply List.ext_getElem?
    intro i
    rw[List.getElem?_take]
    split
    ·rename_i hi
     exact hk.low i (by simpa [Mode.v9] using hi) hi
    ·rename_i hi;rw[List.getElem?_eq_none (by omega)]
   rw[this]at c2 c3
   exact⟨G2,c1,c2,c3⟩
  ·cases hf
 |lS=>
  simp only[Mode.fin]at hf
  split at hf
  ·rename_i hp
   cases hf
   exact cut hp (Xk (.inr rfl))
  ·cases hf
theorem Jr (w:World)(G:aM)(k:Nat):jq w G (List.replicate k ⟨none,[]⟩) (List.replicate k []) where
 len:=by simp
 box:=λj row g h1 h2=>by
  rw[List.getElem?_replicate]at h1 h2
  split at h1
  ·rename_i hj
   rw[if_pos hj]at h2
   cases h1;cases h2
   exact⟨⟨rfl,λi c v h=>by simp at h⟩,rfl,.inl ⟨rfl,rfl⟩⟩
  ·cases h1
theorem Bw (b:Nat):∀k,fC b (List.replicate k ⟨none,[]⟩) (List.replicate k [])=0
 |0=>by simp[fC]
 |k+1=>by simp[List.replicate_succ,fC,Bw b k,bR]
theorem GZ (hT:GX S P)(hO:jg S P O)(hL:uN S P O)(hP:zd S O)(hK:pz O){f:Nat}{sf:aC}(hf:S f=some sf){args:List AV}{st bP:an}{v:AV}(hc:cQ O wl aa sf args st=some (v,bP)) :
  Mc P sf.eL/\(f<100000->sf.eL=f)/\
  ∀(w:World) (G:aM) (vs:List Value),b8 w G args vs->Inv w G st->(∀b,bR b args vs+bY b G.ls st<=1)->
   Calls P sf.eL vs.toArray w λe w'=>∃u G',e=.returned u/\aN w' G' v u/\Inv w' G' bP/\
    Mv w G (λb=>bR b args vs+bY b G.ls st) w' G' (λb=>eP b v u+bY b G'.ls bP):=by
 obtain⟨hm,agB⟩:=hT f sf hf
 unfold KK at hm
 split at hm
 ·rename_i fn Mk
  split at hm
  ·rename_i code V0
   simp only[Bool.and_eq_true,Bool.not_eq_true',decide_eq_true_eq]at hm
   obtain⟨⟨⟨⟨⟨abX,Bx⟩,TF⟩,hnt⟩,Sr⟩,hnp⟩:=hm
   refine⟨⟨fn,Mk,abX,by rw[V0];rfl⟩,agB,λw G vs hR hI h1=>?_⟩
   unfold cQ at hc
   split at hc
   ·rename_i hlen
    split at hc
    ·rename_i x s abY
     split at hc
     ·rename_i v1 Mh
      refine calls_of_wp Mk V0 ?_
      have VR:vs.length=args.length:=hR.1.symm
      have dZ:(vs.toArray++Array.replicate (fn.ntmps-vs.toArray.size) undef).size=fn.ntmps:=by
       simp only[Array.size_append,List.size_toArray,Array.size_replicate];omega
      let a0:Act:={ tmps:=vs.toArray++Array.replicate (fn.ntmps-vs.toArray.size) undef,defers:=[] }
      have abZ:∀t u,vs[t]?=some u->ke a0 t=u:=λt u hu=>by
       have aV:=(List.getElem?_eq_some_iff.1 hu).1
       have:a0.tmps[t]?=some u:=by
        show (vs.toArray++Array.replicate (fn.ntmps-vs.toArray.size) undef)[t]?=some u
        rw[Array.getElem?_append]
        simp[aV,(List.getElem?_eq_some_iff.1 hu).2]
       simp[ke,this]
      have hη:∀t,cC (oY sf args st).env t=if t∈sf.dc then .none else (match args[t]? with|some v=>.val v|none=>.none):=λt=>by
       simp only[oY,rO,Ds,Nat.zero_le,if_true,Nat.sub_zero]
       rfl
      have hFT:FT w G (List.replicate sf.aJ ⟨none,[]⟩) a0 (oY sf args st) fn.ntmps:=by
       refine⟨rfl,by show fn.ntmps<=(vs.toArray++Array.replicate (fn.ntmps-vs.toArray.size) undef).size;omega,λt=>?_,λt ht=>?_,hI,Jr w G sf.aJ⟩
       ·rw[hη]
        split
        ·trivial
        ·split
         ·rename_i v0 hv0
          have aV:t<vs.length:=by rw[VR];exact(List.getElem?_eq_some_iff.1 hv0).1
          have hu:=List.getElem?_eq_getElem aV
          rw[abZ t _ hu]
          exact hR.2 t v0 _ hv0 hu
         ·trivial
       ·rw[hη,List.getElem?_eq_none (by omega)]
        simp
      have Xl:∀b,fS (List.replicate sf.aJ ⟨none,[]⟩) a0 (oY sf args st) G fn.ntmps b<=bR b args vs+bY b G.ls st:=λb=>by
       have e1:=GY (w:=w) (G:=G) b args vs 0 fn.ntmps VR.symm (by omega)
       have e2:fP (λt=>cj b (cC (oY sf args st).env t) (ke a0 t)) fn.ntmps<=fP (zP b args vs 0) fn.ntmps:=Aa λt _=>by
        rw[hη]
        simp only[zP,Nat.zero_le,if_true,Nat.sub_zero]
        split
        ·simp[cj]
        ·cases hv0:args[t]? with
         |none=>simp[cj]
         |some v0=>
          have aV:t<vs.length:=by rw[VR];exact(List.getElem?_eq_some_iff.1 hv0).1
          have hu:=List.getElem?_eq_getElem aV
          rw[abZ t _ hu,hu]
          exact Nat.le_refl _
       have e3:=Bw b sf.aJ
       unfold fS sQ
       show fP (λt=>cj b (cC (oY sf args st).env t) (ke a0 t)) fn.ntmps+fC b (List.replicate sf.aJ ⟨none,[]⟩) (List.replicate sf.aJ [])+bY b G.ls st<=_
       omega
      have h0:∀b,fS (List.replicate sf.aJ ⟨none,[]⟩) a0 (oY sf args st) G fn.ntmps b<=1:=λb=>Nat.le_trans (Xl b) (h1 b)
      refine qz hO hL hP sf.body code _ s x w G _ a0 _ Bx hFT h0 abY λw' G' fQ a' hp=>?_
      obtain⟨sr,g1,g2,g3⟩:=hp
      have ab0:cN (sf.mode.v9 st.length wl) (sf.mode.oX st.length aa) st s.st:=jf hK abY
      have fin:v8 sr sf.results=some v1->s.st=sr.st->a'.defers=[]/\∃u,(results fn a'.tmps).run P w'=.ok u w'/\∃u' G',(Ending.returned u)=.returned u'/\aN w' G' v u'/\Inv w' G' bP/\
        Mv w G (λb=>bR b args vs+bY b G.ls st) w' G' (λb=>eP b v u'+bY b G'.ls bP):=by
       intro WL fm
       obtain⟨u,r1,r2,r3⟩:=TE g1 TF hnt Sr WL
       have hMv:Mv w G (λb=>bR b args vs+bY b G.ls st) w' G' (λb=>eP b v1 u+bY b G'.ls s.st):=by
        rw[fm]
        have g3:=g2.less r3
        exact g3.weaken Xl (λb hb=>Nat.le_trans (g3.eP b hb) (Xl b)) g3.one
       have agD:Inv w' G' s.st:=by rw[fm];exact g1.inv
       obtain⟨G2,c1,c2,c3⟩:=Xj hI ab0 hc r2 agD hMv
       exact⟨g1.defs,u,r1,u,G2,rfl,c1,c2,c3⟩
      cases x with
      |normal=>
       simp only at g3
       subst g3
       exact fin Mh rfl
      |exit id=>cases Mh
      |ret v2=>
       cases Mh
       exact fin g3.1 g3.2
     ·cases hc
    ·cases hc
   ·cases hc
  ·cases hm
 ·cases hm
theorem By {sf:aC}{args:List AV}{st bP:an}{v:AV}(h:cQ O wl aa sf args st=some (v,bP))(hm:sf.mode=.pure):v.au=true/\bP=st:=by
 unfold cQ at h
 split at h
 ·split at h
  ·split at h
   ·rw[hm]at h
    simp only[Mode.fin]at h
    split at h
    ·rename_i hp;cases h;exact⟨hp,rfl⟩
    ·cases h
   ·cases h
  ·cases h
 ·cases h
theorem xy (hT:GX S P)(hO:jg S P O)(hL:uN S P O)(hP:zd S O)(hK:pz O){f:Nat}{sf:aC}(hf:S f=some sf){args:List AV}{st bP:an}{v:AV}(hc:dO O wl aa sf args st=some (v,bP)) :
  Mc P sf.eL/\(f<100000->sf.eL=f)/\
  ∀(w:World) (G:aM) (vs:List Value),b8 w G args vs->Inv w G st->(∀b,bR b args vs+bY b G.ls st<=1)->
   Calls P sf.eL vs.toArray w λe w'=>∃u G',e=.returned u/\aN w' G' v u/\Inv w' G' bP/\
    Mv w G (λb=>bR b args vs+bY b G.ls st) w' G' (λb=>eP b v u+bY b G'.ls bP):=by
 unfold dO at hc
 split at hc
 ·rename_i II
  simp only[alone,Bool.and_eq_true,decide_eq_true_eq]at II
  obtain⟨hm,hpa⟩:=II
  simp only[Option.map_eq_some_iff]at hc
  obtain⟨⟨v0,st0⟩,yh,hx⟩:=hc
  cases hx
  obtain⟨Gq,rfl⟩:=By yh hm
  obtain⟨h1,h2,h3⟩:=GZ hT hO hL hP hK hf yh
  refine⟨h1,h2,λw G vs hR hI kP=>?_⟩
  have Xm:∀(i:Nat) c,args[i]?=some c->c.under 0=true:=λi c hc=>gZ 0 c ((fK args).1 hpa c (cG hc))
  have hI0:Inv w (G.cut 0) []:=by
   have:=hI.Bg (n:=0) λid ob h=>by omega
   simpa using this
  have TG:∀b,bY b (G.cut 0).ls []=0:=λb=>by simp[bY]
  refine(h3 w (G.cut 0) vs ⟨hR.1,λi c v e1 e2=>(hR.2 i c v e1 e2).Bg (Xm i c e1)⟩ hI0 λb=>by rw[TG b];have:=kP b;omega).mono λe w' he=>?_
  obtain⟨u,G',rfl,r1,r2,r3⟩:=he
  have qx:∀b,bY b G'.ls []=0:=λb=>by simp[bY]
  have hS:qa w G w' ⟨G.ls,G'.kL⟩:=⟨λb o hi=>r3.iB.NR b o hi,λid loc hl=>⟨loc,hl,Nat.le_refl _,λ_=>rfl⟩⟩
  have Bv:∀b,b<w.heap.size->bR b args vs=0->dH w G w' ⟨G.ls,G'.kL⟩ b:=λb hb h0=>by
   have:=r3.tH b hb (by rw[h0,TG b])
   exact this
  have hIs:Inv w' ⟨G.ls,G'.kL⟩ st:=tK hI hS rfl (λb hb=>Bv b (hI.held hb) (by have:=kP b;omega)) r2.k9
  have dj:aN w' ⟨G.ls,G'.kL⟩ v0 u:=by
   have h0:=r1.Bg (n:=0) (gZ 0 v0 Gq)
   exact h0.iB ⟨λb o hi=>⟨rfl,hi⟩,λid loc hl=>by simp[aM.cut]at hl⟩ λb _=>⟨rfl,rfl⟩
  refine⟨u,⟨G.ls,G'.kL⟩,rfl,dj,hIs,hS,λb hb=>?_,λb=>?_,λb hb h0=>Bv b hb (by omega),r3.size,r3.os,r3.out⟩
  ·have:=r3.eP b hb
   rw[qx b,TG b]at this
   show eP b v0 u+bY b G.ls st<=_
   omega
  ·have h4:=r3.one b
   rw[qx b]at h4
   show eP b v0 u+bY b G.ls st<=1
   by_cases hb:b<w.heap.size
   ·have h5:=r3.eP b hb
    rw[qx b,TG b]at h5
    have:=kP b
    omega
   ·have:bY b G.ls st=0:=by
     rcases Nat.eq_zero_or_pos (bY b G.ls st) with h|h
     ·exact h
     ·exact absurd (hI.held h) hb
    omega
 ·exact GZ hT hO hL hP hK hf hc
theorem DE (hT:GX S P):∀n,jg S P (nQ S n)/\uN S P (nQ S n)
 |0=>⟨λwl aa f args st v bP h=>by simp[nQ]at h,λwl aa rs c s x s' h=>by simp[nQ]at h⟩
 |n+1=>by
  obtain⟨i1,i2⟩:=DE hT n
  refine⟨λwl aa f args st v bP h=>?_,λwl aa rs c s x s' h code m hm w G β a hs h1 Q hQ=>?_⟩
  ·simp only[nQ]at h
   split at h
   ·rename_i sf Z4
    exact⟨sf,Z4,xy hT i1 i2 (GM S n) (Dw S n) Z4 h⟩
   ·cases h
  ·simp only[nQ]at h
   refine GR ?_
   cases hc:gu (nQ S n) wl aa rs c s with
   |none=>rw[hc]at h;cases h
   |some y=>
    obtain⟨x1,s1⟩:=y
    rw[hc]at h
    refine qz i1 i2 (GM S n) c code s s1 x1 w G β a _ hm hs h1 hc λw' G' fQ a' hp=>?_
    cases x1 with
    |normal=>
     obtain⟨sr,g1,g2,g3⟩:=hp
     simp only at g3
     subst g3
     exact i2 wl aa rs c s1 x s' h code m hm w' G' fQ a' g1 g2.one Q λw2 G2 Ox a2 hp2=>hQ w2 G2 Ox a2 (hp2.trans g2)
    |exit id=>cases h;exact hQ w' G' fQ a' hp
    |ret v=>cases h;exact hQ w' G' fQ a' hp
end Ax
namespace Ax
open Go
variable {P:Program}{w w':World}{G G':aM}
def Af (P:Program)(ts:List TypeId):Bool:=ts.all λt=>decide (t<P.types.size)&&match P.underlying t with
 |some .bool|some (.int _)|some .string=>true
 |some (.slice e)=>ts.contains e&&decide (0<P.cellsOf e)
 |some (.struct fs)=>fs.toList.all λf=>ts.contains f.type
 |_=>false
mutual
inductive Ty (P:Program):TypeId->List AV->Prop
 |bool {t:TypeId} (h:P.underlying t=some .bool) (b:Bool):Ty P t [.bool b]
 |int {t:TypeId} {k:IntKind} (h:P.underlying t=some (.int k)) (n:Int) (h1:k.min<=n) (h2:n<=k.max):Ty P t [.int k n]
 |str {t:TypeId} (h:P.underlying t=some .string) (l:List UInt8) (hn:l.length<=maxLen):Ty P t [.str l]
 |U {t e:TypeId} (h:P.underlying t=some (.slice e)):Ty P t [.U]
 |emp {t e:TypeId} (h:P.underlying t=some (.slice e)):Ty P t [.emp]
 |cU {t e:TypeId} (h:P.underlying t=some (.slice e)) (rows:List (List AV)) (hn:rows.length<=maxLen) (hl:∀r∈rows,r.length=P.cellsOf e) (h2:∀r∈rows,Ty P e r):Ty P t [.cU (P.cellsOf e) rows]
 |ab1 {t:TypeId} {fs:Array Field} (h:P.underlying t=some (.struct fs)) (as:List AV) (h2:OQ P fs.toList as):Ty P t as
inductive OQ (P:Program):List Field->List AV->Prop
 |nil:OQ P [] []
 |cons {f:Field} {fs:List Field} {as bs:List AV} (hl:as.length=P.cellsOf f.type) (h1:Ty P f.type as) (h2:OQ P fs bs):OQ P (f::fs) (as++bs)
end
abbrev G0:aM:=⟨[],λ_=>none⟩
def Plain (as:List AV):Prop:=AV.dz as=true/\AV.ai as=true/\AV.aK as=true
theorem oO {a:AV}(h1:a.bX=true)(h2:a.au=true)(h3:a.cw=true):Plain [a]:=by
 refine⟨?_,?_,?_⟩<;>simp[AV.dz,AV.ai,AV.aK,h1,h2,h3]
theorem EH {as bs:List AV}(h:Plain as)(k:Plain bs):Plain (as++bs):=by
 obtain⟨h1,h2,h3⟩:=h
 obtain⟨k1,k2,k3⟩:=k
 refine⟨(cm _).2 λc hc=>?_,(fK _).2 λc hc=>?_,?_⟩
 ·rcases List.mem_append.1 hc with h|h
  ·exact(cm _).1 h1 c h
  ·exact(cm _).1 k1 c h
 ·rcases List.mem_append.1 hc with h|h
  ·exact(fK _).1 h2 c h
  ·exact(fK _).1 k2 c h
 ·simp only[AV.aK,List.all_append,Bool.and_eq_true]at *
  exact⟨h3,k3⟩
theorem qV {a:AV}{v:Value}(h:aN w G a v):b8 w G [a] [v]:=⟨rfl,λi c u h1 h2=>by
 cases i with
 |zero=>simp at h1 h2;subst h1;subst h2;exact h
 |succ i=>simp at h1⟩
theorem TH {b o:Nat}(h:b<w.heap.size):Imm w G0 b o:=⟨h,λp hp=>by cases hp⟩
section
variable {H:Type}{enc:TypeId×Value->H}{ts:List TypeId}
theorem DF {cs:List Value}:∀(fs:List Field)(o:Nat),(∀(j:Nat) f,fs[j]?=some f->f.offset=o+((fs.take j).map λf=>P.cellsOf f.type).sum)->cs.length=o+(fs.map λf=>P.cellsOf f.type).sum->
  (∀f∈fs,∃as,b8 w G0 as ((cs.drop f.offset).take (P.cellsOf f.type))/\Ty P f.type as/\Plain as)->∃as,b8 w G0 as (cs.drop o)/\OQ P fs as/\Plain as
 |[],o,_,hl,_=>by
  simp at hl
  have:cs.drop o=[]:=List.drop_eq_nil_of_le (by omega)
  rw[this]
  exact⟨[],⟨rfl,λi c v h=>by simp at h⟩,.nil,rfl,rfl,rfl⟩
 |f::fs,o,ho,hl,hf=>by
  have e0:f.offset=o:=by have:=ho 0 f rfl;simpa using this
  simp only[List.map_cons,List.sum_cons]at hl
  obtain⟨bs,h1,h2,h3⟩:=DF fs (o+P.cellsOf f.type) (λj g hg=>by
   have:=ho (j+1) g (by simpa using hg)
   simp only[List.take_succ_cons,List.map_cons,List.sum_cons]at this
   omega) (by omega) (λg hg=>hf g (by simp[hg]))
  obtain⟨as,k1,k2,k3⟩:=hf f (by simp)
  rw[e0]at k1
  have hlen:as.length=P.cellsOf f.type:=by
   rw[k1.1,List.length_take,List.length_drop];omega
  refine⟨as++bs,?_,.cons hlen k2 h2,EH k3 h3⟩
  have:cs.drop o=(cs.drop o).take (P.cellsOf f.type)++cs.drop (o+P.cellsOf f.type):=by
   rw[<-List.drop_drop,List.take_append_drop]
  rw[this]
  exact b8.append k1 h1
theorem TI (hK:Kids P (· < P.types.size))(hp:Af P ts=true):∀(n:Nat)(t:TypeId)(cs:List Value)(x:DataW H×List MemPlace),t∈ts->DataW.trod enc P w 0 (λ_=>true) true n t cs=some x->
  ∃as,b8 w G0 as cs/\Ty P t as/\Plain as:=by
 intro n
 induction n with
 |zero=>intro t cs x _ h;simp[DataW.trod]at h
 |succ n ih=>
  intro t cs x ht h
  have Js:=List.all_eq_true.1 hp t ht
  simp only[Bool.and_eq_true,decide_eq_true_eq]at Js
  obtain⟨aV,Js⟩:=Js
  split at Js
  ·rename_i hu
   obtain⟨b,rfl,rfl⟩:=DataW.trod_bool hu h
   exact⟨[.bool b],qV (.bool b),.bool hu b,oO rfl rfl rfl⟩
  ·rename_i k hu
   obtain⟨m,rfl,rfl,hw⟩:=DataW.trod_int hu h
   simp only[Lit.wf,Bool.and_eq_true,decide_eq_true_eq]at hw
   exact⟨[.int k m],qV (.int k m),.int hu m hw.1 hw.2,oO rfl rfl rfl⟩
  ·rename_i hu
   obtain⟨s,rfl,rfl,dM⟩:=DataW.trod_string hu h
   exact⟨[.str s.data.toList],qV (.str _ s rfl),.str hu _ (by simpa using dM),oO rfl rfl rfl⟩
  ·rename_i e hu
   simp only[Bool.and_eq_true,List.contains_eq_mem,decide_eq_true_eq]at Js
   obtain⟨he,dZ⟩:=Js
   rcases DataW.trod_slice hu h with⟨rfl,rfl⟩|⟨a,len,cap,elems,rest,m,hm,rfl,rfl,_,hlc,wv,KL,ab2,On,_⟩
   ·exact⟨[.U],qV .U,.U hu,oO rfl rfl rfl⟩
   ·cases hm
    by_cases eS:cap=0
    ·subst eS
     have:len=0:=by omega
     subst this
     exact⟨[.emp],qV (.emp a),.emp hu,oO rfl rfl rfl⟩
    ·have cR:∀i,i<cap->∃G4 y,w.cells? 0 (a.add (i*P.cellsOf e)) (P.cellsOf e)=some G4/\DataW.trod enc P w 0 (λ_=>true) true n e G4=some y:=by
      intro i hi
      by_cases ND:i<len
      ·have h1:=ab2 i ND
       have h2:∃y,elems[i]?=some y:=⟨_,List.getElem?_eq_getElem (by omega)⟩
       obtain⟨y,hy⟩:=h2
       rw[hy,Option.bind_eq_some_iff]at h1
       obtain⟨G4,e1,e2⟩:=h1
       exact⟨G4,y,e1,e2⟩
      ·obtain⟨rJ,hr⟩:=On rfl
       have h1:=hr (i-len) (by omega)
       rw[show len+(i-len)=i by omega]at h1
       have h2:∃y,rest[i-len]?=some y:=⟨_,List.getElem?_eq_getElem (by omega)⟩
       obtain⟨y,hy⟩:=h2
       rw[hy,Option.bind_eq_some_iff]at h1
       obtain⟨G4,e1,e2⟩:=h1
       exact⟨G4,y,e1,e2⟩
     have V1:a.spot=none:=by
      obtain⟨G4,y,e1,_⟩:=cR 0 (by omega)
      obtain⟨_,g2,g3⟩:=World.cells?_some e1
      have h0:=g3 0 dZ
      have:∃v,G4[0]?=some v:=⟨_,List.getElem?_eq_getElem (by omega)⟩
      obtain⟨v,hv⟩:=this
      rw[hv]at h0
      have:=World.cell?_spot h0
      simpa [Addr.add] using this
     obtain⟨iZ,off,spot⟩:=a
     simp only at V1
     subst V1
     have L0:∀off k,Addr.add ⟨iZ,off,none⟩ k=⟨iZ,off+k,none⟩:=λoff k=>by
      unfold Addr.add
      split
      ·rename_i h0;subst h0;rfl
      ·rfl
     have w7:∀i,i<len->∃r,(r.length=P.cellsOf e/\Ty P e r/\Plain r)/\∀(j:Nat) c,r[j]?=some c->∃v,w.cell? ⟨iZ,off+(i*P.cellsOf e+j),none⟩=some v/\aN w G0 c v:=by
      intro i hi
      obtain⟨G4,y,e1,e2⟩:=cR i (by omega)
      obtain⟨_,g2,g3⟩:=World.cells?_some e1
      obtain⟨r,r1,r2,r3⟩:=ih e G4 y he e2
      have rJ:r.length=P.cellsOf e:=by rw[r1.1,g2]
      refine⟨r,⟨rJ,r2,r3⟩,λj c hc=>?_⟩
      have hj:j<P.cellsOf e:=by rw[<-rJ];exact(List.getElem?_eq_some_iff.1 hc).1
      have h0:=g3 j hj
      have hv:∃v,G4[j]?=some v:=⟨_,List.getElem?_eq_getElem (by omega)⟩
      obtain⟨v,hv⟩:=hv
      rw[hv,L0,L0]at h0
      refine⟨v,by rw[<-h0];congr 2;omega,r1.2 j c v hc hv⟩
     have key:∀m,m<=len->∃rows:List (List AV),rows.length=m/\∀(i:Nat) r,rows[i]?=some r->(r.length=P.cellsOf e/\Ty P e r/\Plain r)/\∀(j:Nat) c,r[j]?=some c->∃v,w.cell? ⟨iZ,off+(i*P.cellsOf e+j),none⟩=some v/\aN w G0 c v:=by
      intro m
      induction m with
      |zero=>intro _;exact⟨[],rfl,λi r h=>by simp at h⟩
      |succ m ihm=>
       intro hm
       obtain⟨rows,l1,l2⟩:=ihm (by omega)
       obtain⟨r,hr⟩:=w7 m (by omega)
       refine⟨rows++[r],by simp[l1],λi r' hi=>?_⟩
       by_cases him:i<m
       ·rw[List.getElem?_append_left (by omega)]at hi
        exact l2 i r' hi
       ·rw[List.getElem?_append_right (by omega)]at hi
        have:i-rows.length=0:=by
         rcases Nat.eq_zero_or_pos (i-rows.length) with h|h
         ·exact h
         ·rw[List.getElem?_eq_none (by simp;omega)]at hi;cases hi
        rw[this]at hi
        simp at hi
        subst hi
        have:i=m:=by omega
        subst this
        exact hr
     obtain⟨rows,l1,l2⟩:=key len (Nat.le_refl _)
     have yf:∀r∈rows,r.length=P.cellsOf e/\Ty P e r/\Plain r:=λr hr=>by
      obtain⟨i,hi,rfl⟩:=List.mem_iff_getElem.1 hr
      exact(l2 i _ (List.getElem?_eq_getElem hi)).1
     have dj:aN w G0 (.cU (P.cellsOf e) rows) (.slice (some ⟨iZ,off,none⟩) rows.length cap):=by
      refine .cU (P.cellsOf e) rows ⟨iZ,off,none⟩ cap rfl (by omega) ?_ (λr hr=>(yf r hr).2.2.1) (λr hr=>(yf r hr).2.2.2.1) (λr hr=>(yf r hr).2.2.2.2) (λi r j c h1 h2=>?_) (λi r j c v h1 h2 h3=>?_)
      ·simp only[fits,List.all_eq_true,beq_iff_eq]
       exact λr hr=>(yf r hr).1
      ·obtain⟨v,e1,_⟩:=(l2 i r h1).2 j c h2
       exact⟨TH (World.block_lt_of_cell? w ⟨iZ,off+(i*P.cellsOf e+j),none⟩ e1:iZ<w.heap.size),v,e1⟩
      ·obtain⟨v',e1,e2⟩:=(l2 i r h1).2 j c h2
       rw[e1]at h3;cases h3
       exact e2
     rw[l1]at dj
     exact⟨[.cU (P.cellsOf e) rows],qV dj,(.cU hu rows (by omega) (λr hr=>(yf r hr).1) (λr hr=>(yf r hr).2.1)),oO rfl rfl rfl⟩
  ·rename_i fs hu
   simp only[List.all_eq_true,List.contains_eq_mem,decide_eq_true_eq]at Js
   obtain⟨xs,m,hm,rfl,hl,hlen,hf⟩:=DataW.trod_struct hu h
   cases hm
   obtain⟨_,k2,k3⟩:=hK.struct aV hu
   obtain⟨as,h1,h2,h3⟩:=DF (P:=P) (w:=w) (cs:=cs) fs.toList 0 (λj f hf=>by rw[k3 j f hf];omega) (by rw[hl,k2];omega) λf hfm=>by
    obtain⟨i,hi,rfl⟩:=List.mem_iff_getElem.1 hfm
    have hg:fs.toList[i]?=some fs.toList[i]:=List.getElem?_eq_getElem hi
    have h1:=hf i fs.toList[i] (by simp)
    have hy:∃y,xs[i]?=some y:=⟨_,List.getElem?_eq_getElem (by rw[hlen];simpa using hi)⟩
    obtain⟨y,hy⟩:=hy
    rw[hy]at h1
    exact ih _ _ y (Js _ hfm) h1
   exact⟨as,by simpa using h1,.ab1 hu as h2,h3⟩
  ·cases Js
def TyV (P:Program)(t:TypeId)(a:AV):Prop:=(∃fs as,P.underlying t=some (.struct fs)/\a=.agg as/\Ty P t as)\/((∀fs,P.underlying t≠some (.struct fs))/\Ty P t [a])
def TJ (P:Program):List TypeId->List AV->Prop
 |[],[]=>True
 |t::ts,a::as=>TyV P t a/\TJ P ts as
 |_,_=>False
theorem OR (hK:Kids P (· < P.types.size))(hp:Af P ts=true){r:Reach}{base:Nat}{t:TypeId}{v:Value}{d:DataW H}{ps:List MemPlace}(ht:t∈ts)(cx:Value.okWide P w r base t v)
  (h:DataW.Trod enc P w 0 (λ_=>true) true t v d ps):∃a,aN w G0 a v/\TyV P t a/\a.bX=true:=by
 obtain⟨n,hn⟩:=h
 obtain⟨as,h1,h2,h3⟩:=TI hK hp n t _ _ ht hn
 have one:v.cells = #[v]->(∀fs,P.underlying t≠some (.struct fs))->∃a,aN w G0 a v/\TyV P t a/\a.bX=true:=by
  intro hc hs
  rw[hc]at h1
  obtain⟨e1,e2⟩:=h1
  match as,e1,e2,h2,h3 with
  |[a],_,e2,h2,h3=>exact⟨a,e2 0 a v rfl rfl,.inr ⟨hs,h2⟩,by have:=h3.1;simpa [AV.dz] using this⟩
 have Js:=List.all_eq_true.1 hp t ht
 simp only[Bool.and_eq_true,decide_eq_true_eq]at Js
 obtain⟨_,Js⟩:=Js
 split at Js
 ·rename_i hu
  obtain⟨b,rfl⟩:=WideShapes.okWide_bool hu cx
  exact one rfl λfs h=>by rw[hu]at h;cases h
 ·rename_i k hu
  obtain⟨b,rfl⟩:=WideShapes.okWide_int hu cx
  exact one rfl λfs h=>by rw[hu]at h;cases h
 ·rename_i hu
  obtain⟨b,rfl⟩:=WideShapes.okWide_string hu cx
  exact one rfl λfs h=>by rw[hu]at h;cases h
 ·rename_i e hu
  obtain⟨a,l,c,rfl⟩:=WideShapes.okWide_slice hu cx
  exact one rfl λfs h=>by rw[hu]at h;cases h
 ·rename_i fs hu
  obtain⟨cs,rfl,_⟩:=WideShapes.okWide_struct hu cx
  refine⟨.agg as,.agg as cs (by simpa [Value.cells] using h1.1) λi c v e1 e2=>h1.2 i c v e1 (by simpa [Value.cells] using e2),.inl ⟨fs,as,hu,rfl,h2⟩,?_⟩
  simp only[AV.bX];exact h3.1
 ·cases Js
theorem DG (hK:Kids P (· < P.types.size))(hp:Af P ts=true){r:Reach}{base:Nat}:∀{us:List TypeId}{vs:List Value}{ds:List (DataW H)}{ps:List MemPlace},(∀t∈us,t∈ts)->
  (∀(j:Nat) t v,us[j]?=some t->vs[j]?=some v->Value.okWide P w r base t v)->DataW.TrodAll enc P w 0 (λ_=>true) true us vs ds ps->∃as,b8 w G0 as vs/\TJ P us as/\AV.dz as=true
 |[],[],[],_,_,_,_=>⟨[],⟨rfl,λi c v h=>by simp at h⟩,trivial,rfl⟩
 |t::us,v::vs,d::ds,ps,hu,hv,h=>by
  obtain⟨p,q,h1,h2,rfl⟩:=h
  obtain⟨a,a1,a2,a3⟩:=OR hK hp (hu t (by simp)) (hv 0 t v rfl rfl) h1
  obtain⟨as,b1,b2,b3⟩:=DG hK hp (λt ht=>hu t (by simp[ht])) (λj t v e1 e2=>hv (j+1) t v (by simpa using e1) (by simpa using e2)) h2
  exact⟨a::as,b8.cons a1 b1,⟨a2,b2⟩,by simp[AV.dz,a3,b3]⟩
 |[],_::_,_,_,_,_,h=>h.elim
 |[],[],_::_,_,_,_,h=>h.elim
 |_::_,[],_,_,_,_,h=>h.elim
 |_::_,_::_,[],_,_,_,h=>h.elim
theorem vO (hK:Kids P (· < P.types.size))(hz:∀t e,t<P.types.size->P.underlying t=some (.slice e)->0<P.cellsOf e){sp:Nat->Bool}(OT:∀b,b<w.heap.size->w'.heap[b]?=w.heap[b]?):∀{us:List TypeId}{vs:List Value}{ds:List (DataW H)}{ps:List MemPlace},(∀t∈us,t<P.types.size)->
  DataW.TrodAll enc P w 0 (λ_=>true) true us vs ds ps->(∀p∈ps,sp p.block=true)->DataW.TrodAll enc P w' 0 sp true us vs ds ps
 |[],[],[],_,_,h,_=>h
 |t::us,v::vs,d::ds,ps,hu,h,hs=>by
  obtain⟨p,q,⟨n,h1⟩,h2,rfl⟩:=h
  refine⟨p,q,⟨n,DataW.trod_stays hK (fun {t e}=>hz t e) (λh=>by cases h) (hu t (by simp)) h1 (λx hx=>?_) λx hx=>hs x (by simp[hx])⟩,vO hK hz OT (λt ht=>hu t (by simp[ht])) h2 (λx hx=>hs x (by simp[hx])),rfl⟩
  have aV:=DataW.trod_lt n t _ _ h1 x hx
  cases x with
  |cell b off=>simp only[World.sameAt,World.cell?,OT b aV]
  |map b=>exact OT b aV
 |[],_::_,_,_,_,h,_=>h.elim
 |[],[],_::_,_,_,h,_=>h.elim
 |_::_,[],_,_,_,h,_=>h.elim
 |_::_,_::_,[],_,_,h,_=>h.elim
theorem OU (w:World):Inv w G0 []:=⟨rfl,λid ob loc h=>by simp at h,λb p h=>by cases h⟩
theorem EI {may:MemPlace->Prop}(h1:w'.os=w.os)(h2:w'.output=w.output)(h3:∀b,b<w.heap.size->w'.heap[b]?=w.heap[b]?):w.keptBut w' may:=by
 refine⟨h1,h2,λi hi=>?_⟩
 rw[h3 i hi]
 have:=Array.getElem?_eq_getElem hi
 rw[this]
 cases w.heap[i] with
 |cells c t fr=>exact⟨rfl,rfl,rfl,λ_ _=>rfl⟩
 |map es clock=>exact .inr ⟨rfl,rfl⟩
 |_=>rfl
theorem G5 (_hsz:w.heap.size<=w'.heap.size)(h3:∀b,b<w.heap.size->w'.heap[b]?=w.heap[b]?)(a:Addr)(ha:a.block<w.heap.size):w'.frozen? a=w.frozen? a:=by
 simp only[World.frozen?,h3 a.block ha]
end
end Ax
namespace Ax
open Go Go.ChangeShapes
variable {P:Program}{w w':World}{G G':aM}{H:Type}{enc:TypeId×Value->H}
theorem OW {f:Func}{s:ChangeSpec}{apart fresh handsOn again:Bool}{W W':World}{args:Array Value}{ds gs:List (DataW H)}{before:List MemPlace}{tb:TypeId}
  (hK:Kids P (· < P.types.size)) (hz:∀t e,t<P.types.size->P.underlying t=some (.slice e)->0<P.cellsOf e) (TK:∀t∈f.params.toList,t<P.types.size)
  (hW:DataW.Whole enc P f.params.toList s.vars apart W args.toList ds gs before) (hv:s.vars=[]) (Bk:f.resultTypes = #[tb]) (htb:P.underlying tb=some .bool)
  (hr:(s.fn H ds).results=[.lit (.bool true)]) (ha:(s.fn H ds).args=ds) (CI:(s.fn H ds).vars=[])
  (h1:W'.os=W.os) (h2:W'.output=W.output) (h4:W.heap.size<=W'.heap.size) (h3:∀b,b<W.heap.size->W'.heap[b]?=W.heap[b]?) :
  s.post enc P f apart fresh handsOn again W args (.bool true) W':=by
 have hW':=hW
 obtain⟨p,q,hA,hV,rfl,zF,hn⟩:=hW'
 rw[hv]at hV
 cases gs with
 |cons _ _=>exact hV.elim
 |nil=>
  have hq:q=[]:=hV
  subst hq
  simp only[List.append_nil]at hW zF hn
  have fm:∀sp:Nat->Bool,(∀x∈p,sp x.block=true)->DataW.TrodAll enc P W' 0 sp true f.params.toList args.toList ds p:=λsp ot=>vO hK hz h3 TK hA ot
  have hfr:∀x∈p,x.block<W.heap.size:=DataW.TrodAll.lt hA
  have hold:∀x∈p,(λb=>decide (b<W.heap.size)) x.block=true:=λx hx=>by simpa using hfr x hx
  have rJ:(Value.bool true).resultList f.resultTypes.size=[.bool true]:=by rw[Bk];rfl
  have TF:∀(b:Nat) (sp:Nat->Bool) (hd:Bool),DataW.TrodAll enc P W' b sp hd f.resultTypes.toList ((Value.bool true).resultList f.resultTypes.size) (s.fn H (ds++[])).results []:=λb sp hd=>by
   rw[List.append_nil,hr,rJ,Bk]
   exact⟨[],[],⟨1,by simp[DataW.trod,htb,Value.cells]⟩,rfl,rfl⟩
  refine⟨ds,[],p,[],p,[],hW,TF _ _ _,by rw[List.append_nil,ha];exact fm _ hold,by rw[hv,List.append_nil,CI];rfl,EI h1 h2 h3,λ_=>?_⟩
  refine⟨λj t r e1 e2=>?_,[DataW.lit (.bool true)]++ds,[],p,⟨p,[],?_,(by rw[hv];exact(rfl:DataW.TrodVars enc P W' (λ_=>true) [] [] [])),by simp,?_,?_⟩,?_⟩
  ·rw[Bk]at e1
   rw[rJ]at e2
   cases j with
   |zero=>
    simp at e1 e2
    subst e1;subst e2
    exact RowKit.okWide_bool_mk htb true
   |succ j=>simp at e1
  ·have:=trodAll_append (fm _ (λ_ _=>rfl)) (TF 0 (λ_=>true) true)
   simpa [hr] using this
  ·intro b off hp
   rw[G5 h4 h3 _ (hfr _ hp)]
   exact zF b off hp
  ·exact hn
  ·intro x hx _;exact hx
theorem Jt {S:Nat->Option aC}(hT:GX S P):jg S P (aU S):=λwl aa f args st v bP h=>by
 obtain⟨n,hn⟩:=(qM S).call _ _ _ _ _ _ h
 exact(DE hT n).1 wl aa f args st v bP hn
theorem Ml {S:Nat->Option aC}(hT:GX S P){f:FuncId}(hf:f<100000){as:List AV}{bP:an}(hc:(aU S).call 0 0 f as []=some (.bool true,bP)){W:World}{args:Array Value}(hR:b8 W G0 as args.toList)(iY:AV.dz as=true) :
  Calls P f args W λe W'=>e=.returned (.bool true)/\W'.os=W.os/\W'.output=W.output/\W.heap.size<=W'.heap.size/\∀b,b<W.heap.size->W'.heap[b]?=W.heap[b]?:=by
 obtain⟨sf,h1,h2,h3,h4⟩:=Jt hT _ _ _ _ _ _ _ hc
 have hz:∀b,bR b as args.toList+bY b G0.ls []=0:=λb=>by rw[cW b _ _ iY];simp[bY]
 have:=h4 W G0 args.toList hR (OU W) (λb=>by rw[hz b];omega)
 rw[h3 hf]at this
 refine this.mono λe W' h=>?_
 obtain⟨u,G',rfl,r1,r2,r3⟩:=h
 refine⟨by rw[aN.jc r1],r3.os,r3.out,r3.size,λb hb=>(r3.tH b hb (hz b)).2⟩
structure Home (S:Nat->Option aC)(C:Checked)(ts:List TypeId):Prop where
 own:ownKnob C.prog.godebug=none
 tab:GX S C.prog
 kids:Kids C.prog (· < C.prog.types.size)
 full:∀t e,t<C.prog.types.size->C.prog.underlying t=some (.slice e)->0<C.prog.cellsOf e
 plain:Af C.prog ts=true
theorem law_lifted {S:Nat->Option aC}{C:Checked}{ts:List TypeId}(hh:Home S C ts){os:Os}(started:os.Started){f:FuncId}{fn:Func}{s:ChangeSpec}{conds:List PathCond}{apart fresh handsOn again:Bool}{tb:TypeId}
  (Xn:C.prog.inits.idxOf? f=none) (Mk:C.prog.funcs[f]?=some fn) (hf:f<100000)
  (witness:∃(w:World) (tape:Tape) (i:Input),w.os=os/\(w.forCall tape i).Shaped C.prog/\i.vars=[]/\Input.okWide C.prog (w.forCall tape i) .any w.heap.size f i/\
   s.pre6 enc C.prog fn conds apart (w.forCall tape i).memory i.args/\({}:Assume).holds C.prog (lone (Frame.enter C.prog f i.args .normal) [] (w.forCall tape i)))
  (TK:(fn.params.toList.all λt=>ts.contains t&&decide (t<C.prog.types.size))=true) (hv:s.vars=[]) (Bk:fn.resultTypes = #[tb]) (htb:C.prog.underlying tb=some .bool)
  (ab3:∀ds:List (DataW H),ds.length=fn.params.toList.length->(s.fn H ds).results=[.lit (.bool true)]/\(s.fn H ds).args=ds/\(s.fn H ds).vars=[])
  (dw:∀as,TJ C.prog fn.params.toList as->∃bP,(aU S).call 0 0 f as []=some (.bool true,bP)) :
  ReturnsInHanded {} C os f .any (s.pre6 enc C.prog fn conds apart) (s.post enc C.prog fn apart fresh handsOn again):=by
 refine returnsInHanded_of_change hh.own started Xn Mk witness ?_
 intro W base args ds gs before cx hW _ _
 have hp:∀t∈fn.params.toList,t∈ts/\t<C.prog.types.size:=λt ht=>by
  have:=List.all_eq_true.1 TK t ht
  simpa using this
 obtain⟨p,q,hA,hV,hb,_,_⟩:=id hW
 obtain⟨as,a1,a2,a3⟩:=DG hh.kids hh.plain (λt ht=>(hp t ht).1) (λj t v e1 e2=>cx j t v (by simpa using e1) (by simpa using e2)) hA
 obtain⟨bP,hc⟩:=dw as a2
 have hlen:∀(us:List TypeId) (vs:List Value) (ds:List (DataW H)) (p:List MemPlace),DataW.TrodAll enc C.prog W 0 (λ_=>true) true us vs ds p->ds.length=us.length:=by
  intro us
  induction us with
  |nil=>intro vs ds p h;cases vs with
   |nil=>cases ds with
    |nil=>rfl
    |cons _ _=>exact h.elim
   |cons _ _=>cases ds<;>exact h.elim
  |cons t us ih=>intro vs ds p h;cases vs with
   |nil=>cases ds<;>exact h.elim
   |cons v vs=>cases ds with
    |nil=>exact h.elim
    |cons d ds=>
     obtain⟨_,_,_,h2,_⟩:=h
     simp[ih vs ds _ h2]
 obtain⟨s1,s2,s3⟩:=ab3 ds (hlen _ _ _ _ hA)
 refine(Ml hh.tab hf hc a1 a3).mono λe W' h=>?_
 obtain⟨rfl,h1,h2,h3,h4⟩:=h
 exact⟨_,rfl,OW hh.kids hh.full (λt ht=>(hp t ht).2) hW hv Bk htb s1 s2 s3 h1 h2 h3 h4⟩
end Ax
namespace Ax
open Go
def uR (S:Nat->Option aC)(P:Program):Nat->List (Option aC)->Bool
 |_,[]=>true
 |k,none::l=>uR S P (k+1) l
 |k,some sf::l=>KK S P sf&&(decide (100000<=k)||sf.eL==k)&&uR S P (k+1) l
theorem rT {S:Nat->Option aC}{P:Program}:∀{l:List (Option aC)}{k:Nat},uR S P k l=true->∀(i:Nat) sf,l[i]?=some (some sf)->KK S P sf=true/\(k+i<100000->sf.eL=k+i)
 |[],_,_,i,sf,h=>by simp at h
 |none::l,k,h,i,sf,hi=>by
  cases i with
  |zero=>simp at hi
  |succ i=>
   have:=rT (l:=l) (k:=k+1) h i sf (by simpa using hi)
   rw[show k+1+i=k+(i+1) by omega]at this
   exact this
 |some s::l,k,h,i,sf,hi=>by
  simp only[uR,Bool.and_eq_true,Bool.or_eq_true,decide_eq_true_eq,beq_iff_eq]at h
  obtain⟨⟨h1,h2⟩,h3⟩:=h
  cases i with
  |zero=>
   simp at hi
   subst hi
   exact⟨h1,λhk=>by omega⟩
  |succ i=>
   have:=rT (l:=l) (k:=k+1) h3 i sf (by simpa using hi)
   rw[show k+1+i=k+(i+1) by omega]at this
   exact this
theorem TM {SG Eg:List (Option aC)}{P:Program}(h1:uR (NQ SG Eg) P 0 SG=true)(h2:uR (NQ SG Eg) P 100000 Eg=true):GX (NQ SG Eg) P:=by
 intro f sf hf
 unfold NQ at hf
 split at hf
 ·cases hg:SG[f]? with
  |none=>rw[hg]at hf;cases hf
  |some x=>
   rw[hg]at hf
   simp only[Option.getD_some]at hf
   subst hf
   have:=rT h1 f sf hg
   exact⟨this.1,λh=>by have:=this.2 (by omega);omega⟩
 ·rename_i aV
  cases hg:Eg[f-100000]? with
  |none=>rw[hg]at hf;cases hf
  |some x=>
   rw[hg]at hf
   simp only[Option.getD_some]at hf
   subst hf
   have:=rT h2 (f-100000) sf hg
   exact⟨this.1,λh=>absurd h aV⟩
end Ax
