/- The library of this proof, part 5: an abstract interpreter of the loaded code, and its soundness. -/
import Derived.Test.YtachcambnjecnaaA4
import Derived.Scope
import Derived.ChangeStays
import Derived.ChangeSame
import Derived.ChangeOld
import Derived.ChangeArms
import Derived.JoinedOf
import Derived.RowKit3
import Derived.ReadAgain
import Derived.Handed

namespace Ax
open Go
variable {S:Nat->Option aC}{P:Program}{O:jf}{wl aa:Nat}
theorem yU:∀{m:List aU}{s e:St}{gp:List St},dm O wl aa m s=some (e,gp)->
  gp.length=m.length+1/\gp[0]?=some s/\gp[m.length]?=some e/\∀(i:Nat) so,m[i]?=some so->∃x y,gp[i]?=some x/\gp[i+1]?=some y/\evalOp O wl aa so x=some y
 |[],s,e,gp,h=>by
  simp only[dm,Option.some.injEq,Prod.mk.injEq]at h
  obtain⟨rfl,rfl⟩:=h
  exact⟨rfl,rfl,rfl,λi so h=>by simp at h⟩
 |o::m,s,e,gp,h=>by
  simp only[dm]at h
  split at h
  ·rename_i s1 xA
   split at h
   ·rename_i e' l' hr
    cases h
    obtain⟨h1,h2,h3,h4⟩:=yU hr
    refine⟨by simp[h1],rfl,by simpa using h3,λi so hi=>?_⟩
    cases i with
    |zero=>simp at hi;subst hi;exact⟨s,s1,rfl,by simpa using h2,xA⟩
    |succ i=>
     obtain⟨x,y,a1,a2,a3⟩:=h4 i so (by simpa using hi)
     exact⟨x,y,by simpa using a1,by simpa using a2,a3⟩
   ·cases h
  ·cases h
structure Wk (S:Nat->Option aC)(O:jf)(wl aa:Nat)(so:aU)(s t:St):Prop where
 sB:∀u,u ∉ oM so->cA t.env u=cA s.env u
 afs:∀b,so.op.bW≠some b->t.bx[b]?=s.bx[b]?
 SH:t.bx.length=s.bx.length
 Wl:so.op.nu S=false->t.st=s.st
 non:kL s.env so.guard=some false->cA t.env=js (cA s.env) so.dst (.val .undef)/\t.bx=s.bx/\t.st=s.st
 yes:kL s.env so.guard=some true->∃e,act O wl aa so.op (so.args.map (Fv s.env)) s.st s.bx=some (e,t.st,t.bx)/\cA t.env=js (iL (cA s.env) (nU so.args)) so.dst e
 wan:kL s.env so.guard≠none
theorem aft {so:aU}{s t:St}(hO:yT S O)(h:evalOp O wl aa so s=some t):Wk S O wl aa so s t:=by
 unfold evalOp at h
 split at h
 ·cases h
 ·rename_i hw
  cases h
  refine⟨λu hu=>?_,λ_ _=>rfl,rfl,λ_=>rfl,λ_=>⟨jl _ _ _,rfl,rfl⟩,λh=>(by rw[hw]at h;cases h),(by rw[hw];simp)⟩
  simp only[oM,List.mem_append,Option.mem_toList,not_or]at hu
  rw[jl]
  simp only[js]
  rw[if_neg hu.1]
 ·rename_i hw
  split at h
  ·cases h
  ·rename_i e bK eI ha
   have fin:t=⟨ux (so.args.foldl kD s.env) so.dst e,eI,bK⟩->Wk S O wl aa so s t:=by
    intro ht
    subst ht
    have he:cA (ux (so.args.foldl kD s.env) so.dst e)=js (iL (cA s.env) (nU so.args)) so.dst e:=by rw[jl,qX]
    have hb:(∀b,so.op.bW≠some b->eI[b]?=s.bx[b]?)/\eI.length=s.bx.length:=by
     obtain⟨vr,h1,h2,h3,h4,h5,h6⟩:=Gl (vr:=s.bx) rfl (λ_ _=>rfl) ha
     exact⟨h6,h2⟩
    refine⟨λu hu=>?_,hb.1,hb.2,λhW=>Kj hO hW ha,λh=>(by rw[hw]at h;cases h),λ_=>⟨e,ha,he⟩,(by rw[hw];simp)⟩
    simp only[oM,List.mem_append,Option.mem_toList,not_or]at hu
    show cA (ux (so.args.foldl kD s.env) so.dst e) u=_
    rw[he]
    simp only[js,iL]
    rw[if_neg hu.1,if_neg hu.2]
   split at h
   ·cases h;exact fin rfl
   ·split at h
    ·cases h;exact fin rfl
    ·cases h
structure Text (S:Nat->Option aC)(O:jf)(wl aa:Nat)(m:List aU)(T:Nat->St):Prop where
 one:∀(i:Nat) so,m[i]?=some so->Wk S O wl aa so (T i) (T (i+1))
def I2 (m:List aU)(T:Nat->St)(k:Nat)(t:Nat):Option dK:=match m[k]? with
 |some so=>if t∈oM so then some (cA (T (k+1)).env t) else none
 |none=>none
def I3 (m:List aU)(T:Nat->St)(k:Nat)(b:Nat):Option (Option (List AV)):=match m[k]? with
 |some so=>if so.op.bW=some b then some ((T (k+1)).bx[b]?) else none
 |none=>none
def I4 (S:Nat->Option aC)(m:List aU)(T:Nat->St)(k:Nat)(_:Unit):Option aj:=match m[k]? with
 |some so=>if so.op.nu S=true then some (T (k+1)).st else none
 |none=>none
abbrev vT (m:List aU)(T:Nat->St)(D:Nat->Bool)(t:Nat):dK:=mZ (cA (T 0).env) (I2 m T) D m.length t
abbrev vB (m:List aU)(T:Nat->St)(D:Nat->Bool)(b:Nat):Option (List AV):=mZ (λb=>(T 0).bx[b]?) (I3 m T) D m.length b
abbrev vS (S:Nat->Option aC)(m:List aU)(T:Nat->St)(D:Nat->Bool):aj:=mZ (λ_=>(T 0).st) (I4 S m T) D m.length ()
section
variable {m:List aU}{T:Nat->St}
theorem N6 (h:Text S O wl aa m T){j:Nat}(hj:j<=m.length)(t:Nat):vT m T (λk=>decide (k<j)) t=cA (T j).env t:=by
 refine xO (st:=λk t=>cA (T k).env t) (λ_=>rfl) (λk hk x=>?_) hj t
 have hs:m[k]?=some m[k]:=List.getElem?_eq_getElem hk
 simp only[I2,hs]
 split
 ·rfl
 ·rename_i hx;exact(h.one k _ hs).sB x hx
theorem N8 (h:Text S O wl aa m T){j:Nat}(hj:j<=m.length)(b:Nat):vB m T (λk=>decide (k<j)) b=(T j).bx[b]?:=by
 refine xO (st:=λk b=>(T k).bx[b]?) (λ_=>rfl) (λk hk x=>?_) hj b
 have hs:m[k]?=some m[k]:=List.getElem?_eq_getElem hk
 simp only[I3,hs]
 split
 ·rfl
 ·rename_i hx;exact(h.one k _ hs).afs x hx
theorem N9 (h:Text S O wl aa m T){j:Nat}(hj:j<=m.length):vS S m T (λk=>decide (k<j))=(T j).st:=by
 refine xO (st:=λk (_:Unit)=>(T k).st) (λ_=>rfl) (λk hk x=>?_) hj ()
 have hs:m[k]?=some m[k]:=List.getElem?_eq_getElem hk
 simp only[I4,hs]
 split
 ·rfl
 ·rename_i hx;exact(h.one k _ hs).Wl (by simpa using hx)
theorem Kn (D:Nat->Bool):∀(N:Nat),N<=m.length->∃p,p<=N/\mZ (λ_=>(T 0).st) (I4 S m T) D N ()=(T p).st/\
  (p=0\/∃q so,p=q+1/\m[q]?=some so/\D q=true/\so.op.nu S=true)/\∀(j:Nat) so,p<=j->j<N->m[j]?=some so->so.op.nu S=true->D j=false
 |0,_=>⟨0,Nat.le_refl _,rfl,.inl rfl,λj so h1 h2=>by omega⟩
 |N+1,hN=>by
  obtain⟨p,h1,h2,h3,h4⟩:=Kn D N (by omega)
  have hs:m[N]?=some m[N]:=List.getElem?_eq_getElem (by omega)
  by_cases hD:D N=true/\(m[N]).op.nu S=true
  ·refine⟨N+1,Nat.le_refl _,?_,.inr ⟨N,m[N],rfl,hs,hD.1,hD.2⟩,λj so h5 h6=>by omega⟩
   simp only[mZ,hD.1,I4,hs,if_true,hD.2,Option.getD_some]
  ·refine⟨p,by omega,?_,h3,λj so h5 h6 h7 h8=>?_⟩
   ·simp only[mZ]
    cases hDN:D N with
    |false=>simpa using h2
    |true=>
     have:¬(m[N]).op.nu S=true:=λh=>hD ⟨hDN,h⟩
     simp only[I4,hs,if_true]
     rw[if_neg this]
     simpa using h2
   ·by_cases hj:j=N
    ·subst hj
     rw[hs]at h7;cases h7
     cases hDN:D j with
     |false=>rfl
     |true=>exact absurd ⟨hDN,h8⟩ hD
    ·exact h4 j so h5 (by omega) h7 h8
theorem wo (h:Text S O wl aa m T){p:Nat}:∀(d:Nat),p+d<=m.length->(∀(j:Nat) so,p<=j->j<p+d->m[j]?=some so->so.op.nu S=false)->(T (p+d)).st=(T p).st
 |0,_,_=>rfl
 |d+1,hd,hn=>by
  have hs:m[p+d]?=some m[p+d]:=List.getElem?_eq_getElem (by omega)
  have e:=(h.one (p+d) _ hs).Wl (hn (p+d) _ (by omega) (by omega) hs)
  rw[show p+(d+1)=p+d+1 by omega,e]
  exact wo h d (by omega) λj so h1 h2=>hn j so h1 (by omega)
theorem Ko (S:Nat->Option aC)(m:List aU)(p:Nat):∀(d:Nat),p+d<=m.length->(∀(j:Nat) so,p<=j->j<p+d->m[j]?=some so->so.op.nu S=false)\/
  ∃(w:Nat) (so:aU),p<=w/\w<p+d/\m[w]?=some so/\so.op.nu S=true/\∀(j:Nat) so,p<=j->j<w->m[j]?=some so->so.op.nu S=false
 |0,_=>.inl λj so h1 h2=>by omega
 |d+1,hd=>by
  rcases Ko S m p d (by omega) with h|⟨w,so,h1,h2,h3,h4,h5⟩
  ·have hs:m[p+d]?=some m[p+d]:=List.getElem?_eq_getElem (by omega)
   cases hw:(m[p+d]).op.nu S with
   |true=>exact .inr ⟨p+d,_,by omega,by omega,hs,hw,λj so a1 a2=>h j so a1 a2⟩
   |false=>
    refine .inl λj so a1 a2 a3=>?_
    by_cases hj:j=p+d
    ·subst hj;rw[hs]at a3;cases a3;exact hw
    ·exact h j so a1 (by omega) a3
  ·exact .inr ⟨w,so,h1,by omega,h3,h4,h5⟩
end
end Ax
namespace Ax
open Go
variable {S:Nat->Option aC}{P:Program}{O:jf}{wl aa n:Nat}
variable {ops:Array Oper}{m:List aU}{bD:List (Nat×Nat)}{T:Nat->St}{xp:Option (Nat×Nat×aj)}
structure Spc (S:Nat->Option aC)(O:jf)(wl aa:Nat)(m:List aU)(bD:List (Nat×Nat))(T:Nat->St)(p q:Nat)(X:aj):Prop where
 lt:p<q
 ql:q<m.length
 mem:(100000+p,q)∈bD
 wp:∀a,m[p]?=some a->a.op.nu S=true/\a.guard=none
 wq:∀a,m[q]?=some a->a.op.nu S=true/\a.guard=none
 gap:∀(j:Nat) o,p<j->j<q->m[j]?=some o->o.op.nu S=false
 un:∀i j,i<100000->(100000+i,j)∈bD->i=p/\j=q
 cl:∀k w,(k,w)∈bD->k<100000->w=p\/w=q->(100000*(k+2)+p,q)∈bD
 x1:∀a,m[q]?=some a->∀e bx eI,act O wl aa a.op (a.args.map (Fv (T q).env)) (T q).st bx=some (e,(T (q+1)).st,eI)->act O wl aa a.op (a.args.map (Fv (T q).env)) (T p).st bx=some (e,X,eI)
 x2:∀a,m[p]?=some a->∀e bx eI,act O wl aa a.op (a.args.map (Fv (T p).env)) (T p).st bx=some (e,(T (p+1)).st,eI)->act O wl aa a.op (a.args.map (Fv (T p).env)) X bx=some (e,(T (q+1)).st,eI)
 rd:∀k,(100000*(k+2)+p,q)∈bD->∀o,m[k]?=some o->cT O wl aa o (T k) (T (k+1)) X=true
structure Iq (S:Nat->Option aC)(P:Program)(O:jf)(wl aa n:Nat)(ops:Array Oper)(m:List aU)(bD:List (Nat×Nat))(T:Nat->St)(xp:Option (Nat×Nat×aj)):Prop where
 dr:U5 S P ops n m bD
 tx:Text S O wl aa m T
 pr:∀q w,q<100000->(q,w)∈bD->∀o,m[q]?=some o->cT O wl aa o (T q) (T (q+1)) (T w).st=true/\cT O wl aa o (T q) (T (q+1)) (T (w+1)).st=true
 sn:xp=none->∀i j,i<100000->(100000+i,j) ∉ bD
 sp:∀p q X,xp=some (p,q,X)->Spc S O wl aa m bD T p q X
 bo:∀(i:Nat) so j,m[i]?=some so->so.op.bq=some j->nw j (T 0).env=true
 pu:yT S O
theorem zR {i j:Nat}{a b:aU}(h:apart S bD i j a b=true):(∀t,t∈oM a->t ∉ vu b/\t ∉ oM b)/\(∀t,t∈oM b->t ∉ vu a):=by
 simp only[apart,Bool.and_eq_true,List.all_eq_true,Bool.not_eq_true',List.contains_eq_mem,decide_eq_false_iff_not]at h
 exact⟨h.1.1.1.1.1.1,h.1.1.1.1.1.2⟩
theorem Eh {i j:Nat}{a b:aU}(h:apart S bD i j a b=true):(∀x,a.op.bW=some x->b.op.bA≠some x)/\(∀x,b.op.bW=some x->a.op.bA≠some x):=by
 simp only[apart,Bool.and_eq_true]at h
 obtain⟨⟨⟨⟨⟨_,h1⟩,h2⟩,_⟩,_⟩,_⟩:=h
 refine⟨λx hx=>?_,λx hx=>?_⟩
 ·rw[hx]at h1;simpa using h1
 ·rw[hx]at h2;simpa using h2
theorem wu {i j:Nat}{a b:aU}(h:apart S bD i j a b=true):(a.op.nu S=true/\b.op.nu S=true->(100000+i,j)∈bD)/\(a.op.I1=true\/b.op.nu S=false\/a.op.nu S=true\/(i,j)∈bD)/\(b.op.I1=true\/a.op.nu S=false\/b.op.nu S=true\/(j,i)∈bD):=by
 simp only[apart,Bool.and_eq_true,Bool.or_eq_true,Bool.not_eq_true',Bool.and_eq_false_iff,List.contains_eq_mem,decide_eq_true_eq]at h
 obtain⟨⟨⟨_,h3⟩,h4⟩,h5⟩:=h
 refine⟨λ⟨x,y⟩=>?_,by rcases h4 with ((h|h)|h)|h<;>simp[h],by rcases h5 with ((h|h)|h)|h<;>simp[h]⟩
 rcases h3 with (h|h)|h
 ·rw[x]at h;cases h
 ·rw[y]at h;cases h
 ·exact h
theorem U6 {op:fA}{x:Nat}(h:op.bW=some x):op.bA=some x:=by
 cases op<;>simp[fA.bW]at h<;>simp[fA.bA,h]
structure Cu (ops:Array Oper)(m:List aU)(D:Nat->Bool)(k:Nat)(o:Oper)(so:aU):Prop where
 down:Down ops D
 ho:ops[k]?=some o
 hs:m[k]?=some so
 pre:∀p∈mo o,D p=true
 new:D k=false
theorem Cu.apart (hR:Iq S P O wl aa n ops m bD T xp){D:Nat->Bool}{k:Nat}{o:Oper}{so:aU}(h:Cu ops m D k o so){j:Nat}{b:aU}(hj:m[j]?=some b)(hd:D j≠decide (j<k)) :
  (j<k/\D j=false/\apart S bD j k b so=true)\/(k<j/\D j=true/\apart S bD k j so b=true):=by
 rcases Nat.lt_trichotomy j k with h1|h1|h1
 ·have:D j=false:=by rw[decide_eq_true h1]at hd;simpa using hd
  exact .inl ⟨h1,this,hR.dr.apA D h.down k o h.ho h.pre j b so h1 this hj h.hs⟩
 ·subst h1
  exact absurd (h.new.trans (by simp)) hd
 ·have:D j=true:=by rw[decide_eq_false (by omega)]at hd;simpa using hd
  exact .inr ⟨h1,this,hR.dr.apB D h.down k j so b h1 h.new this h.hs hj⟩
section
variable {D:Nat->Bool}{k:Nat}{o:Oper}{so:aU}
theorem Cu.lt (h:Cu ops m D k o so):k<m.length:=(List.getElem?_eq_some_iff.1 h.hs).1
theorem Cu.slot (hR:Iq S P O wl aa n ops m bD T xp)(h:Cu ops m D k o so){t:Nat}(ht:t∈oM so\/t∈vu so):vT m T D t=cA (T k).env t:=by
 rw[<-N6 hR.tx (Nat.le_of_lt h.lt)]
 refine kY λj hj hd=>?_
 have hb:m[j]?=some m[j]:=List.getElem?_eq_getElem hj
 simp only[I2,hb]
 rw[if_neg]
 intro Wm
 rcases h.apart hR hb hd with⟨_,_,ha⟩|⟨_,_,ha⟩
 ·have:=(zR ha).1 t Wm
  rcases ht with ht|ht
  ·exact this.2 ht
  ·exact this.1 ht
 ·rcases ht with ht|ht
  ·exact((zR ha).1 t ht).2 Wm
  ·exact(zR ha).2 t Wm ht
theorem Cu.box (hR:Iq S P O wl aa n ops m bD T xp)(h:Cu ops m D k o so){b:Nat}(hb:so.op.bA=some b):vB m T D b=(T k).bx[b]?:=by
 rw[<-N8 hR.tx (Nat.le_of_lt h.lt)]
 refine kY λj hj hd=>?_
 have hm:m[j]?=some m[j]:=List.getElem?_eq_getElem hj
 simp only[I3,hm]
 rw[if_neg]
 intro hw
 rcases h.apart hR hm hd with⟨_,_,ha⟩|⟨_,_,ha⟩
 ·exact(Eh ha).1 b hw hb
 ·exact(Eh ha).2 b hw hb
def vX (S:Nat->Option aC)(m:List aU)(T:Nat->St)(xp:Option (Nat×Nat×aj))(D:Nat->Bool):aj:=match xp with
 |some (p,q,X)=>if D q && !D p then X else vS S m T D
 |none=>vS S m T D
theorem oN {D:Nat->Bool}(h:∀p q X,xp=some (p,q,X)->D q=true->D p=true):vX S m T xp D=vS S m T D:=by
 unfold vX
 cases xp with
 |none=>rfl
 |some x=>
  obtain⟨p,q,X⟩:=x
  simp only
  rw[if_neg]
  intro hc
  simp only[Bool.and_eq_true,Bool.not_eq_true']at hc
  rw[h p q X rfl hc.1]at hc;cases hc.2
theorem A7 {D:Nat->Bool}{p q:Nat}{X:aj}(hx:xp=some (p,q,X))(h1:D q=true)(h2:D p=false):vX S m T xp D=X:=by
 unfold vX
 rw[hx]
 simp[h1,h2]
theorem Iq.two (hR:Iq S P O wl aa n ops m bD T xp){i j:Nat}{a b:aU}(hi:m[i]?=some a)(h:apart S bD i j a b=true)(ha:a.op.nu S=true)(hb:b.op.nu S=true):∃X,xp=some (i,j,X):=by
 have hm:=(wu h).1 ⟨ha,hb⟩
 have n8:i<100000:=Nat.lt_trans (List.getElem?_eq_some_iff.1 hi).1 hR.dr.small
 cases hx:xp with
 |none=>exact absurd hm (hR.sn hx i j n8)
 |some x=>
  obtain⟨p,q,X⟩:=x
  obtain⟨rfl,rfl⟩:=(hR.sp p q X hx).un i j n8 hm
  exact⟨X,rfl⟩
theorem Cu.Oa (hR:Iq S P O wl aa n ops m bD T xp)(h:Cu ops m D k o so)(hw:so.op.nu S=true){j:Nat}{b:aU}(hj:m[j]?=some b)(hb:b.op.nu S=true)(hd:D j≠decide (j<k)) :
  (j<k/\D j=false/\∃X,xp=some (j,k,X))\/(k<j/\D j=true/\∃X,xp=some (k,j,X)):=by
 rcases h.apart hR hj hd with⟨h1,h2,h3⟩|⟨h1,h2,h3⟩
 ·exact .inl ⟨h1,h2,hR.two hj h3 hb hw⟩
 ·exact .inr ⟨h1,h2,hR.two h.hs h3 hw hb⟩
theorem Iq.at (hR:Iq S P O wl aa n ops m bD T xp){D:Nat->Bool}{t:Nat}(ht:t<=m.length)(h:∀(j:Nat) b,m[j]?=some b->b.op.nu S=true->D j=decide (j<t)):vS S m T D=(T t).st:=by
 rw[<-N9 hR.tx ht]
 refine kY λj hj hd=>?_
 have hm:m[j]?=some m[j]:=List.getElem?_eq_getElem hj
 simp only[I4,hm]
 rw[if_neg]
 intro hjw
 exact hd (h j _ hm hjw)
def k7 (D:Nat->Bool)(k:Nat):Nat->Bool:=λj=>if j=k then true else D j
theorem nV {j:Nat}(h:j≠k):k7 D k j=D j:=by simp[k7,h]
theorem wz:k7 D k k=true:=by simp[k7]
theorem Cu.write (hR:Iq S P O wl aa n ops m bD T xp)(h:Cu ops m D k o so)(hw:so.op.nu S=true) :
  (vX S m T xp D=(T k).st/\vX S m T xp (k7 D k)=(T (k+1)).st)\/
  (∃p X,xp=some (p,k,X)/\vX S m T xp D=(T p).st/\vX S m T xp (k7 D k)=X)\/
  (∃q X,xp=some (k,q,X)/\vX S m T xp D=X/\vX S m T xp (k7 D k)=(T (q+1)).st):=by
 have hk:=h.lt
 have plain:(∀(j:Nat) b,m[j]?=some b->b.op.nu S=true->D j=decide (j<k))->vS S m T D=(T k).st/\vS S m T (k7 D k)=(T (k+1)).st:=λiN=>by
  refine⟨hR.at (Nat.le_of_lt hk) iN,hR.at hk λj b hj hb=>?_⟩
  by_cases A6:j=k
  ·subst A6;rw[wz];simp
  ·rw[nV A6,iN j b hj hb]
   exact decide_eq_decide.2 ⟨λh=>by omega,λh=>by omega⟩
 cases hx:xp with
 |none=>
  refine .inl ?_
  have:=plain λj b hj hb=>Classical.byContradiction λhd=>by
   rcases h.Oa hR hw hj hb hd with⟨_,_,X,e⟩|⟨_,_,X,e⟩<;>rw[hx]at e<;>cases e
  exact this
 |some x=>
  obtain⟨p,q,X⟩:=x
  have sp:=hR.sp p q X hx
  have SI:q<m.length:=sp.ql
  have Nt:p<m.length:=Nat.lt_trans sp.lt SI
  have SF:m[p]?=some m[p]:=List.getElem?_eq_getElem Nt
  have hqm:m[q]?=some m[q]:=List.getElem?_eq_getElem SI
  have hpw:=(sp.wp _ SF).1
  have hqw:=(sp.wq _ hqm).1
  have Rx:=sp.lt
  rw[<-hx]
  have other:∀(j:Nat) b,m[j]?=some b->b.op.nu S=true->D j≠decide (j<k)->(j=p/\k=q/\D p=false)\/(k=p/\j=q/\D q=true):=λj b hj hb hd=>by
   rcases h.Oa hR hw hj hb hd with⟨_,g,X',e⟩|⟨_,g,X',e⟩
   ·rw[hx]at e;cases e;exact .inl ⟨rfl,rfl,g⟩
   ·rw[hx]at e;cases e;exact .inr ⟨rfl,rfl,g⟩
  by_cases SJ:k=q
  ·subst SJ
   cases hDp:D p with
   |true=>
    refine .inl ?_
    have iN:∀(j:Nat) b,m[j]?=some b->b.op.nu S=true->D j=decide (j<k):=λj b hj hb=>Classical.byContradiction λhd=>by
     rcases other j b hj hb hd with⟨_,_,g⟩|⟨g,_,_⟩
     ·rw[hDp]at g;cases g
     ·omega
    rw[oN λp' q' X' e hq=>?_,oN λp' q' X' e hq=>?_]
    ·exact plain iN
    ·rw[hx]at e;cases e;rw[nV (by omega)];exact hDp
    ·rw[hx]at e;cases e;exact hDp
   |false=>
    refine .inr (.inl ⟨p,X,hx,?_,?_⟩)
    ·rw[oN λp' q' X' e hq=>by rw[hx]at e;cases e;rw[h.new]at hq;cases hq]
     refine hR.at (by omega) λj b hj hb=>?_
     by_cases hjp:j=p
     ·subst hjp;rw[hDp];simp
     ·by_cases A6:j=k
      ·subst A6;rw[h.new];symm;rw[decide_eq_false_iff_not];omega
      ·by_cases Gm:p<j/\j<k
       ·have:=sp.gap j b Gm.1 Gm.2 hj
        rw[this]at hb;cases hb
       ·have:D j=decide (j<k):=Classical.byContradiction λhd=>by
         rcases other j b hj hb hd with⟨g,_,_⟩|⟨g,_,_⟩
         ·exact hjp g
         ·omega
        rw[this]
        exact decide_eq_decide.2 ⟨λh=>by omega,λh=>by omega⟩
    ·exact A7 hx wz (by rw[nV (by omega)];exact hDp)
  ·by_cases Zh:k=p
   ·subst Zh
    cases hDq:D q with
    |false=>
     refine .inl ?_
     have iN:∀(j:Nat) b,m[j]?=some b->b.op.nu S=true->D j=decide (j<k):=λj b hj hb=>Classical.byContradiction λhd=>by
      rcases other j b hj hb hd with⟨_,g,_⟩|⟨_,_,g⟩
      ·exact SJ g
      ·rw[hDq]at g;cases g
     rw[oN λp' q' X' e hq=>?_,oN λp' q' X' e hq=>?_]
     ·exact plain iN
     ·rw[hx]at e;cases e;exact wz
     ·rw[hx]at e;cases e;rw[hDq]at hq;cases hq
    |true=>
     refine .inr (.inr ⟨q,X,hx,A7 hx hDq h.new,?_⟩)
     rw[oN λp' q' X' e hq=>by rw[hx]at e;cases e;exact wz]
     refine hR.at sp.ql λj b hj hb=>?_
     by_cases A6:j=k
     ·subst A6;rw[wz];symm;rw[decide_eq_true_iff];omega
     ·rw[nV A6]
      by_cases hjq:j=q
      ·subst hjq;rw[hDq];simp
      ·by_cases Gm:k<j/\j<q
       ·have:=sp.gap j b Gm.1 Gm.2 hj
        rw[this]at hb;cases hb
       ·have:D j=decide (j<k):=Classical.byContradiction λhd=>by
         rcases other j b hj hb hd with⟨g,_,_⟩|⟨_,g,_⟩
         ·exact A6 g
         ·exact hjq g
        rw[this]
        exact decide_eq_decide.2 ⟨λh=>by omega,λh=>by omega⟩
   ·refine .inl ?_
    have iN:∀(j:Nat) b,m[j]?=some b->b.op.nu S=true->D j=decide (j<k):=λj b hj hb=>Classical.byContradiction λhd=>by
     rcases other j b hj hb hd with⟨_,g,_⟩|⟨g,_,_⟩
     ·exact SJ g
     ·exact Zh g
    have aaW:D q=true->D p=true:=λhq=>Classical.byContradiction λhp=>by
     have Wn:D p=false:=by simpa using hp
     have g1:=iN p _ SF hpw
     have g2:=iN q _ hqm hqw
     rw[Wn]at g1;rw[hq]at g2
     have g1:=of_decide_eq_false g1.symm
     have g2:=of_decide_eq_true g2.symm
     omega
    rw[oN λp' q' X' e hq=>?_,oN λp' q' X' e hq=>?_]
    ·exact plain iN
    ·rw[hx]at e;cases e
     rw[nV (λe=>SJ e.symm)]at hq;rw[nV (λe=>Zh e.symm)];exact aaW hq
    ·rw[hx]at e;cases e;exact aaW hq
theorem Cu.still (h:Cu ops m D k o so)(hR:Iq S P O wl aa n ops m bD T xp)(hw:so.op.nu S=false):vX S m T xp (k7 D k)=vX S m T xp D:=by
 have e:vS S m T (k7 D k)=vS S m T D:=by
  refine kY λj hj hd=>?_
  by_cases A6:j=k
  ·subst A6;simp[I4,h.hs,hw]
  ·rw[nV A6]at hd;exact absurd rfl hd
 cases hx:xp with
 |none=>simp only[vX];exact e
 |some x=>
  obtain⟨p,q,X⟩:=x
  have sp:=hR.sp p q X hx
  have h1:p≠k:=λhe=>by subst he;have:=(sp.wp _ h.hs).1;rw[hw]at this;cases this
  have h2:q≠k:=λhe=>by subst he;have:=(sp.wq _ h.hs).1;rw[hw]at this;cases this
  simp only[vX,nV h1,nV h2,e]
theorem Cu.seen (hR:Iq S P O wl aa n ops m bD T xp)(h:Cu ops m D k o so)(hn:so.op.I1=false)(hw:so.op.nu S=false) :
  vX S m T xp D=(T k).st\/cT O wl aa so (T k) (T (k+1)) (vX S m T xp D)=true:=by
 have mq:k<100000:=Nat.lt_trans h.lt hR.dr.small
 by_cases RC:∃p q X,xp=some (p,q,X)/\D q=true/\D p=false
 ·obtain⟨p,q,X,hx,hq,hp⟩:=RC
  right
  have sp:=hR.sp p q X hx
  rw[A7 hx hq hp]
  refine sp.rd k ?_ so h.hs
  have SI:q<m.length:=sp.ql
  have Nt:p<m.length:=Nat.lt_trans sp.lt SI
  have SF:m[p]?=some m[p]:=List.getElem?_eq_getElem Nt
  have hqm:m[q]?=some m[q]:=List.getElem?_eq_getElem SI
  rcases Nat.lt_trichotomy k q with SJ|SJ|SJ
  ·have ha:=hR.dr.apB D h.down k q so _ SJ h.new hq h.hs hqm
   rcases (wu ha).2.1 with e|e|e|e
   ·rw[hn]at e;cases e
   ·rw[(sp.wq _ hqm).1]at e;cases e
   ·rw[hw]at e;cases e
   ·exact sp.cl k q e mq (.inr rfl)
  ·subst SJ;rw[h.new]at hq;cases hq
  ·have ha:=hR.dr.apA D h.down k o h.ho h.pre p _ so (by have:=sp.lt;omega) hp SF h.hs
   rcases (wu ha).2.2 with e|e|e|e
   ·rw[hn]at e;cases e
   ·rw[(sp.wp _ SF).1]at e;cases e
   ·rw[hw]at e;cases e
   ·exact sp.cl k p e mq (.inl rfl)
 rw[oN λp q X hx hq=>Classical.byContradiction λhp=>RC ⟨p,q,X,hx,hq,by simpa using hp⟩]
 obtain⟨p,h1,h2,h3,h4⟩:=Kn (S:=S) (m:=m) (T:=T) D m.length (Nat.le_refl _)
 have hv:vS S m T D=(T p).st:=h2
 have hk:=h.lt
 have pair:∀(w:Nat) b,m[w]?=some b->b.op.nu S=true->D w≠decide (w<k)->(k,w)∈bD:=by
  intro w b hb hbw hd
  rcases h.apart hR hb hd with⟨_,_,ha⟩|⟨_,_,ha⟩
  ·rcases (wu ha).2.2 with e|e|e|e
   ·rw[hn]at e;cases e
   ·rw[hbw]at e;cases e
   ·rw[hw]at e;cases e
   ·exact e
  ·rcases (wu ha).2.1 with e|e|e|e
   ·rw[hn]at e;cases e
   ·rw[hbw]at e;cases e
   ·rw[hw]at e;cases e
   ·exact e
 by_cases hpk:p<=k
 ·obtain⟨d,hd⟩:∃d,k=p+d:=⟨k-p,by omega⟩
  rcases Ko S m p d (by omega) with hg|⟨w,b,g1,g2,g3,g4,g5⟩
  ·left
   rw[hv,hd]
   exact(wo hR.tx d (by omega) hg).symm
  ·right
   have hDw:=h4 w b g1 (by have:=(List.getElem?_eq_some_iff.1 g3).1;omega) g3 g4
   have hp:=pair w b g3 g4 (by rw[hDw,decide_eq_true (by omega)];simp)
   have e:(T p).st=(T w).st:=by
    obtain⟨d',CJ⟩:∃d,w=p+d:=⟨w-p,by omega⟩
    rw[CJ]
    exact(wo hR.tx d' (by have:=(List.getElem?_eq_some_iff.1 g3).1;omega) λj so a1 a2=>g5 j so a1 (by omega)).symm
   rw[hv,e]
   exact(hR.pr k w mq hp so h.hs).1
 ·right
  rcases h3 with h3|⟨q,b,rfl,g1,g2,g3⟩
  ·omega
  ·have hp:=pair q b g1 g3 (by
    by_cases hq:q=k
    ·subst hq;rw[h.new]at g2;cases g2
    ·rw[g2,decide_eq_false (by omega)];simp)
   rw[hv]
   exact(hR.pr k q mq hp so h.hs).2
theorem Cu.U8 (hR:Iq S P O wl aa n ops m bD T xp)(h:Cu ops m D k o so)(t:Nat):vT m T (k7 D k) t=if t∈oM so then cA (T (k+1)).env t else vT m T D t:=by
 have:=Gi (init:=cA (T 0).env) (vL:=I2 m T) (D:=D) (D':=k7 D k) (x:=t) (j:=k) h.lt h.new (λj=>rfl) λj h1 h2 h3 h4=>by
  have hb:m[j]?=some m[j]:=List.getElem?_eq_getElem h2
  have ha:=hR.dr.apB D h.down k j so _ h1 h.new h3 h.hs hb
  simp only[I2,h.hs]at h4
  simp only[I2,hb]
  rw[if_neg]
  intro Wm
  by_cases ht:t∈oM so
  ·exact((zR ha).1 t ht).2 Wm
  ·rw[if_neg ht]at h4;exact h4 rfl
 refine this.trans ?_
 simp only[I2,h.hs]
 split
 ·rfl
 ·rfl
theorem Cu.U9 (hR:Iq S P O wl aa n ops m bD T xp)(h:Cu ops m D k o so)(b:Nat):vB m T (k7 D k) b=if so.op.bW=some b then (T (k+1)).bx[b]? else vB m T D b:=by
 have:=Gi (init:=λb=>(T 0).bx[b]?) (vL:=I3 m T) (D:=D) (D':=k7 D k) (x:=b) (j:=k) h.lt h.new (λj=>rfl) λj h1 h2 h3 h4=>by
  have hb:m[j]?=some m[j]:=List.getElem?_eq_getElem h2
  have ha:=hR.dr.apB D h.down k j so _ h1 h.new h3 h.hs hb
  simp only[I3,h.hs]at h4
  simp only[I3,hb]
  rw[if_neg]
  intro Wm
  by_cases ht:so.op.bW=some b
  ·exact(Eh ha).1 b ht (U6 Wm)
  ·rw[if_neg ht]at h4;exact h4 rfl
 refine this.trans ?_
 simp only[I3,h.hs]
 split
 ·rfl
 ·rfl
end
end Ax
namespace Ax
open Go
variable {S:Nat->Option aC}{P:Program}{O:jf}{wl aa n:Nat}
variable {ops:Array Oper}{m:List aU}{bD:List (Nat×Nat)}{T:Nat->St}{xp:Option (Nat×Nat×aj)}
variable {w0 w w':World}{G0 G G':aK}{β fI:List kO}{A0:Nat->Nat}{a:Act}{bx:aS}
structure At (S:Nat->Option aC)(n:Nat)(m:List aU)(T:Nat->St)(xp:Option (Nat×Nat×aj))(w0:World)(G0:aK)(A0:Nat->Nat)(D:Nat->Bool)(w:World)(G:aK)(β:List kO)(a:Act)(bx:aS):Prop where
 fs:FS w G β a (vT m T D) bx (vX S m T xp D) n
 mv:Mv w0 G0 A0 w G (rJ β a (vT m T D) bx (vX S m T xp D) G n)
 bb:∀b,bx[b]?=vB m T D b
 bl:bx.length=(T 0).bx.length
 fp:∀(i:Nat) so j,m[i]?=some so->so.op.bq=some j->D i=false->∀t,(vT m T D t).mT j=true
theorem Text.SH (h:Text S O wl aa m T):∀{j:Nat},j<=m.length->(T j).bx.length=(T 0).bx.length
 |0,_=>rfl
 |j+1,hj=>by
  have hs:m[j]?=some m[j]:=List.getElem?_eq_getElem (by omega)
  rw[(h.one j _ hs).SH,h.SH (by omega)]
theorem I5 {e f:dK}(h:e.same f=true):e=f:=by
 cases e<;>cases f<;>simp[dK.same]at h
 ·rfl
 ·rw[D0 _ _ h]
 ·obtain⟨rfl,rfl⟩:=h;rfl
theorem I6 {op:fA}(h:op.I1=false):op.bA=none:=by
 cases op<;>simp[fA.I1,fA.bA]at h ⊢
theorem LX {η:Nat->dK}{j:Nat}(h:∀t,(η t).mT j=true)(s:Src):(xB η s).mT j=true:=by
 cases s with
 |const a=>rfl
 |tmp t mv=>
  cases mv with
  |true=>exact h t
  |false=>
   have:=h t
   simp only[xB]
   cases he:η t with
   |none=>rfl
   |val v=>rfl
   |fp i k=>rw[he]at this;exact this
theorem xP {η M5:Nat->dK}:∀{l:List Src},(∀t∈SE l,η t=M5 t)->l.map (xB η)=l.map (xB M5)
 |[],_=>rfl
 |.tmp t mv::l,h=>by
  simp only[List.map_cons]
  rw[xP (l:=l) λu hu=>h u (List.mem_cons_of_mem _ hu)]
  have:=h t List.mem_cons_self
  cases mv<;>simp only[xB,this]
 |.const a::l,h=>by
  simp only[List.map_cons]
  rw[xP (l:=l) λu hu=>h u hu]
  rfl
theorem SL {Q:Exit->Act->World->Prop}(hR:Iq S P O wl aa n ops m bD T xp)(hO:iV S P O){D:Nat->Bool}{k:Nat}{o:Oper}{so:aU}(h:Cu ops m D k o so)(hA:At S n m T xp w0 G0 A0 D w G β a bx){K:Act->World->Prop}
  (hK:∀w' G' fI a' eI,At S n m T xp w0 G0 A0 (k7 D k) w' G' fI a' eI->K a' w'):wpOp P ops Q k K a w:=by
 have one:=hR.tx.one k so h.hs
 have hwe:qW (vT m T D) so.guard=kL (T k).env so.guard:=by
  rw[C8]
  cases hg:so.guard with
  |none=>rfl
  |some x=>
   obtain⟨t,b⟩:=x
   have:=h.slot hR (t:=t) (.inr (by simp[vu,hg]))
   simp only[qW,this]
 obtain⟨b,hb⟩:∃b,kL (T k).env so.guard=some b:=by
  cases hw:kL (T k).env so.guard with
  |none=>exact absurd hw one.wan
  |some b=>exact⟨b,rfl⟩
 refine Kh (wl:=wl) (aa:=aa) h.ho (hR.dr.get k o so h.ho h.hs) hO hA.fs hA.mv.one (hwe.trans hb) (λhbf a' f1 f2=>?_) (λhbt=>?_)
 ·subst hbf
  obtain⟨n1,n2,n3⟩:=one.non hb
  have e1:js (vT m T D) so.dst (.val .undef)=vT m T (k7 D k):=by
   funext t
   rw[h.U8 hR]
   split
   ·rename_i ht
    rw[n1]
    simp only[js]
    split
    ·rfl
    ·exact h.slot hR (.inl ht)
   ·rename_i ht
    simp only[oM,List.mem_append,Option.mem_toList,not_or]at ht
    simp only[js]
    rw[if_neg ht.1]
  have e2:vX S m T xp (k7 D k)=vX S m T xp D:=by
   by_cases hw:so.op.nu S=true
   ·rcases h.write hR hw with⟨e1,e2⟩|⟨p,X,hx,_⟩|⟨q,X,hx,_⟩
    ·rw[e1,e2,n3]
    ·have:=(hR.sp p k X hx).wq so h.hs
     rw[this.2]at hb;cases hb
    ·have:=(hR.sp k q X hx).wp so h.hs
     rw[this.2]at hb;cases hb
   ·exact h.still hR (by simpa using hw)
  rw[e1,<-e2]at f1
  rw[e1,<-e2]at f2
  refine hK w G β a' bx ⟨f1,?_,λx=>?_,hA.bl,λi si j hi hj hD t=>?_⟩
  ·rw[e2]at f2 ⊢
   exact hA.mv.trans f2
  ·rw[h.U9 hR,hA.bb]
   split
   ·rename_i hx;rw[n2];exact h.box hR (U6 hx)
   ·rfl
  ·have jH:i≠k/\D i=false:=by
    unfold k7 at hD
    by_cases SM:i=k
    ·rw[if_pos SM]at hD;cases hD
    ·rw[if_neg SM]at hD;exact⟨SM,hD⟩
   rw[<-e1]
   simp only[js]
   split
   ·rfl
   ·exact hA.fp i si j hi hj jH.2 t
 ·subst hbt
  obtain⟨e,ha,y2⟩:=one.yes hb
  have uI:so.args.map (Fv (T k).env)=so.args.map (xB (vT m T D)):=by
   rw[List.map_congr_left (g:=xB (cA (T k).env)) λx _=>zP _ x]
   exact(xP λt ht=>h.slot hR (.inr (by simp[vu,ht]))).symm
  rw[uI]at ha
  have Wo:act O wl aa so.op (so.args.map (xB (vT m T D))) (vX S m T xp D) (T k).bx=some (e,vX S m T xp (k7 D k),(T (k+1)).bx):=by
   by_cases hw:so.op.nu S=true
   ·rcases h.write hR hw with⟨e1,e2⟩|⟨p,X,hx,e1,e2⟩|⟨q,X,hx,e1,e2⟩
    ·rw[e1,e2];exact ha
    ·rw[e1,e2,<-uI]
     rw[<-uI]at ha
     exact(hR.sp p k X hx).x1 so h.hs _ _ _ ha
    ·rw[e1,e2,<-uI]
     rw[<-uI]at ha
     exact(hR.sp k q X hx).x2 so h.hs _ _ _ ha
   ·have Dc:so.op.nu S=false:=by simpa using hw
    rw[h.still hR Dc]
    have eG:=one.Wl Dc
    by_cases hn:so.op.I1=true
    ·exact SB hn _ ha
    ·have NR:so.op.I1=false:=by simpa using hn
     rcases h.seen hR NR Dc with hs|hs
     ·rw[hs];rw[eG]at ha;exact ha
     ·unfold cT at hs
      rw[hb]at hs
      simp only at hs
      rw[uI]at hs
      split at hs
      ·rename_i e' bK eI I7
       have afx:=Kj hR.pu Dc I7
       subst afx
       have RD:=I6 NR
       obtain⟨rfl,_⟩:=Eg RD (T k).bx I7
       obtain⟨hbx,_⟩:=Eg RD (T k).bx ha
       rw[hbx]
       split at hs
       ·rename_i d hd
        have:=I5 hs
        rw[y2]at this
        simp only[js,hd,if_true]at this
        subst this
        exact I7
       ·cases hs
      ·cases hs
  obtain⟨vr,b1,b2,b3,b4,b5,_⟩:=Gl (vr:=bx) (by rw[hA.bl,hR.tx.SH (Nat.le_of_lt h.lt)]) (λb hb=>by rw[hA.bb];exact h.box hR hb) Wo
  refine⟨e,vX S m T xp (k7 D k),vr,b1,λj hj t _ _=>hA.fp k so j h.hs hj h.new t,λw' G' fI a' f1 f2=>?_⟩
  have e1:js (iL (vT m T D) (nU so.args)) so.dst e=vT m T (k7 D k):=by
   funext t
   rw[h.U8 hR]
   split
   ·rename_i ht
    rw[y2]
    simp only[js,iL]
    split
    ·rfl
    ·split
     ·rfl
     ·exact h.slot hR (.inl ht)
   ·rename_i ht
    simp only[oM,List.mem_append,Option.mem_toList,not_or]at ht
    simp only[js,iL]
    rw[if_neg ht.1,if_neg ht.2]
  rw[e1]at f1 f2
  refine hK w' G' fI a' vr ⟨f1,hA.mv.trans f2,λx=>?_,b3.trans hA.bl,λi si j hi hj hD t=>?_⟩
  ·rw[h.U9 hR]
   split
   ·rename_i hx;exact b4 x hx
   ·rename_i hx;rw[b5 x hx,hA.bb]
  ·have jH:i≠k/\D i=false:=by
    unfold k7 at hD
    by_cases SM:i=k
    ·rw[if_pos SM]at hD;cases hD
    ·rw[if_neg SM]at hD;exact⟨SM,hD⟩
   rw[<-e1]
   simp only[js,iL]
   split
   ·refine Wi b1 (λx hx=>?_) λhn=>?_
    ·obtain⟨s,_,rfl⟩:=List.mem_map.1 hx
     exact LX (λt=>hA.fp i si j hi hj jH.2 t) s
    ·rcases Nat.lt_or_gt_of_ne jH.1 with hl|hl
     ·exact hR.dr.boxes i k si so j hl hi h.hs hj hn
     ·exact hR.dr.boxes k i so si j hl h.hs hi hn hj
   ·split
    ·rfl
    ·exact hA.fp i si j hi hj jH.2 t
def gQ (dZ:Array Bool):Nat->Bool:=λk=>dZ.getD k false
theorem Ob {Q:Exit->Act->World->Prop}(hR:Iq S P O wl aa n ops m bD T xp)(hO:iV S P O)
  (hQ:∀w' G' fI a' eI D,(∀k,k<m.length->D k=true)->At S n m T xp w0 G0 A0 D w' G' fI a' eI->Q .normal a' w') :
  ∀(fuel:Nat) (dZ:Array Bool) (a:Act) (w:World) (G:aK) (β:List kO) (bx:aS),dZ.size=ops.size->Down ops (gQ dZ)->fH (λk=>if gQ dZ k then 0 else 1) ops.size<=fuel->
   At S n m T xp w0 G0 A0 (gQ dZ) w G β a bx->wpAny P .any ops Q fuel dZ a w:=by
 have LY:∀(dZ:Array Bool) (a:Act) (w:World) (G:aK) (β:List kO) (bx:aS),dZ.size=ops.size->At S n m T xp w0 G0 A0 (gQ dZ) w G β a bx->Region.ready .any ops dZ=[]->Q .normal a w:=by
  intro dZ a w G β bx dL hA hr
  refine hQ w G β a bx _ (λk=>?_) hA
  induction k using Nat.strongRecOn with
  |_ k ih=>
   intro hk
   cases hd:gQ dZ k with
   |true=>rfl
   |false=>
    exfalso
    rw[hR.dr.len]at hk
    have ho:ops[k]?=some ops[k]:=by simp[hk]
    have:k∈Region.ready .any ops dZ:=by
     rw[mem_ready]
     refine⟨?_,ops[k],ho,λe he hb=>?_⟩
     ·have FZ:k<dZ.size:=by omega
      simp only[gQ,Array.getD,FZ,dif_pos]at hd ⊢
      exact hd
     ·have hp:e.on∈mo ops[k]:=by
       unfold mo
       exact List.mem_map.2 ⟨e,List.mem_filter.2 ⟨by simpa using he,hb⟩,rfl⟩
      have aZ:=hR.dr.lt k ops[k] ho e.on hp
      exact ih e.on aZ (by rw[hR.dr.len];omega)
    rw[hr]at this
    cases this
 intro fuel
 induction fuel with
 |zero=>
  intro dZ a w G β bx dL hD hf hA
  have iN:∀k,k<ops.size->gQ dZ k=true:=λk hk=>by
   have:=sJ (f:=λk=>if gQ dZ k then 0 else 1) hk
   cases hd:gQ dZ k with
   |true=>rfl
   |false=>simp only[hd,Bool.false_eq_true,if_false]at this;omega
  have hr:Region.ready .any ops dZ=[]:=by
   rw[List.eq_nil_iff_forall_not_mem]
   intro j hj
   rw[mem_ready]at hj
   obtain⟨h1,o,ho,_⟩:=hj
   have hk:=(Array.getElem?_eq_some_iff.1 ho).1
   have h2:=iN j hk
   have FZ:j<dZ.size:=by omega
   simp only[gQ,Array.getD,FZ,dif_pos]at h1 h2
   rw[h1]at h2;cases h2
  exact⟨hr,LY dZ a w G β bx dL hA hr⟩
 |succ fuel ih=>
  intro dZ a w G β bx dL hD hf hA
  refine⟨LY dZ a w G β bx dL hA,λi hi=>?_⟩
  rw[mem_ready]at hi
  obtain⟨h1,o,ho,h3⟩:=hi
  have hk:=(Array.getElem?_eq_some_iff.1 ho).1
  have hkm:i<m.length:=by rw[hR.dr.len];exact hk
  have hs:m[i]?=some m[i]:=List.getElem?_eq_getElem hkm
  have FZ:i<dZ.size:=by omega
  have qt:gQ dZ i=false:=by
   simp only[gQ,Array.getD,FZ,dif_pos]at h1 ⊢
   exact h1
  have SN:∀p∈mo o,gQ dZ p=true:=by
   intro p hp
   unfold mo at hp
   obtain⟨e,he,rfl⟩:=List.mem_map.1 hp
   obtain⟨he1,he2⟩:=List.mem_filter.1 he
   exact h3 e (by simpa using he1) he2
  have afy:Cu ops m (gQ dZ) i o m[i]:=⟨hD,ho,hs,SN,qt⟩
  have Kp:gQ (dZ.setIfInBounds i true)=k7 (gQ dZ) i:=by
   funext j
   by_cases hj:j=i
   ·subst hj
    simp[gQ,k7,FZ]
   ·simp[gQ,k7,hj,show ¬i=j from λe=>hj e.symm]
  refine SL hR hO afy hA λw' G' fI a' eI Gc=>?_
  rw[<-Kp]at Gc
  refine ih _ a' w' G' fI eI (by simp[dL]) ?_ ?_ Gc
  ·intro j oj hoj hj p hp
   rw[Kp]at hj ⊢
   unfold k7 at hj ⊢
   by_cases hji:j=i
   ·subst hji
    rw[ho]at hoj;cases hoj
    split
    ·rfl
    ·exact SN p hp
   ·rw[if_neg hji]at hj
    split
    ·rfl
    ·exact hD j oj hoj hj p hp
  ·have h5:=qv (f:=λk=>if gQ (dZ.setIfInBounds i true) k then 0 else 1) (g:=λk=>if gQ dZ k then 0 else 1) (d:=i) hk λt ht=>by
    rw[Kp];simp[k7,ht]
   have e1:gQ (dZ.setIfInBounds i true) i=true:=by rw[Kp];simp[k7]
   simp only[e1,qt,if_true,Bool.false_eq_true,if_false]at h5
   omega
theorem I8 {wl aa:Nat}{st bK:aj}{i v x y:Nat}{cs:List AV}(h:dz wl aa st (.ptr i v x y) cs=some bK):∃o,bK=st.set i o/\∀(lf:aj),lf[i]?=st[i]?->dz wl aa lf (.ptr i v x y) cs=some (lf.set i o):=by
 unfold dz at h
 simp only at h
 split at h
 ·rename_i v' sz rows eG
  split at h
  ·rename_i hc
   split at h
   ·rename_i r hr
    split at h
    ·rename_i hl
     simp only[Option.some.injEq]at h
     refine⟨_,h.symm,λlf h2=>?_⟩
     unfold dz
     simp only[h2,eG,if_pos hc,hr,if_pos hl]
    ·cases h
   ·cases h
  ·cases h
 ·cases h
theorem Dd {O:jf}{wl aa:Nat}{n:Nat}{st bK:aj}{bx eI:aS}{i v x y:Nat}{u:AV}{e:dK}(h:act O wl aa (.store n) [.val (.ptr i v x y),.val u] st bx=some (e,bK,eI)) :
  ∃o,bK=st.set i o/\eI=bx/\∀(lf:aj) (vr:aS),lf[i]?=st[i]?->act O wl aa (.store n) [.val (.ptr i v x y),.val u] lf vr=some (e,lf.set i o,vr):=by
 simp only[act,aI]at h
 split at h
 ·rename_i hc
  split at h
  ·rename_i s1 hw
   cases h
   obtain⟨o,h1,h2⟩:=I8 hw
   refine⟨o,h1,rfl,λlf vr he=>?_⟩
   simp only[act,aI,if_pos hc,h2 lf he]
  ·cases h
 ·cases h
theorem Gn {id:Nat}{Q:Exit->Act->World->Prop}{s e:St}(hm:Kl S P ops n m bD=true)(hO:iV S P O)(hP:yT S O)(_hs:FT w G β a s n)(h1:∀b,fK β a s G n b<=1)(he:fq O wl aa m bD s=some e)
  (Wp:∀d,FT { w with drawn:=d } G β a s n/\∀w' G' A',Mv { w with drawn:=d } G (fK β a s G n) w' G' A'->Mv w G (fK β a s G n) w' G' A')
  (hQ:∀w' G' fI a',FT w' G' fI a' e n->Mv w G (fK β a s G n) w' G' (fK fI a' e G' n)->Q .normal a' w'):(Code.region id ops true).wp P Q a w:=by
 have hd:=NZ hm
 unfold fq at he
 split at he
 ·cases he
 ·rename_i e' gp hr
  split at he
  ·rename_i hc
   cases he
   simp only[Bool.and_eq_true,List.all_eq_true]at hc
   obtain⟨r1,r2,r3,r4⟩:=yU hr
   let T:Nat->St:=λk=>(gp[k]?).getD s
   have hT:∀(i:Nat) x,gp[i]?=some x->T i=x:=λi x hx=>by simp only[T,hx,Option.getD_some]
   have tx:Text S O wl aa m T:=⟨λi so hi=>by
    obtain⟨x,y,a1,a2,a3⟩:=r4 i so hi
    rw[hT i x a1,hT (i+1) y a2]
    exact aft hP a3⟩
   obtain⟨xp,hsn,nS⟩:∃xp:Option (Nat×Nat×aj),(xp=none->∀i j,i<100000->(100000+i,j) ∉ bD)/\∀p q X,xp=some (p,q,X)->Spc S O wl aa m bD T p q X:=by
    by_cases hex:∃p q,p<100000/\(100000+p,q)∈bD
    ·obtain⟨p,q,hp,Rx⟩:=hex
     obtain⟨t1,⟨a,b,t2,t3,t4,t5,t6,t7⟩,t8,t9,t10⟩:=hd.xt p q hp Rx
     have SI:q<m.length:=(List.getElem?_eq_some_iff.1 t3).1
     have UY:=hc.1 _ Rx
     unfold gG at UY
     simp only[show ¬100000+p<100000 by omega,if_false,show (100000+p) % 100000=p by omega]at UY
     cases hX:xSt wl aa m gp p q with
     |none=>rw[hX]at UY;cases UY
     |some X=>
      refine⟨some (p,q,X),⟨λh=>(by cases h),λp' q' X' h=>?_⟩⟩
      cases h
      have Gm:(T q).st=(T (p+1)).st:=by
       obtain⟨d,CJ⟩:∃d,q=p+1+d:=⟨q-(p+1),by omega⟩
       rw[CJ]
       exact wo tx d (by omega) λj so a1 a2 a3=>t8 j so (by omega) (by omega) a3
      unfold xSt at hX
      split at hX
      ·rename_i a' s' b' t' g1 g2 g3 g4
       rw[t2]at g1;cases g1
       rw[t3]at g3;cases g3
       have zo:=hT p s' g2
       have ht':=hT q t' g4
       subst zo ht'
       split at hX
       ·rename_i ao av bo bv ma i vi xi yi ui mb j vj xj yj uj k1 k2 k3 k4
        split at hX
        ·cases hX
        ·rename_i zn
         split at hX
         ·rename_i e0 X0 b0 zq
          cases hX
          have aaY:act O wl aa (.store mb) [.val (.ptr j vj xj yj),.val uj] (T p).st []=some (e0,X,b0):=zq
          obtain⟨ob,o1,o2,o3⟩:=Dd aaY
          have afA:=tx.one p a t2
          obtain⟨ep,ap,_⟩:=afA.yes (by rw[t6];rfl)
          rw[k1,k2]at ap
          obtain⟨oa,p1,p2,p3⟩:=Dd ap
          have afB:=tx.one q b t3
          obtain⟨eq,aq,_⟩:=afB.yes (by rw[t7];rfl)
          rw[k3,k4]at aq
          have aaZ:(T q).st[j]?=(T p).st[j]?:=by rw[Gm,p1,List.getElem?_set_ne zn]
          have q1:(T (q+1)).st=(T q).st.set j ob:=by
           have:=o3 (T q).st (T q).bx aaZ
           rw[this]at aq
           simp only[Option.some.injEq,Prod.mk.injEq]at aq
           exact aq.2.1.symm
          refine⟨t1,SI,Rx,λa' I7=>?_,λa' I7=>?_,t8,t10,t9,λa' I7 e bx eI hh=>?_,λa' I7 e bx eI hh=>?_,λk hk o ho=>?_⟩
          ·rw[t2]at I7;cases I7
           exact⟨by rw[k1];rfl,t6⟩
          ·rw[t3]at I7;cases I7
           exact⟨by rw[k3];rfl,t7⟩
          ·rw[t3]at I7;cases I7
           rw[k3,k4]at hh ⊢
           rw[o3 (T q).st bx aaZ]at hh
           simp only[Option.some.injEq,Prod.mk.injEq]at hh
           rw[o3 (T p).st bx rfl,hh.1,hh.2.2,o1]
          ·rw[t2]at I7;cases I7
           rw[k1,k2]at hh ⊢
           rw[p3 (T p).st bx rfl]at hh
           simp only[Option.some.injEq,Prod.mk.injEq]at hh
           rw[p3 X bx (by rw[o1,List.getElem?_set_ne (λe=>zn e.symm)]),hh.1,hh.2.2,q1,Gm,p1,o1,List.set_comm _ _ zn]
          ·have:=hc.1 _ hk
           unfold gG at this
           simp only[show ¬100000*(k+2)+p<100000 by omega,if_false,show (100000*(k+2)+p) % 100000=p by omega,show ¬100000*(k+2)+p<200000 by omega,show (100000*(k+2)+p) / 100000-2=k by omega]at this
           have hX2:xSt wl aa m gp p q=some X:=by
            unfold xSt
            simp only[t2,t3,g2,g4,k1,k2,k3,k4,if_neg zn,zq]
           rw[hX2]at this
           simp only at this
           split at this
           ·rename_i o' x y g5 g6 g7
            rw[ho]at g5;cases g5
            rw[hT k x g6,hT (k+1) y g7]
            exact this
           ·cases this
         ·cases hX
       ·cases hX
      ·cases hX
    ·exact⟨none,⟨λ_ i j hi zn=>hex ⟨i,j,hi,zn⟩,λ_ _ _ h=>(by cases h)⟩⟩
   have hR:Iq S P O wl aa n ops m bD T xp:=by
    refine⟨hd,tx,λq w SI hqw o ho=>?_,hsn,nS,λi so j hi hj=>?_,hP⟩
    ·have:=hc.1 (q,w) hqw
     unfold gG at this
     simp only[SI,if_true]at this
     split at this
     ·rename_i o' x y x' y' g1 g2 g3 g4 g5
      rw[ho]at g1;cases g1
      rw[hT q x g2,hT (q+1) y g3,hT w x' g4,hT (w+1) y' g5]
      simpa only [Bool.and_eq_true] using this
     ·cases this
    ·have:=hc.2 so (cD hi)
     unfold bp at this
     rw[hj]at this
     rw[hT 0 s r2]
     exact this
   have h0:T 0=s:=hT 0 s r2
   have Oc:gQ (Array.replicate ops.size false)=λ_=>false:=by
    funext k
    simp only[gQ,Array.getD,Array.size_replicate,Array.getInternal_eq_getElem,Array.getElem_replicate]
    split<;>rfl
   have Od:∀{K V:Type} (init:K->V) (vL:Nat->K->Option V) (N:Nat) (x:K),mZ init vL (λ_=>false) N x=init x:=by
    intro K V init vL N x
    induction N with
    |zero=>rfl
    |succ N ih=>simp only[mZ,ih];rfl
   obtain⟨d1,d2⟩:=Wp (w.drawn+1)
   refine wp_region_any hd.fol (Ob (w0:={ w with drawn:=w.drawn+1 }) (G0:=G) (A0:=fK β a s G n) hR hO (λw' G' fI a' eI D hD hA=>?_) ops.size _ a _ G β s.bx (by simp) ?_ ?_ ?_)
   ·have iN:∀{K V:Type} (init:K->V) (vL:Nat->K->Option V) (x:K),mZ init vL D m.length x=mZ init vL (λk=>decide (k<m.length)) m.length x:=λinit vL x=>kY λk hk jH=>by
     rw[hD k hk,decide_eq_true hk]at jH;exact absurd rfl jH
    have hTe:T m.length=e:=hT _ e r3
    have e1:vT m T D=cA e.env:=by
     funext t
     rw[<-hTe,<-N6 tx (Nat.le_refl _)]
     exact iN _ _ t
    have e2:vX S m T xp D=e.st:=by
     rw[oN λp q X hx _=>hD p (by have:=nS p q X hx;have:=this.lt;have:=(nS p q X hx).ql;omega)]
     rw[<-hTe,<-N9 tx (Nat.le_refl _)]
     exact iN _ _ ()
    have e3:eI=e.bx:=by
     apply List.ext_getElem?
     intro b
     rw[hA.bb b,<-hTe,<-N8 tx (Nat.le_refl _)]
     exact iN _ _ b
    have f1:=hA.fs
    have f2:=hA.mv
    rw[e1,e2,e3]at f1 f2
    exact hQ w' G' fI a' f1 (d2 _ _ _ f2)
   ·intro j o _ hj
    rw[Oc]at hj;cases hj
   ·rw[Oc]
    have:∀N,fH (λ_=>1) N=N:=λN=>by induction N with|zero=>rfl|succ N ih=>simp[fH,ih]
    simp[this]
   ·rw[Oc]
    have e1:vT m T (λ_=>false)=cA s.env:=by funext t;rw[<-h0];exact Od _ _ _ t
    have e2:vX S m T xp (λ_=>false)=s.st:=by rw[oN λp q X _ h=>by cases h];rw[<-h0];exact Od _ _ _ ()
    refine⟨?_,?_,λb=>?_,by rw[h0],λi so j hi hj _ t=>?_⟩
    ·rw[e1,e2];exact d1
    ·rw[e1,e2];exact Mv.refl h1
    ·rw[<-h0];exact(Od _ _ _ b).symm
    ·rw[e1,<-h0];exact AS (hR.bo i so j hi hj) t
  ·cases he
end Ax
namespace Ax
open Go
variable {S:Nat->Option aC}{P:Program}{O:jf}{wl aa n:Nat}
variable {w w':World}{G G':aK}{β fI:List kO}{a:Act}{s s':St}
def A8:Code->Code
 |.scope c=>A8 c
 |c=>c
def Ei (S:Nat->Option aC)(P:Program)(n:Nat)(ops:Array Oper)(draw:Bool)(m:List aU):Option (List (Nat×Nat))->Bool
 |none=>!draw&&oL S P ops n ops.toList m
 |some bD=>draw&&Kl S P ops n m bD
def iB (S:Nat->Option aC)(P:Program)(n:Nat):bG->Code->Bool
 |.skip,c=>match A8 c with|.skip=>true|_=>false
 |.region m draw _,c=>match A8 c with
  |.region _ ops d=>Ei S P n ops d m draw
  |_=>false
 |.seq x y,c=>match x with
  |.Nl _=>iB S P n y c
  |.Ai _ _=>iB S P n y c
  |.uw _ _=>iB S P n y c
  |x=>match A8 c with
   |.seq a b=>iB S P n x a&&iB S P n y b
   |_=>false
 |.cond t _ x _ y,c=>match A8 c with
  |.cond u a b=>Ix u t&&iB S P n x a&&iB S P n y b
  |_=>false
 |.block i x,c=>match A8 c with
  |.block j a=>i==j&&iB S P n x a
  |_=>false
 |.loop x,c=>match A8 c with
  |.loop a=>iB S P n x a
  |_=>false
 |.exit i,c=>match A8 c with
  |.exit j=>i==j
  |_=>false
 |.ret,c=>match A8 c with
  |.ret=>true
  |_=>false
 |.Nl _,_=>false
 |.Ai _ _,_=>false
 |.uw _ _,_=>false
def A9:Ex->Exit
 |.normal=>.normal
 |.exit id=>.exit id
 |.ret _=>.ret
def Pst (n:Nat)(rs:List jA)(A:Nat->Nat)(w:World)(G:aK)(x:Ex)(s':St)(w':World)(G':aK)(fI:List kO)(a':Act):Prop:=
 ∃sr,FT w' G' fI a' sr n/\Mv w G A w' G' (fK fI a' sr G' n)/\(match x with|.ret v=>u9 sr rs=some v/\s'.st=sr.st|_=>s'=sr)
theorem Pst.trans {rs:List jA}{A A1:Nat->Nat}{w1:World}{G1:aK}{x:Ex}{a':Act}(h:Mv w G A w1 G1 A1)(k:Pst n rs A1 w1 G1 x s' w' G' fI a'):Pst n rs A w G x s' w' G' fI a':=by
 obtain⟨sr,h1,h2,h3⟩:=k
 exact⟨sr,h1,h.trans h2,h3⟩
def Ej (P:Program)(c:Code)(Q:Exit->Act->World->Prop)(a:Act)(w:World):Prop:=
 ∀(b:Frame) (k:List Item) (cs:List Frame),∃e a' w',Q e a' w'/\Arrives P (lone (b.at a (.code c::.inLoop c::k)) cs w) b k cs e a' w'
theorem Gp {c:Code}{Q:Exit->Act->World->Prop}{w:World}(h:c.wp P (Exit.then (Ej P c Q) Q) a w):Ej P c Q a w:=by
 intro b k cs
 obtain⟨e,Oe,Of,hq,Gq⟩:=h b (.inLoop c::k) cs
 cases e with
 |normal=>
  obtain⟨afD,afE,afF,aa1,SO⟩:=hq b k cs
  exact⟨afD,afE,afF,aa1,.of_steps (Steps.trans Gq (.one step_inLoop)) SO⟩
 |exit id=>exact⟨_,Oe,Of,hq,.pass (x:=.inLoop c) rfl (λ_ _=>.inl (by simp)) Gq⟩
 |goto l=>exact⟨_,Oe,Of,hq,.pass (x:=.inLoop c) rfl (λ_ _=>.inl (by simp)) Gq⟩
 |ret=>exact⟨_,Oe,Of,hq,.pass (x:=.inLoop c) rfl (λ_ _=>.inl (by simp)) Gq⟩
 |panic ch=>exact⟨_,Oe,Of,hq,.pass (x:=.inLoop c) rfl (λ_ _=>.inl (by simp)) Gq⟩
 |outgrown=>exact⟨_,Oe,Of,hq,.pass (x:=.inLoop c) rfl (λ_ _=>.inl (by simp)) Gq⟩
theorem Gr {c:Code}{Q:Exit->Act->World->Prop}{w:World}(h:Ej P c Q a w):(Code.loop c).wp P Q a w:=by
 intro b k cs
 obtain⟨e,a',w',hq,Gq⟩:=h b k cs
 exact⟨e,a',w',hq,.of_steps (.one step_loop) Gq⟩
theorem nW {Q:Exit->Act->World->Prop}{w:World}:∀{c:Code},(A8 c).wp P (Exit.noGoto Q) a w->c.wp P Q a w
 |.scope c,h=>wp_scope_straight (nW (c:=c) (wp_mono h λe _ _ he=>by cases e<;>exact he))
 |.skip,h|.region ..,h|.seq ..,h|.cond ..,h|.block ..,h|.loop ..,h|.rangeFunc ..,h|.exit _,h|.label _,h|.goto _,h|.refuse _,h|.ret,h=>wp_mono h λe _ _ he=>by
  cases e<;>first|exact he|exact he.elim
def tS (S:Nat->Option aC)(P:Program)(O:jf):Prop:=
 ∀wl aa rs c s x s',O.loop wl aa rs c s=some (x,s')->∀code n,iB S P n c code=true->∀(w:World) (G:aK) (β:List kO) (a:Act),FT w G β a s n->(∀b,fK β a s G n b<=1)->
  ∀(Q:Exit->Act->World->Prop),(∀w' G' fI a',Pst n rs (fK β a s G n) w G x s' w' G' fI a'->Q (A9 x) a' w')->Ej P code Q a w
theorem FT.clear (h:FT w G β a s n)(l:List Nat):FT w G β a { s with env:=gH l s.env } n/\∀b,fK β a { s with env:=gH l s.env } G n b<=fK β a s G n b:=
 FS.forget h λt=>by
  simp only[qT]
  split
  ·exact .inr rfl
  ·exact .inl rfl
theorem FT.kill (h:FT w G β a s n)(c:Src)(l:List Nat):FT w G β a { s with env:=gH l (kD s.env c) } n/\∀b,fK β a { s with env:=gH l (kD s.env c) } G n b<=fK β a s G n b:=
 FS.forget h λt=>by
  have h1:=qu t [c] s.env
  simp only[List.foldl_cons,List.foldl_nil]at h1
  simp only[qT,h1]
  split
  ·exact .inr rfl
  ·split
   ·exact .inr rfl
   ·exact .inl rfl
theorem Mv.less {A A' A'':Nat->Nat}(h:Mv w G A w' G' A')(hl:∀b,A'' b<=A' b):Mv w G A w' G' A'':=
 h.weaken (λ_=>Nat.le_refl _) (λb hb=>Nat.le_trans (hl b) (h.eH b hb)) λb=>Nat.le_trans (hl b) (h.one b)
theorem tT (w:World)(G:aK)(d:Nat):pF w G { w with drawn:=d } G:=⟨λ_ _ hi=>⟨rfl,hi⟩,λ_ loc h=>⟨loc,h,Nat.le_refl _,λ_=>rfl⟩⟩
theorem FT.drawn (h:FT w G β a s n)(d:Nat):FT { w with drawn:=d } G β a s n where
 defs:=h.defs
 size:=h.size
 rep:=λt=>(h.rep t).iu (tT w G d) λ_ _=>⟨rfl,rfl⟩
 lt:=h.lt
 inv:=sE h.inv (tT w G d) rfl (λ_ _=>⟨rfl,rfl⟩) h.inv.kP
 box:=kX h.box (tT w G d) λ_ _=>⟨rfl,rfl⟩
theorem Mv.drawn {A A':Nat->Nat}{d:Nat}(h:Mv { w with drawn:=d } G A w' G' A'):Mv w G A w' G' A':=
 ⟨(tT w G d).trans h.iu,h.eH,h.one,λb hb h0=>h.sB b hb h0,h.size,h.os,h.out⟩
theorem Wq {t:Nat}{v v':AV}{bK:aj}(hs:FT w G β a s n)(h1:∀b,fK β a s G n b<=1)(hv:cA s.env t=.val v)(hf:jq wl v s.st=some (v',bK)) :
  ∃G',FT w G' β a ⟨rZ s.env t (.val v'),s.bx,bK⟩ n/\Mv w G (fK β a s G n) w G' (fK β a ⟨rZ s.env t (.val v'),s.bx,bK⟩ G' n):=by
 have htn:t<n:=by
  rcases Nat.lt_or_ge t n with h|h
  ·exact h
  ·rw[hs.lt t h]at hv;cases hv
 have CH:=hs.rep t
 rw[hv]at CH
 obtain⟨G',hF,hr,hY⟩:=vp (w:=w) hs.inv (λb=>by have:=h1 b;unfold fK rJ at this;omega) CH hf
 have ID:∀b,cg b (.val v') (jP a t)=0:=λb=>dN b _ _ hY
 have eG:∀b,0<cg b (cA s.env t) (jP a t)\/True:=λ_=>.inr trivial
 have Gf:∀b,fH (λu=>cg b (cA (rZ s.env t (.val v')) u) (jP a u)) n<=fH (λu=>cg b (cA s.env u) (jP a u)) n:=λb=>zM λu _=>by
  rw[sI]
  by_cases hu:u=t
  ·subst hu;rw[if_pos rfl,ID b];omega
  ·rw[if_neg hu];exact Nat.le_refl _
 have Ba:∀b,0<fH (λu=>cg b (cA s.env u) (jP a u)) n+fj b β s.bx->dw w G w G' b:=λb hb=>⟨hF.sB b (by have:=h1 b;unfold fK rJ at this;omega),rfl⟩
 have hle:∀b,fK β a ⟨rZ s.env t (.val v'),s.bx,bK⟩ G' n b<=fK β a s G n b:=λb=>by
  have e1:=Gf b
  have e2:=hF.eH b
  show fH (λu=>cg b (cA (rZ s.env t (.val v')) u) (jP a u)) n+fj b β s.bx+bS b G'.ls bK<=fH (λu=>cg b (cA s.env u) (jP a u)) n+fj b β s.bx+bS b G.ls s.st
  omega
 refine⟨G',⟨hs.defs,hs.size,λu=>?_,λu hu=>?_,hF.inv,kX (bx:=s.bx) hs.box hF.iu λb hb=>Ba b (by omega)⟩,⟨hF.iu,λb _=>hle b,λb=>Nat.le_trans (hle b) (h1 b),λb hb h0=>?_,Nat.le_refl _,rfl,rfl⟩⟩
 ·show jv w G' β (cA (rZ s.env t (.val v')) u) (jP a u)
  rw[sI]
  by_cases hu:u=t
  ·subst hu;rw[if_pos rfl];exact hr
  ·rw[if_neg hu]
   refine(hs.rep u).iu hF.iu λb hb=>Ba b ?_
   have FY:u<n:=by
    rcases Nat.lt_or_ge u n with h|h
    ·exact h
    ·rw[hs.lt u h]at hb;simp[cg]at hb
   have:=sJ (f:=λu=>cg b (cA s.env u) (jP a u)) FY
   omega
 ·show cA (rZ s.env t (.val v')) u=.none
  rw[sI,if_neg (by omega)]
  exact hs.lt u hu
 ·have:bS b G.ls s.st=0:=by unfold fK rJ at h0;omega
  exact⟨hF.sB b this,rfl⟩
theorem wA {wl:Nat}{v v':AV}{st bK:aj}(h:jq wl v st=some (v',bK)):v'.cv=true:=by
 unfold jq at h
 split at h
 ·split at h
  ·split at h
   ·split at h
    ·cases h;rfl
    ·cases h
   ·cases h
  ·cases h
 ·cases h;rfl
 ·cases h
theorem vW.put {row:List AV}{g:kO}{k:Nat}{v:AV}{u:Value}(h:vW w G row g)(hk:k<row.length)(hu:g.vals[k]?=some u)(hr:aL w G v u)(hc:v.cv=true):vW w G (af row k [v]) g:=by
 have hv:bV w G [v] [u]:=⟨rfl,λi c x h1 h2=>by
  cases i with
  |zero=>simp at h1 h2;subst h1;subst h2;exact hr
  |succ i=>simp at h1⟩
 have hs:af g.vals k [u]=g.vals:=by
  have Zi:k<g.vals.length:=(List.getElem?_eq_some_iff.1 hu).1
  have e:=qQ g.vals k 1 (by omega)
  have e2:(g.vals.drop k).take 1=[u]:=by
   rw[List.drop_eq_getElem_cons Zi]
   simp[(List.getElem?_eq_some_iff.1 hu).2]
  rw[e2]at e
  exact e
 refine⟨?_,iT h.zG (by simp[AV.aH,hc]) (by simp;omega),?_⟩
 ·have:=h.rep.af hv (n:=k) (by simp;omega)
  rwa [hs]at this
 ·rcases h.nB with⟨h1,h2⟩|⟨b,c,e,h1,h2,h3,h4,h5⟩
  ·subst h2;simp at hk
  ·exact .inr ⟨b,c,e,h1,h2,by rw[cZ];exact h3,h4,h5⟩
theorem SQ {j k:Nat}{row:List AV}{v v':AV}{bK:aj}(hs:FT w G β a s n)(h1:∀b,fK β a s G n b<=1)(hr:s.bx[j]?=some row)(hv:row[k]?=some v)(hf:jq wl v s.st=some (v',bK)) :
  ∃G',FT w G' β a ⟨s.env,s.bx.set j (af row k [v']),bK⟩ n/\Mv w G (fK β a s G n) w G' (fK β a ⟨s.env,s.bx.set j (af row k [v']),bK⟩ G' n):=by
 have M6:=(List.getElem?_eq_some_iff.1 hr).1
 have iK:=(List.getElem?_eq_some_iff.1 hv).1
 obtain⟨g,hg⟩:∃g,β[j]?=some g:=⟨_,List.getElem?_eq_getElem (by rw[hs.box.len];exact M6)⟩
 have hbx:=hs.box.box j row g hr hg
 obtain⟨u,hu⟩:∃u,g.vals[k]?=some u:=⟨_,List.getElem?_eq_getElem (by rw[<-hbx.rep.1];exact iK)⟩
 obtain⟨G',hF,dc,hY⟩:=vp (w:=w) hs.inv (λb=>by have:=h1 b;unfold fK rJ at this;omega) (hbx.rep.2 k v u hv hu) hf
 have gK:=wA hf
 have Ba:∀b,0<fH (λu=>cg b (cA s.env u) (jP a u)) n+fj b β s.bx->dw w G w G' b:=λb hb=>⟨hF.sB b (by have:=h1 b;unfold fK rJ at this;omega),rfl⟩
 have hbc:∀b,fj b β (s.bx.set j (af row k [v']))<=fj b β s.bx:=λb=>by
  have e1:=vV b β s.bx j g row g (af row k [v']) hg hr
  have e2:β.set j g=β:=by
   obtain⟨hj,e⟩:=List.getElem?_eq_some_iff.1 hg
   rw[<-e];exact List.set_getElem_self _
  have zo:af g.vals k [u]=g.vals:=by
   have Zi:k<g.vals.length:=(List.getElem?_eq_some_iff.1 hu).1
   have e:=qQ g.vals k 1 (by omega)
   have e2:(g.vals.drop k).take 1=[u]:=by
    rw[List.drop_eq_getElem_cons Zi]
    simp[(List.getElem?_eq_some_iff.1 hu).2]
   rw[e2]at e
   exact e
  have e3:=oC b row [v'] g.vals [u] k hbx.rep.1 rfl (by simp;omega)
  rw[zo]at e3
  have e4:bM b [v'] [u]=0:=by simp only[bM,dN b v' u hY]
  rw[e2]at e1
  omega
 have hle:∀b,fK β a ⟨s.env,s.bx.set j (af row k [v']),bK⟩ G' n b<=fK β a s G n b:=λb=>by
  have e1:=hbc b
  have e2:=hF.eH b
  show fH (λu=>cg b (cA s.env u) (jP a u)) n+fj b β (s.bx.set j (af row k [v']))+bS b G'.ls bK<=fH (λu=>cg b (cA s.env u) (jP a u)) n+fj b β s.bx+bS b G.ls s.st
  omega
 have hB:=kX (bx:=s.bx) hs.box hF.iu λb hb=>Ba b (by omega)
 refine⟨G',⟨hs.defs,hs.size,λu=>?_,hs.lt,hF.inv,⟨by simpa using hB.len,λi r x e1 e2=>?_⟩⟩,⟨hF.iu,λb _=>hle b,λb=>Nat.le_trans (hle b) (h1 b),λb hb h0=>?_,Nat.le_refl _,rfl,rfl⟩⟩
 ·refine(hs.rep u).iu hF.iu λb hb=>Ba b ?_
  have FY:u<n:=by
   rcases Nat.lt_or_ge u n with h|h
   ·exact h
   ·rw[hs.lt u h]at hb;simp[cg]at hb
  have:=sJ (f:=λu=>cg b (cA s.env u) (jP a u)) FY
  omega
 ·simp only[List.getElem?_set]at e1
  by_cases zn:j=i
  ·subst zn
   rw[if_pos rfl,if_pos M6]at e1
   cases e1
   rw[hg]at e2;cases e2
   exact(hB.box j row g hr hg).put iK hu dc gK
  ·rw[if_neg zn]at e1
   exact hB.box i r x e1 e2
 ·have:bS b G.ls s.st=0:=by unfold fK rJ at h0;omega
  exact⟨hF.sB b this,rfl⟩
theorem Og {wl aa:Nat}{st kV lf:aj}{id bP i k off:Nat}{v v':AV}{u:Value}(hI:Inv w G st)(hX:∀b,bS b G.ls st<=1)(hp:aL w G (.ptr id bP i k) u)
  (hr:fF st (.ptr id bP i (k+off)) 1=some [v]) (hf:jq wl v st=some (v',kV)) (hw:dz wl aa kV (.ptr id bP i (k+off)) [v']=some lf):∃G',FA w G st G' lf:=by
 unfold fF at hr
 simp only at hr
 split at hr
 ·rename_i ve sz rows eG
  split at hr
  ·rename_i hve
   subst hve
   split at hr
   ·rename_i r cP
    obtain⟨loc,b,o,c,e,xs,hl,yJ,xz,gn,F1,rQ,eJ,eF,eu,hle,hlen,gq,IK,kj,cW⟩:=vZ hI hp eG cP
    obtain⟨nt,IQ,Fz⟩:=oD hr
    have UM:k+off<r.length:=by omega
    have hv:r[k+off]?=some v:=by
     have:((r.drop (k+off)).take 1)[0]?=some v:=by rw[<-nt];rfl
     rw[List.getElem?_take,if_pos (by omega),List.getElem?_drop]at this
     exact this
    obtain⟨x,hx⟩:∃x,xs[k+off]?=some x:=⟨_,List.getElem?_eq_getElem (by rw[<-kj.1];exact UM)⟩
    obtain⟨G',hF,dc,hY⟩:=vp hI hX (kj.2 _ _ _ hv hx) hf
    have gK:=wA hf
    have Wn:aL w G' (.ptr id ve i k) u:=hp.xL hF.iu rfl
    unfold dz at hw
    simp only at hw
    split at hw
    ·rename_i ve1 sz1 Oh zp
     split at hw
     ·rename_i aa2
      simp only[Bool.and_eq_true,decide_eq_true_eq]at aa2
      obtain⟨rfl,_⟩:=aa2
      split at hw
      ·rename_i r1 Kq
       split at hw
       ·rename_i bY
        cases hw
        obtain⟨SR,b1,o1,c1,e1,RE,RA,afI,afJ,Gs,Ws,afK,aa3,aiK,Wt,afL,aa4,aa5,SU,NQ,Kr⟩:=vZ hF.inv Wn zp Kq
        have hk1:k+off<r1.length:=by simp only[List.length_singleton]at bY;omega
        obtain⟨x1,hx1⟩:∃x,RE[k+off]?=some x:=⟨_,List.getElem?_eq_getElem (by rw[<-NQ.1];exact hk1)⟩
        rw[F1]at Ws
        simp only[Value.pointer.injEq,Option.some.injEq,Addr.mk.injEq,and_true]at Ws
        obtain⟨hb,ho⟩:=Ws
        have hxx:x1=x:=by
         have a1:=cW i xs (k+off) x IK hx
         have a2:=Kr i RE (k+off) x1 SU hx1
         rw[hb,show o+(i*sz+(k+off))=o1+(i*sz1+(k+off)) by omega,a2]at a1
         cases a1;rfl
        subst hxx
        have hs:af RE (k+off) [x1]=RE:=by
         have e:=qQ RE (k+off) 1 (by have:=(List.getElem?_eq_some_iff.1 hx1).1;omega)
         have e2:(RE.drop (k+off)).take 1=[x1]:=by
          rw[List.drop_eq_getElem_cons (List.getElem?_eq_some_iff.1 hx1).1]
          simp[(List.getElem?_eq_some_iff.1 hx1).2]
         rw[e2]at e
         exact e
        have aa6:bV w G' (af r1 (k+off) [v']) RE:=by
         have CC:bV w G' [v'] [x1]:=⟨rfl,λi c x h1 h2=>by
          cases i with
          |zero=>simp at h1 h2;subst h1;subst h2;exact dc
          |succ i=>simp at h1⟩
         have:=NQ.af CC (n:=k+off) (by simp;omega)
         rwa [hs]at this
        have qt:nC w G' (.rows ve1 sz1 (Oh.set i (af r1 (k+off) [v']))) SR:=by
         refine⟨afI,afJ,bZ.2 λr' uA=>?_,λr' uA=>?_,by simp[Gs.len],Gs.size,by simp[Gs.p6],λi' r' Io h1 h2=>?_,.inr ⟨b1,o1,c1,e1,afK,aa3,Wt,afL,by simpa using aa4,aa5,Kr⟩⟩
         ·rcases List.mem_or_eq_of_mem_set uA with h|h
          ·exact bZ.1 Gs.fit r' h
          ·rw[h,cZ];exact bZ.1 Gs.fit r1 (cD Kq)
         ·rcases List.mem_or_eq_of_mem_set uA with h|h
          ·exact Gs.zG r' h
          ·rw[h];exact iT (Gs.zG r1 (cD Kq)) (by simp[AV.aH,gK]) (by simpa using bY)
         ·rw[List.getElem?_set]at h1
          by_cases IM:i=i'
          ·subst IM
           rw[if_pos rfl]at h1
           split at h1
           ·cases h1
            rw[SU]at h2;cases h2
            exact aa6
           ·cases h1
          ·rw[if_neg IM]at h1
           exact Gs.qo i' r' Io h1 h2
        refine⟨G',hF.trans ⟨pF.refl w G',zK hF.inv (pF.refl w G') (fU _ _ _ RA).symm (λ_ _ _ _ _ _ _ _=>⟨rfl,rfl⟩) qt hF.inv.kP,λb'=>?_,λ_ _=>rfl⟩⟩
        have h1:=sA b' G'.ls kV id SR _ SR (.rows ve1 sz1 (Oh.set i (af r1 (k+off) [v']))) RA zp
        rw[fU _ _ _ RA]at h1
        have h4:=qp b' Oh SR.vals i r1 RE (af r1 (k+off) [v']) RE Kq SU
        rw[fU _ _ _ SU]at h4
        have e3:=oC b' r1 [v'] RE [x1] (k+off) NQ.1 rfl (by simp;omega)
        rw[hs]at e3
        have e4:bM b' [v'] [x1]=0:=by simp only[bM,dN b' v' x1 hY]
        simp only[gu]at h1
        omega
       ·cases hw
      ·cases hw
     ·cases hw
    ·cases hw
   ·cases hr
  ·cases hr
 ·cases hr
theorem LZ {wl aa:Nat}{st kV lf:aj}{id bP i k off:Nat}{v v':AV}{u:Value}(hI:Inv w G st)(hX:∀b,bS b G.ls st<=1)(hp:aL w G (.ptr id bP i k) u)
  (hr:fF st (.ptr id bP i (k+off)) 1=some [v]) (hf:nP wl v st=some (v',kV)) (hw:dz wl aa kV (.ptr id bP i (k+off)) [v']=some lf):∃G',FA w G st G' lf:=by
 unfold nP at hf
 split at hf
 ·rename_i iI dy
  cases hf
  unfold fF at hr
  simp only at hr
  split at hr
  ·rename_i ve sz rows eG
   split at hr
   ·rename_i hve
    subst hve
    split at hr
    ·rename_i r cP
     obtain⟨nt,IQ,Fz⟩:=oD hr
     have UM:k+off<r.length:=by omega
     have hv:r[k+off]?=some (.raw iI dy):=by
      have:((r.drop (k+off)).take 1)[0]?=some (.raw iI dy):=by rw[<-nt];rfl
      rw[List.getElem?_take,if_pos (by omega),List.getElem?_drop]at this
      exact this
     have Il:id<st.length:=(List.getElem?_eq_some_iff.1 eG).1
     have zp:(st++[fh.rows 0 iI dy])[id]?=some (.rows ve sz rows):=by rw[List.getElem?_append_left Il];exact eG
     unfold dz at hw
     simp only[zp,cP]at hw
     split at hw
     ·split at hw
      ·cases hw
       exact Sx hI hp eG cP hv
      ·cases hw
     ·cases hw
    ·cases hr
   ·cases hr
  ·cases hr
 ·exact Og hI hX hp hr hf hw
theorem SW {wl aa:Nat}{t id bP i k off:Nat}{v v':AV}{kV lf:aj}(hs:FT w G β a s n)(h1:∀b,fK β a s G n b<=1)(ht:cA s.env t=.val (.ptr id bP i k))
  (hr:fF s.st (.ptr id bP i (k+off)) 1=some [v]) (hf:nP wl v s.st=some (v',kV)) (hw:dz wl aa kV (.ptr id bP i (k+off)) [v']=some lf) :
  ∃G',FT w G' β a ⟨s.env,s.bx,lf⟩ n/\Mv w G (fK β a s G n) w G' (fK β a ⟨s.env,s.bx,lf⟩ G' n):=by
 have CH:jv w G β (cA s.env t) (jP a t):=hs.rep t
 rw[ht]at CH
 obtain⟨G',hF⟩:=LZ hs.inv (λb=>by have:=h1 b;unfold fK rJ at this;omega) CH hr hf hw
 have Ba:∀b,0<fH (λu=>cg b (cA s.env u) (jP a u)) n+fj b β s.bx->dw w G w G' b:=λb hb=>⟨hF.sB b (by have:=h1 b;unfold fK rJ at this;omega),rfl⟩
 have hle:∀b,fK β a ⟨s.env,s.bx,lf⟩ G' n b<=fK β a s G n b:=λb=>by
  have e2:=hF.eH b
  show fH (λu=>cg b (cA s.env u) (jP a u)) n+fj b β s.bx+bS b G'.ls lf<=fH (λu=>cg b (cA s.env u) (jP a u)) n+fj b β s.bx+bS b G.ls s.st
  omega
 refine⟨G',⟨hs.defs,hs.size,λu=>?_,hs.lt,hF.inv,kX (bx:=s.bx) hs.box hF.iu λb hb=>Ba b (by omega)⟩,⟨hF.iu,λb _=>hle b,λb=>Nat.le_trans (hle b) (h1 b),λb hb h0=>?_,Nat.le_refl _,rfl,rfl⟩⟩
 ·refine(hs.rep u).iu hF.iu λb hb=>Ba b ?_
  have FY:u<n:=by
   rcases Nat.lt_or_ge u n with h|h
   ·exact h
   ·rw[hs.lt u h]at hb;simp[cg]at hb
  have:=sJ (f:=λu=>cg b (cA s.env u) (jP a u)) FY
  omega
 ·have:bS b G.ls s.st=0:=by unfold fK rJ at h0;omega
  exact⟨hF.sB b this,rfl⟩
end Ax
namespace Ax
open Go
variable {S:Nat->Option aC}{P:Program}{O:jf}{wl aa n:Nat}
theorem tU {Q:Exit->Act->World->Prop}{x:Ex}{a:Act}{w:World}(h:Q (A9 x) a w):Exit.noGoto Q (A9 x) a w:=by
 cases x<;>exact h
theorem L0 {x y:bG}{c:Code}(h:iB S P n (.seq x y) c=true):(∃t,x=.Nl t/\iB S P n y c=true)\/(∃j k,x=.Ai j k/\iB S P n y c=true)\/(∃j k,x=.uw j k/\iB S P n y c=true)\/(∃a b,A8 c=.seq a b/\iB S P n x a=true/\iB S P n y b=true):=by
 unfold iB at h
 split at h
 ·exact .inl ⟨_,rfl,h⟩
 ·exact .inr (.inl ⟨_,_,rfl,h⟩)
 ·exact .inr (.inr (.inl ⟨_,_,rfl,h⟩))
 ·split at h
  ·rename_i a b he
   simp only[Bool.and_eq_true]at h
   exact .inr (.inr (.inr ⟨a,b,he,h.1,h.2⟩))
  ·cases h
theorem qa (hO:iV S P O)(hL:tS S P O)(hP:yT S O){rs:List jA}:∀(c:bG)(code:Code)(s s':St)(x:Ex)(w:World)(G:aK)(β:List kO)(a:Act)(Q:Exit->Act->World->Prop),
  iB S P n c code=true->FT w G β a s n->(∀b,fK β a s G n b<=1)->gm O wl aa rs c s=some (x,s')->
  (∀w' G' fI a',Pst n rs (fK β a s G n) w G x s' w' G' fI a'->Q (A9 x) a' w')->code.wp P Q a w
 |.skip,code,s,s',x,w,G,β,a,Q,hm,hs,h1,he,hQ=>by
  refine nW ?_
  simp only[gm,Option.some.injEq,Prod.mk.injEq]at he
  obtain⟨rfl,rfl⟩:=he
  unfold iB at hm
  split at hm
  ·rename_i hp
   rw[hp]
   exact wp_skip (hQ w G β a ⟨s,hs,Mv.refl h1,rfl⟩)
  ·cases hm
 |.region m draw dx,code,s,s',x,w,G,β,a,Q,hm,hs,h1,he,hQ=>by
  refine nW ?_
  unfold iB at hm
  split at hm
  ·rename_i id ops d hp
   rw[hp]
   unfold gm at he
   cases draw with
   |none=>
    simp only[Ei,Bool.and_eq_true,Bool.not_eq_true']at hm
    obtain⟨rfl,hm⟩:=hm
    simp only at he
    split at he
    ·rename_i s1 xA
     cases he
     refine wp_region ?_
     have:=AZ (Q:=Exit.noGoto Q) hO ops.toList m 0 w G β a s rfl hm hs h1 xA λw' G' fI a' f1 f2=>by
      obtain⟨g1,g2⟩:=f1.clear dx
      exact hQ w' G' fI a' ⟨_,g1,f2.less g2,rfl⟩
     rw[List.range_eq_range']
     simpa using this
    ·cases he
   |some bD=>
    simp only[Ei,Bool.and_eq_true]at hm
    obtain⟨rfl,hm⟩:=hm
    simp only at he
    split at he
    ·rename_i s1 xA
     cases he
     exact Gn (Q:=Exit.noGoto Q) hm hO hP hs h1 xA (λd=>⟨hs.drawn d,λ_ _ _ h=>h.drawn⟩) λw' G' fI a' f1 f2=>by
      obtain⟨g1,g2⟩:=f1.clear dx
      exact hQ w' G' fI a' ⟨_,g1,f2.less g2,rfl⟩
    ·cases he
  ·cases hm
 |.seq c1 c2,code,s,s',x,w,G,β,a,Q,hm,hs,h1,he,hQ=>by
  rcases L0 hm with⟨t,rfl,SX⟩|⟨j,k,rfl,SX⟩|⟨t,off,rfl,SX⟩|⟨a1,b1,hp,hm1,SX⟩
  ·unfold gm at he
   cases hc:gm O wl aa rs (.Nl t) s with
   |none=>rw[hc]at he;cases he
   |some y=>
    obtain⟨x1,s1⟩:=y
    rw[hc]at he
    unfold gm at hc
    cases hv:cA s.env t with
    |none=>rw[hv]at hc;cases hc
    |fp j k=>rw[hv]at hc;cases hc
    |val v=>
     rw[hv]at hc
     simp only at hc
     cases hf:jq wl v s.st with
     |none=>rw[hf]at hc;cases hc
     |some y=>
      obtain⟨v',bK⟩:=y
      rw[hf]at hc
      cases hc
      obtain⟨G',f1,f2⟩:=Wq hs h1 hv hf
      exact qa hO hL hP c2 code _ s' x w G' β a Q SX f1 f2.one he λw' G2 NW a2 hp=>hQ w' G2 NW a2 (hp.trans f2)
  ·unfold gm at he
   cases hc:gm O wl aa rs (.Ai j k) s with
   |none=>rw[hc]at he;cases he
   |some y=>
    obtain⟨x1,s1⟩:=y
    rw[hc]at he
    unfold gm at hc
    cases hb:s.bx[j]? with
    |none=>rw[hb]at hc;cases hc
    |some row=>
     rw[hb]at hc
     simp only at hc
     cases hv:row[k]? with
     |none=>rw[hv]at hc;cases hc
     |some v=>
      rw[hv]at hc
      simp only at hc
      cases hf:jq wl v s.st with
      |none=>rw[hf]at hc;cases hc
      |some y=>
       obtain⟨v',bK⟩:=y
       rw[hf]at hc
       cases hc
       obtain⟨G',f1,f2⟩:=SQ hs h1 hb hv hf
       exact qa hO hL hP c2 code _ s' x w G' β a Q SX f1 f2.one he λw' G2 NW a2 hp=>hQ w' G2 NW a2 (hp.trans f2)
  ·unfold gm at he
   cases hc:gm O wl aa rs (.uw t off) s with
   |none=>rw[hc]at he;cases he
   |some y=>
    obtain⟨x1,s1⟩:=y
    rw[hc]at he
    obtain⟨rfl,id,bP,i,k,v,v',kV,lf,g1,g2,g3,g4,rfl⟩:=Am hc
    simp only at he
    obtain⟨G',f1,f2⟩:=SW hs h1 g1 g2 g3 g4
    exact qa hO hL hP c2 code _ s' x w G' β a Q SX f1 f2.one he λw' G2 NW a2 hp=>hQ w' G2 NW a2 (hp.trans f2)
  ·refine nW ?_
   rw[hp]
   refine wp_seq ?_
   unfold gm at he
   cases hc:gm O wl aa rs c1 s with
   |none=>rw[hc]at he;cases he
   |some y=>
    obtain⟨x1,s1⟩:=y
    rw[hc]at he
    refine qa hO hL hP c1 a1 s s1 x1 w G β a _ hm1 hs h1 hc λw' G' fI a' Va=>?_
    cases x1 with
    |normal=>
     obtain⟨sr,g1,g2,g3⟩:=Va
     simp only at g3
     subst g3
     exact qa hO hL hP c2 b1 s1 s' x w' G' fI a' _ SX g1 g2.one he λw2 G2 NW a2 Zj=>tU (hQ w2 G2 NW a2 (Zj.trans g2))
    |exit id=>cases he;exact hQ w' G' fI a' Va
    |ret v=>cases he;exact hQ w' G' fI a' Va
 |.cond t ca c1 cb c2,code,s,s',x,w,G,β,a,Q,hm,hs,h1,he,hQ=>by
  refine nW ?_
  unfold iB at hm
  split at hm
  ·rename_i u a1 b1 hp
   rw[hp]
   simp only[Bool.and_eq_true]at hm
   obtain⟨⟨hms,hm1⟩,SX⟩:=hm
   unfold gm at he
   have hev:=(Kg hs.rep hms).1
   have hb:∀b,oy s.env t=some b->a.eval u=.bool b:=λb hb=>by
    unfold oy at hb
    rw[zP]at hb
    split at hb
    ·rename_i b' kW
     cases hb
     rw[kW]at hev
     exact aL.iR hev
    ·cases hb
   split at he
   ·rename_i hr
    obtain⟨g1,g2⟩:=FT.kill hs t ca
    refine wp_cond_true (hb _ hr) (qa hO hL hP c1 a1 _ s' x w G β a _ hm1 g1 (λb=>Nat.le_trans (g2 b) (h1 b)) he λw' G' fI a' hp=>tU (hQ w' G' fI a' (hp.trans ((Mv.refl h1).less g2))))
   ·rename_i hr
    obtain⟨g1,g2⟩:=FT.kill hs t cb
    refine wp_cond_false (hb _ hr) (qa hO hL hP c2 b1 _ s' x w G β a _ SX g1 (λb=>Nat.le_trans (g2 b) (h1 b)) he λw' G' fI a' hp=>tU (hQ w' G' fI a' (hp.trans ((Mv.refl h1).less g2))))
   ·cases he
  ·cases hm
 |.block id c1,code,s,s',x,w,G,β,a,Q,hm,hs,h1,he,hQ=>by
  refine nW ?_
  unfold iB at hm
  split at hm
  ·rename_i j a1 hp
   rw[hp]
   simp only[Bool.and_eq_true,beq_iff_eq]at hm
   obtain⟨rfl,hm1⟩:=hm
   refine wp_block ?_
   unfold gm at he
   cases hc:gm O wl aa rs c1 s with
   |none=>rw[hc]at he;cases he
   |some y=>
    obtain⟨x1,s1⟩:=y
    rw[hc]at he
    refine qa hO hL hP c1 a1 s s1 x1 w G β a _ hm1 hs h1 hc λw' G' fI a' Va=>?_
    cases x1 with
    |normal=>cases he;exact hQ w' G' fI a' Va
    |exit i=>
     simp only at he
     simp only[A9,Exit.inBlock]
     split at he
     ·rename_i hi
      cases he
      rw[if_pos hi]
      exact hQ w' G' fI a' Va
     ·rename_i hi
      cases he
      rw[if_neg hi]
      exact hQ w' G' fI a' Va
    |ret v=>cases he;exact hQ w' G' fI a' Va
  ·cases hm
 |.loop c1,code,s,s',x,w,G,β,a,Q,hm,hs,h1,he,hQ=>by
  refine nW ?_
  unfold iB at hm
  split at hm
  ·rename_i a1 hp
   rw[hp]
   unfold gm at he
   exact Gr (hL wl aa rs c1 s x s' he a1 n hm w G β a hs h1 _ λw' G' fI a' hp=>tU (hQ w' G' fI a' hp))
  ·cases hm
 |.exit id,code,s,s',x,w,G,β,a,Q,hm,hs,h1,he,hQ=>by
  refine nW ?_
  simp only[gm,Option.some.injEq,Prod.mk.injEq]at he
  obtain⟨rfl,rfl⟩:=he
  unfold iB at hm
  split at hm
  ·rename_i j hp
   rw[hp]
   simp only[beq_iff_eq]at hm
   subst hm
   exact wp_exit (hQ w G β a ⟨s,hs,Mv.refl h1,rfl⟩)
  ·cases hm
 |.ret,code,s,s',x,w,G,β,a,Q,hm,hs,h1,he,hQ=>by
  refine nW ?_
  unfold iB at hm
  split at hm
  ·rename_i hp
   rw[hp]
   unfold gm at he
   split at he
   ·rename_i v hv
    cases he
    exact wp_ret (hQ w G β a ⟨s,hs,Mv.refl h1,hv,rfl⟩)
   ·cases he
  ·cases hm
 |.Nl t,code,s,s',x,w,G,β,a,Q,hm,hs,h1,he,hQ=>by
  simp[iB]at hm
 |.Ai j k,code,s,s',x,w,G,β,a,Q,hm,hs,h1,he,hQ=>by
  simp[iB]at hm
 |.uw t off,code,s,s',x,w,G,β,a,Q,hm,hs,h1,he,hQ=>by
  simp[iB]at hm
def Ks (S:Nat->Option aC)(P:Program)(sf:aC):Bool:=
 match P.funcs[sf.fD]? with
 |some fn=>match fn.body with
  |some code => !(fn.name == "runtime.NumGoroutine") && iB S P fn.ntmps sf.body code && vq P fn.results.toList sf.results && sL (nE sf.results) && sL (A2 sf.results) && decide (sf.nparams ≤ fn.ntmps)
  |none=>false
 |none=>false
def Gt (S:Nat->Option aC)(P:Program):Prop:=∀f sf,S f=some sf->Ks S P sf=true/\(f<100000->sf.fD=f)
def zx (b:Nat)(args:List AV)(vs:List Value)(k t:Nat):Nat:=if k<=t then (match args[t-k]?,vs[t-k]? with|some v,some u=>eH b v u|_,_=>0) else 0
theorem Gu {w:World}{G:aK}(b:Nat):∀(args:List AV)(vs:List Value)(k N:Nat),args.length=vs.length->k+args.length<=N->
  fH (zx b args vs k) N=bM b args vs
 |[],[],k,N,_,_=>by
  have:fH (zx b [] [] k) N=fH (λ_=>0) N:=mj λt _=>by simp[zx]
  rw[this,C3];rfl
 |v::args,u::vs,k,N,hl,hN=>by
  have ih:=Gu (w:=w) (G:=G) b args vs (k+1) N (by simpa using hl) (by simp at hN;omega)
  have:=qv (f:=zx b (v::args) (u::vs) k) (g:=zx b args vs (k+1)) (d:=k) (n:=N) (by simp at hN;omega) λt ht=>by
    unfold zx
    by_cases hk:k<=t
    ·have h1:k+1<=t:=by omega
     have h2:t-k=(t-(k+1))+1:=by omega
     simp only[hk,h1,if_true,h2,List.getElem?_cons_succ]
    ·have h1:¬k+1<=t:=by omega
     simp only[hk,h1,if_false]
  have e1:zx b (v::args) (u::vs) k k=eH b v u:=by simp[zx]
  have e2:zx b args vs (k+1) k=0:=by unfold zx;rw[if_neg (by omega)]
  rw[e1,e2,ih]at this
  simp only[bM]
  omega
 |[],_::_,_,_,h,_=>by simp at h
 |_::_,[],_,_,h,_=>by simp at h
end Ax
namespace Ax
open Go
variable {S:Nat->Option aC}{P:Program}{O:jf}{wl aa n:Nat}
variable {w w':World}{G G':aK}{β fI:List kO}{a:Act}{s s':St}
theorem SY {fn:Func}{rs:List jA}{v:AV}(hs:FT w G β a s n)(hm:vq P fn.results.toList rs=true)(h1:sL (nE rs)=true)(h2:sL (A2 rs)=true)(hr:u9 s rs=some v) :
  ∃u,(results fn a.tmps).run P w=.ok u w/\aL w G v u/\∀b,eH b v u+bS b G.ls s.st<=fK β a s G n b:=by
 unfold u9 at hr
 cases gn:u7 s rs with
 |none=>rw[gn]at hr;cases hr
 |some vs=>
  obtain⟨us,k1,k2,k3⟩:=Db hs _ rs vs hm gn
  have k4:=Gg k1
  rw[gn]at hr
  have hle:∀b,bM b vs us+bS b G.ls s.st<=fK β a s G n b:=λb=>by
   have e1:=k3 b
   have e2:=wh (f:=λt=>cg b (cA s.env t) (jP a t)) (n:=n) (λt ht=>by rw[hs.lt t ht];rfl) _ (tR h1)
   have e3:=wh (f:=qw b β s.bx) (n:=s.bx.length) (λt ht=>by
    unfold qw
    rw[List.getElem?_eq_none ht]
    split
    ·rename_i h;cases h
    ·rfl) _ (tR h2)
   have e4:=Gh b β s.bx
   unfold fK rJ
   omega
  match vs,us,k2,hle,hr,k4 with
  |[v1],[u],k2,hle,hr,k4=>
   cases hr
   refine⟨u,k4,k2.2 0 _ u rfl rfl,λb=>?_⟩
   have:=hle b
   simp only[bM]at this
   omega
  |[],us,k2,hle,hr,k4=>
   have:us=[]:=by have:=k2.1;simpa using this.symm
   subst this
   cases hr
   exact⟨_,k4,.fm _ _ rfl λi c v h=>by simp at h,λb=>by have:=hle b;simpa [eH,LW] using this⟩
  |v1::v2::vs,us,k2,hle,hr,k4=>
   cases hr
   match us,k2,hle,k4 with
   |[],k2,_,_=>have:=k2.1;simp at this
   |[_],k2,_,_=>have:=k2.1;simp at this
   |u1::u2::us,k2,hle,k4=>
    exact⟨_,k4,.fm _ _ (by simpa using k2.1) λi c v h k=>k2.2 i c v h (by simpa using k),λb=>by have:=hle b;simpa [eH,LW] using this⟩
  |[_],[],k2,_,_,_=>have:=k2.1;simp at this
  |[_],_::_::_,k2,_,_,_=>have:=k2.1;simp at this
theorem Wu {m:Mode}{st kV bK:aj}{v v':AV}{u:Value}{A:Nat->Nat}(hI0:Inv w G st)(hk:cL (m.va st.length wl) (m.oz st.length aa) st kV)(hf:m.fin st v kV=some (v',bK))(hr:aL w' G' v u)(hI:Inv w' G' kV)
  (hM:Mv w G A w' G' (λb=>eH b v u+bS b G'.ls kV)):∃G2,aL w' G2 v' u/\Inv w' G2 bK/\Mv w G A w' G2 (λb=>eH b v' u+bS b G2.ls bK):=by
 have aa8:(m=.pure\/m=.lq)->C4 st.length kV:=λh=>by
  have hl:m.oz st.length aa=st.length:=by rcases h with rfl|rfl<;>rfl
  rw[hl]at hk
  exact hk.aa st.length (Nat.le_refl _) (Nat.le_refl _) hI0.aaR
 have cut:v.an=true->C4 st.length kV->∃G2,aL w' G2 v u/\Inv w' G2 (kV.take st.length)/\Mv w G A w' G2 (λb=>eH b v u+bS b G2.ls (kV.take st.length)):=by
  intro hp hl
  have hc:∀b,eH b v u+bS b (G'.cut st.length).ls (kV.take st.length)<=eH b v u+bS b G'.ls kV:=λb=>by
   have:=C5 b st.length G'.ls kV
   simp only[aK.cut]
   omega
  refine⟨G'.cut st.length,hr.AT (gO _ v hp),hI.AT hl,?_⟩
  exact⟨SA hM.iu (by rw[hI0.len];exact Nat.le_refl _),λb hb=>Nat.le_trans (hc b) (hM.eH b hb),λb=>Nat.le_trans (hc b) (hM.one b),λb hb h0=>hM.sB b hb h0,hM.size,hM.os,hM.out⟩
 cases m with
 |Cv=>
  simp only[Mode.fin,Option.some.injEq,Prod.mk.injEq]at hf
  obtain⟨rfl,rfl⟩:=hf
  exact⟨G',hr,hI,hM⟩
 |pure=>
  simp only[Mode.fin]at hf
  split at hf
  ·rename_i hp
   cases hf
   obtain⟨G2,c1,c2,c3⟩:=cut hp (aa8 (.inl rfl))
   have:kV.take st.length=st:=by
    apply List.ext_getElem?
    intro i
    rw[List.getElem?_take]
    split
    ·rename_i hi
     exact hk.low i (by simpa [Mode.va] using hi) hi
    ·rename_i hi;rw[List.getElem?_eq_none (by omega)]
   rw[this]at c2 c3
   exact⟨G2,c1,c2,c3⟩
  ·cases hf
 |lq=>
  simp only[Mode.fin]at hf
  split at hf
  ·rename_i hp
   cases hf
   exact cut hp (aa8 (.inr rfl))
  ·cases hf
theorem I9 (w:World)(G:aK)(k:Nat):jg w G (List.replicate k ⟨none,[]⟩) (List.replicate k []) where
 len:=by simp
 box:=λj row g h1 h2=>by
  rw[List.getElem?_replicate]at h1 h2
  split at h1
  ·rename_i hj
   rw[if_pos hj]at h2
   cases h1;cases h2
   exact⟨⟨rfl,λi c v h=>by simp at h⟩,rfl,.inl ⟨rfl,rfl⟩⟩
  ·cases h1
theorem Bb (b:Nat):∀k,fj b (List.replicate k ⟨none,[]⟩) (List.replicate k [])=0
 |0=>by simp[fj]
 |k+1=>by simp[List.replicate_succ,fj,Bb b k,bM]
theorem Gw (hT:Gt S P)(hO:iV S P O)(hL:tS S P O)(hP:yT S O)(hK:oK O){f:Nat}{sf:aC}(hf:S f=some sf){args:List AV}{st bK:aj}{v:AV}(hc:cM O wl aa sf args st=some (v,bK)) :
  LQ P sf.fD/\(f<100000->sf.fD=f)/\
  ∀(w:World) (G:aK) (vs:List Value),bV w G args vs->Inv w G st->(∀b,bM b args vs+bS b G.ls st<=1)->
   Calls P sf.fD vs.toArray w λe w'=>∃u G',e=.returned u/\aL w' G' v u/\Inv w' G' bK/\
    Mv w G (λb=>bM b args vs+bS b G.ls st) w' G' (λb=>eH b v u+bS b G'.ls bK):=by
 obtain⟨hm,afN⟩:=hT f sf hf
 unfold Ks at hm
 split at hm
 ·rename_i fn FC
  split at hm
  ·rename_i code Vb
   simp only[Bool.and_eq_true,Bool.not_eq_true',decide_eq_true_eq]at hm
   obtain⟨⟨⟨⟨⟨aa9,Bc⟩,SZ⟩,hnt⟩,RD⟩,hnp⟩:=hm
   refine⟨⟨fn,FC,aa9,by rw[Vb];rfl⟩,afN,λw G vs hR hI h1=>?_⟩
   unfold cM at hc
   split at hc
   ·rename_i hlen
    split at hc
    ·rename_i x s aba
     split at hc
     ·rename_i v1 LY
      refine calls_of_wp FC Vb ?_
      have Kb:vs.length=args.length:=hR.1.symm
      have dL:(vs.toArray++Array.replicate (fn.ntmps-vs.toArray.size) undef).size=fn.ntmps:=by
       simp only[Array.size_append,List.size_toArray,Array.size_replicate];omega
      let a0:Act:={ tmps:=vs.toArray++Array.replicate (fn.ntmps-vs.toArray.size) undef,defers:=[] }
      have abb:∀t u,vs[t]?=some u->jP a0 t=u:=λt u hu=>by
       have aZ:=(List.getElem?_eq_some_iff.1 hu).1
       have:a0.tmps[t]?=some u:=by
        show (vs.toArray++Array.replicate (fn.ntmps-vs.toArray.size) undef)[t]?=some u
        rw[Array.getElem?_append]
        simp[aZ,(List.getElem?_eq_some_iff.1 hu).2]
       simp[jP,this]
      have hη:∀t,cA (oA sf args st).env t=if t∈sf.dx then .none else (match args[t]? with|some v=>.val v|none=>.none):=λt=>by
       simp only[oA,qT,C2,Nat.zero_le,if_true,Nat.sub_zero]
       rfl
      have hFT:FT w G (List.replicate sf.aM ⟨none,[]⟩) a0 (oA sf args st) fn.ntmps:=by
       refine⟨rfl,by show fn.ntmps<=(vs.toArray++Array.replicate (fn.ntmps-vs.toArray.size) undef).size;omega,λt=>?_,λt ht=>?_,hI,I9 w G sf.aM⟩
       ·rw[hη]
        split
        ·trivial
        ·split
         ·rename_i v0 Zk
          have aZ:t<vs.length:=by rw[Kb];exact(List.getElem?_eq_some_iff.1 Zk).1
          have hu:=List.getElem?_eq_getElem aZ
          rw[abb t _ hu]
          exact hR.2 t v0 _ Zk hu
         ·trivial
       ·rw[hη,List.getElem?_eq_none (by omega)]
        simp
      have Ww:∀b,fK (List.replicate sf.aM ⟨none,[]⟩) a0 (oA sf args st) G fn.ntmps b<=bM b args vs+bS b G.ls st:=λb=>by
       have e1:=Gu (w:=w) (G:=G) b args vs 0 fn.ntmps Kb.symm (by omega)
       have e2:fH (λt=>cg b (cA (oA sf args st).env t) (jP a0 t)) fn.ntmps<=fH (zx b args vs 0) fn.ntmps:=zM λt _=>by
        rw[hη]
        simp only[zx,Nat.zero_le,if_true,Nat.sub_zero]
        split
        ·simp[cg]
        ·cases Zk:args[t]? with
         |none=>simp[cg]
         |some v0=>
          have aZ:t<vs.length:=by rw[Kb];exact(List.getElem?_eq_some_iff.1 Zk).1
          have hu:=List.getElem?_eq_getElem aZ
          rw[abb t _ hu,hu]
          exact Nat.le_refl _
       have e3:=Bb b sf.aM
       unfold fK rJ
       show fH (λt=>cg b (cA (oA sf args st).env t) (jP a0 t)) fn.ntmps+fj b (List.replicate sf.aM ⟨none,[]⟩) (List.replicate sf.aM [])+bS b G.ls st<=_
       omega
      have h0:∀b,fK (List.replicate sf.aM ⟨none,[]⟩) a0 (oA sf args st) G fn.ntmps b<=1:=λb=>Nat.le_trans (Ww b) (h1 b)
      refine qa hO hL hP sf.body code _ s x w G _ a0 _ Bc hFT h0 aba λw' G' fI a' hp=>?_
      obtain⟨sr,g1,g2,g3⟩:=hp
      have abd:cL (sf.mode.va st.length wl) (sf.mode.oz st.length aa) st s.st:=iU hK aba
      have fin:u9 sr sf.results=some v1->s.st=sr.st->a'.defers=[]/\∃u,(results fn a'.tmps).run P w'=.ok u w'/\∃u' G',(Ending.returned u)=.returned u'/\aL w' G' v u'/\Inv w' G' bK/\
        Mv w G (λb=>bM b args vs+bS b G.ls st) w' G' (λb=>eH b v u'+bS b G'.ls bK):=by
       intro V0 eG
       obtain⟨u,r1,r2,r3⟩:=SY g1 SZ hnt RD V0
       have hMv:Mv w G (λb=>bM b args vs+bS b G.ls st) w' G' (λb=>eH b v1 u+bS b G'.ls s.st):=by
        rw[eG]
        have g3:=g2.less r3
        exact g3.weaken Ww (λb hb=>Nat.le_trans (g3.eH b hb) (Ww b)) g3.one
       have afP:Inv w' G' s.st:=by rw[eG];exact g1.inv
       obtain⟨G2,c1,c2,c3⟩:=Wu hI abd hc r2 afP hMv
       exact⟨g1.defs,u,r1,u,G2,rfl,c1,c2,c3⟩
      cases x with
      |normal=>
       simp only at g3
       subst g3
       exact fin LY rfl
      |exit id=>cases LY
      |ret v2=>
       cases LY
       exact fin g3.1 g3.2
     ·cases hc
    ·cases hc
   ·cases hc
  ·cases hm
 ·cases hm
theorem Be {sf:aC}{args:List AV}{st bK:aj}{v:AV}(h:cM O wl aa sf args st=some (v,bK))(hm:sf.mode=.pure):v.an=true/\bK=st:=by
 unfold cM at h
 split at h
 ·split at h
  ·split at h
   ·rw[hm]at h
    simp only[Mode.fin]at h
    split at h
    ·rename_i hp;cases h;exact⟨hp,rfl⟩
    ·cases h
   ·cases h
  ·cases h
 ·cases h
theorem wB (hT:Gt S P)(hO:iV S P O)(hL:tS S P O)(hP:yT S O)(hK:oK O){f:Nat}{sf:aC}(hf:S f=some sf){args:List AV}{st bK:aj}{v:AV}(hc:dD O wl aa sf args st=some (v,bK)) :
  LQ P sf.fD/\(f<100000->sf.fD=f)/\
  ∀(w:World) (G:aK) (vs:List Value),bV w G args vs->Inv w G st->(∀b,bM b args vs+bS b G.ls st<=1)->
   Calls P sf.fD vs.toArray w λe w'=>∃u G',e=.returned u/\aL w' G' v u/\Inv w' G' bK/\
    Mv w G (λb=>bM b args vs+bS b G.ls st) w' G' (λb=>eH b v u+bS b G'.ls bK):=by
 unfold dD at hc
 split at hc
 ·rename_i Ik
  simp only[alone,Bool.and_eq_true,decide_eq_true_eq]at Ik
  obtain⟨hm,hpa⟩:=Ik
  simp only[Option.map_eq_some_iff]at hc
  obtain⟨⟨v0,st0⟩,xJ,hx⟩:=hc
  cases hx
  obtain⟨F1,rfl⟩:=Be xJ hm
  obtain⟨h1,h2,h3⟩:=Gw hT hO hL hP hK hf xJ
  refine⟨h1,h2,λw G vs hR hI kq=>?_⟩
  have Wx:∀(i:Nat) c,args[i]?=some c->c.under 0=true:=λi c hc=>gO 0 c ((fC args).1 hpa c (cD hc))
  have hI0:Inv w (G.cut 0) []:=by
   have:=hI.AT (n:=0) λid ob h=>by omega
   simpa using this
  have S0:∀b,bS b (G.cut 0).ls []=0:=λb=>by simp[bS]
  refine(h3 w (G.cut 0) vs ⟨hR.1,λi c v e1 e2=>(hR.2 i c v e1 e2).AT (Wx i c e1)⟩ hI0 λb=>by rw[S0 b];have:=kq b;omega).mono λe w' he=>?_
  obtain⟨u,G',rfl,r1,r2,r3⟩:=he
  have p8:∀b,bS b G'.ls []=0:=λb=>by simp[bS]
  have hS:pF w G w' ⟨G.ls,G'.kg⟩:=⟨λb o hi=>r3.iu.No b o hi,λid loc hl=>⟨loc,hl,Nat.le_refl _,λ_=>rfl⟩⟩
  have Ba:∀b,b<w.heap.size->bM b args vs=0->dw w G w' ⟨G.ls,G'.kg⟩ b:=λb hb h0=>by
   have:=r3.sB b hb (by rw[h0,S0 b])
   exact this
  have hIs:Inv w' ⟨G.ls,G'.kg⟩ st:=sE hI hS rfl (λb hb=>Ba b (hI.held hb) (by have:=kq b;omega)) r2.kP
  have dc:aL w' ⟨G.ls,G'.kg⟩ v0 u:=by
   have h0:=r1.AT (n:=0) (gO 0 v0 F1)
   exact h0.iu ⟨λb o hi=>⟨rfl,hi⟩,λid loc hl=>by simp[aK.cut]at hl⟩ λb _=>⟨rfl,rfl⟩
  refine⟨u,⟨G.ls,G'.kg⟩,rfl,dc,hIs,hS,λb hb=>?_,λb=>?_,λb hb h0=>Ba b hb (by omega),r3.size,r3.os,r3.out⟩
  ·have:=r3.eH b hb
   rw[p8 b,S0 b]at this
   show eH b v0 u+bS b G.ls st<=_
   omega
  ·have h4:=r3.one b
   rw[p8 b]at h4
   show eH b v0 u+bS b G.ls st<=1
   by_cases hb:b<w.heap.size
   ·have h5:=r3.eH b hb
    rw[p8 b,S0 b]at h5
    have:=kq b
    omega
   ·have:bS b G.ls st=0:=by
     rcases Nat.eq_zero_or_pos (bS b G.ls st) with h|h
     ·exact h
     ·exact absurd (hI.held h) hb
    omega
 ·exact Gw hT hO hL hP hK hf hc
theorem De (hT:Gt S P):∀n,iV S P (ny S n)/\tS S P (ny S n)
 |0=>⟨λwl aa f args st v bK h=>by simp[ny]at h,λwl aa rs c s x s' h=>by simp[ny]at h⟩
 |n+1=>by
  obtain⟨i1,i2⟩:=De hT n
  refine⟨λwl aa f args st v bK h=>?_,λwl aa rs c s x s' h code m hm w G β a hs h1 Q hQ=>?_⟩
  ·simp only[ny]at h
   split at h
   ·rename_i sf Zf
    exact⟨sf,Zf,wB hT i1 i2 (Gk S n) (C6 S n) Zf h⟩
   ·cases h
  ·simp only[ny]at h
   refine Gp ?_
   cases hc:gm (ny S n) wl aa rs c s with
   |none=>rw[hc]at h;cases h
   |some y=>
    obtain⟨x1,s1⟩:=y
    rw[hc]at h
    refine qa i1 i2 (Gk S n) c code s s1 x1 w G β a _ hm hs h1 hc λw' G' fI a' hp=>?_
    cases x1 with
    |normal=>
     obtain⟨sr,g1,g2,g3⟩:=hp
     simp only at g3
     subst g3
     exact i2 wl aa rs c s1 x s' h code m hm w' G' fI a' g1 g2.one Q λw2 G2 NW a2 Zj=>hQ w2 G2 NW a2 (Zj.trans g2)
    |exit id=>cases h;exact hQ w' G' fI a' hp
    |ret v=>cases h;exact hQ w' G' fI a' hp
end Ax
namespace Ax
open Go
variable {P:Program}{w w':World}{G G':aK}
def zT (P:Program)(ts:List TypeId):Bool:=ts.all λt=>decide (t<P.types.size)&&match P.underlying t with
 |some .bool|some (.int _)|some .string=>true
 |some (.slice e)=>ts.contains e&&decide (0<P.cellsOf e)
 |some (.struct fs)=>fs.toList.all λf=>ts.contains f.type
 |_=>false
mutual
inductive Ty (P:Program):TypeId->List AV->Prop
 |bool {t:TypeId} (h:P.underlying t=some .bool) (b:Bool):Ty P t [.bool b]
 |int {t:TypeId} {k:IntKind} (h:P.underlying t=some (.int k)) (n:Int) (h1:k.min<=n) (h2:n<=k.max):Ty P t [.int k n]
 |str {t:TypeId} (h:P.underlying t=some .string) (l:List UInt8) (hn:l.length<=maxLen):Ty P t [.str l]
 |U {t e:TypeId} (h:P.underlying t=some (.slice e)):Ty P t [.U]
 |emp {t e:TypeId} (h:P.underlying t=some (.slice e)):Ty P t [.emp]
 |cN {t e:TypeId} (h:P.underlying t=some (.slice e)) (rows:List (List AV)) (hn:rows.length<=maxLen) (hl:∀r∈rows,r.length=P.cellsOf e) (h2:∀r∈rows,Ty P e r):Ty P t [.cN (P.cellsOf e) rows]
 |S1 {t:TypeId} {fs:Array Field} (h:P.underlying t=some (.struct fs)) (as:List AV) (h2:Oi P fs.toList as):Ty P t as
inductive Oi (P:Program):List Field->List AV->Prop
 |nil:Oi P [] []
 |cons {f:Field} {fs:List Field} {as bs:List AV} (hl:as.length=P.cellsOf f.type) (h1:Ty P f.type as) (h2:Oi P fs bs):Oi P (f::fs) (as++bs)
end
abbrev G0:aK:=⟨[],λ_=>none⟩
def Plain (as:List AV):Prop:=AV.dj as=true/\AV.ah as=true/\AV.aH as=true
theorem oe {a:AV}(h1:a.bR=true)(h2:a.an=true)(h3:a.cv=true):Plain [a]:=by
 refine⟨?_,?_,?_⟩<;>simp[AV.dj,AV.ah,AV.aH,h1,h2,h3]
theorem Ek {as bs:List AV}(h:Plain as)(k:Plain bs):Plain (as++bs):=by
 obtain⟨h1,h2,h3⟩:=h
 obtain⟨k1,k2,k3⟩:=k
 refine⟨(cn _).2 λc hc=>?_,(fC _).2 λc hc=>?_,?_⟩
 ·rcases List.mem_append.1 hc with h|h
  ·exact(cn _).1 h1 c h
  ·exact(cn _).1 k1 c h
 ·rcases List.mem_append.1 hc with h|h
  ·exact(fC _).1 h2 c h
  ·exact(fC _).1 k2 c h
 ·simp only[AV.aH,List.all_append,Bool.and_eq_true]at *
  exact⟨h3,k3⟩
theorem qx {a:AV}{v:Value}(h:aL w G a v):bV w G [a] [v]:=⟨rfl,λi c u h1 h2=>by
 cases i with
 |zero=>simp at h1 h2;subst h1;subst h2;exact h
 |succ i=>simp at h1⟩
theorem S2 {b o:Nat}(h:b<w.heap.size):Imm w G0 b o:=⟨h,λp hp=>by cases hp⟩
section
variable {H:Type}{enc:TypeId×Value->H}{ts:List TypeId}
theorem Df {cs:List Value}:∀(fs:List Field)(o:Nat),(∀(j:Nat) f,fs[j]?=some f->f.offset=o+((fs.take j).map λf=>P.cellsOf f.type).sum)->cs.length=o+(fs.map λf=>P.cellsOf f.type).sum->
  (∀f∈fs,∃as,bV w G0 as ((cs.drop f.offset).take (P.cellsOf f.type))/\Ty P f.type as/\Plain as)->∃as,bV w G0 as (cs.drop o)/\Oi P fs as/\Plain as
 |[],o,_,hl,_=>by
  simp at hl
  have:cs.drop o=[]:=List.drop_eq_nil_of_le (by omega)
  rw[this]
  exact⟨[],⟨rfl,λi c v h=>by simp at h⟩,.nil,rfl,rfl,rfl⟩
 |f::fs,o,ho,hl,hf=>by
  have e0:f.offset=o:=by have:=ho 0 f rfl;simpa using this
  simp only[List.map_cons,List.sum_cons]at hl
  obtain⟨bs,h1,h2,h3⟩:=Df fs (o+P.cellsOf f.type) (λj g hg=>by
   have:=ho (j+1) g (by simpa using hg)
   simp only[List.take_succ_cons,List.map_cons,List.sum_cons]at this
   omega) (by omega) (λg hg=>hf g (by simp[hg]))
  obtain⟨as,k1,k2,k3⟩:=hf f (by simp)
  rw[e0]at k1
  have hlen:as.length=P.cellsOf f.type:=by
   rw[k1.1,List.length_take,List.length_drop];omega
  refine⟨as++bs,?_,.cons hlen k2 h2,Ek k3 h3⟩
  have:cs.drop o=(cs.drop o).take (P.cellsOf f.type)++cs.drop (o+P.cellsOf f.type):=by
   rw[<-List.drop_drop,List.take_append_drop]
  rw[this]
  exact bV.append k1 h1
theorem S3 (hK:Kids P (· < P.types.size))(hp:zT P ts=true):∀(n:Nat)(t:TypeId)(cs:List Value)(x:DataW H×List MemPlace),t∈ts->DataW.trod enc P w 0 (λ_=>true) true n t cs=some x->
  ∃as,bV w G0 as cs/\Ty P t as/\Plain as:=by
 intro n
 induction n with
 |zero=>intro t cs x _ h;simp[DataW.trod]at h
 |succ n ih=>
  intro t cs x ht h
  have Ja:=List.all_eq_true.1 hp t ht
  simp only[Bool.and_eq_true,decide_eq_true_eq]at Ja
  obtain⟨aZ,Ja⟩:=Ja
  split at Ja
  ·rename_i hu
   obtain⟨b,rfl,rfl⟩:=DataW.trod_bool hu h
   exact⟨[.bool b],qx (.bool b),.bool hu b,oe rfl rfl rfl⟩
  ·rename_i k hu
   obtain⟨m,rfl,rfl,hw⟩:=DataW.trod_int hu h
   simp only[Lit.wf,Bool.and_eq_true,decide_eq_true_eq]at hw
   exact⟨[.int k m],qx (.int k m),.int hu m hw.1 hw.2,oe rfl rfl rfl⟩
  ·rename_i hu
   obtain⟨s,rfl,rfl,dA⟩:=DataW.trod_string hu h
   exact⟨[.str s.data.toList],qx (.str _ s rfl),.str hu _ (by simpa using dA),oe rfl rfl rfl⟩
  ·rename_i e hu
   simp only[Bool.and_eq_true,List.contains_eq_mem,decide_eq_true_eq]at Ja
   obtain⟨he,dL⟩:=Ja
   rcases DataW.trod_slice hu h with⟨rfl,rfl⟩|⟨a,len,cap,elems,rest,m,hm,rfl,rfl,_,hlc,hcm,qH,abe,NO,_⟩
   ·exact⟨[.U],qx .U,.U hu,oe rfl rfl rfl⟩
   ·cases hm
    by_cases eJ:cap=0
    ·subst eJ
     have:len=0:=by omega
     subst this
     exact⟨[.emp],qx (.emp a),.emp hu,oe rfl rfl rfl⟩
    ·have cP:∀i,i<cap->∃Oj y,w.cells? 0 (a.add (i*P.cellsOf e)) (P.cellsOf e)=some Oj/\DataW.trod enc P w 0 (λ_=>true) true n e Oj=some y:=by
      intro i hi
      by_cases Ok:i<len
      ·have h1:=abe i Ok
       have h2:∃y,elems[i]?=some y:=⟨_,List.getElem?_eq_getElem (by omega)⟩
       obtain⟨y,hy⟩:=h2
       rw[hy,Option.bind_eq_some_iff]at h1
       obtain⟨Oj,e1,e2⟩:=h1
       exact⟨Oj,y,e1,e2⟩
      ·obtain⟨qO,hr⟩:=NO rfl
       have h1:=hr (i-len) (by omega)
       rw[show len+(i-len)=i by omega]at h1
       have h2:∃y,rest[i-len]?=some y:=⟨_,List.getElem?_eq_getElem (by omega)⟩
       obtain⟨y,hy⟩:=h2
       rw[hy,Option.bind_eq_some_iff]at h1
       obtain⟨Oj,e1,e2⟩:=h1
       exact⟨Oj,y,e1,e2⟩
     have Vc:a.spot=none:=by
      obtain⟨Oj,y,e1,_⟩:=cP 0 (by omega)
      obtain⟨_,g2,g3⟩:=World.cells?_some e1
      have h0:=g3 0 dL
      have:∃v,Oj[0]?=some v:=⟨_,List.getElem?_eq_getElem (by omega)⟩
      obtain⟨v,hv⟩:=this
      rw[hv]at h0
      have:=World.cell?_spot h0
      simpa [Addr.add] using this
     obtain⟨iQ,off,spot⟩:=a
     simp only at Vc
     subst Vc
     have Lw:∀off k,Addr.add ⟨iQ,off,none⟩ k=⟨iQ,off+k,none⟩:=λoff k=>by
      unfold Addr.add
      split
      ·rename_i h0;subst h0;rfl
      ·rfl
     have v9:∀i,i<len->∃r,(r.length=P.cellsOf e/\Ty P e r/\Plain r)/\∀(j:Nat) c,r[j]?=some c->∃v,w.cell? ⟨iQ,off+(i*P.cellsOf e+j),none⟩=some v/\aL w G0 c v:=by
      intro i hi
      obtain⟨Oj,y,e1,e2⟩:=cP i (by omega)
      obtain⟨_,g2,g3⟩:=World.cells?_some e1
      obtain⟨r,r1,r2,r3⟩:=ih e Oj y he e2
      have qO:r.length=P.cellsOf e:=by rw[r1.1,g2]
      refine⟨r,⟨qO,r2,r3⟩,λj c hc=>?_⟩
      have hj:j<P.cellsOf e:=by rw[<-qO];exact(List.getElem?_eq_some_iff.1 hc).1
      have h0:=g3 j hj
      have hv:∃v,Oj[j]?=some v:=⟨_,List.getElem?_eq_getElem (by omega)⟩
      obtain⟨v,hv⟩:=hv
      rw[hv,Lw,Lw]at h0
      refine⟨v,by rw[<-h0];congr 2;omega,r1.2 j c v hc hv⟩
     have key:∀m,m<=len->∃rows:List (List AV),rows.length=m/\∀(i:Nat) r,rows[i]?=some r->(r.length=P.cellsOf e/\Ty P e r/\Plain r)/\∀(j:Nat) c,r[j]?=some c->∃v,w.cell? ⟨iQ,off+(i*P.cellsOf e+j),none⟩=some v/\aL w G0 c v:=by
      intro m
      induction m with
      |zero=>intro _;exact⟨[],rfl,λi r h=>by simp at h⟩
      |succ m ihm=>
       intro hm
       obtain⟨rows,l1,l2⟩:=ihm (by omega)
       obtain⟨r,hr⟩:=v9 m (by omega)
       refine⟨rows++[r],by simp[l1],λi r' hi=>?_⟩
       by_cases him:i<m
       ·rw[List.getElem?_append_left (by omega)]at hi
        exact l2 i r' hi
       ·rw[List.getElem?_append_right (by omega)]at hi
        have:i-rows.length=0:=by
         rcases Nat.eq_zero_or_pos (i-rows.length) with h|h
         ·exact h
         ·rw[List.getElem?_eq_none (by simp;omega)]at hi;cases hi
        rw[this]at hi
        simp at hi
        subst hi
        have:i=m:=by omega
        subst this
        exact hr
     obtain⟨rows,l1,l2⟩:=key len (Nat.le_refl _)
     have xH:∀r∈rows,r.length=P.cellsOf e/\Ty P e r/\Plain r:=λr hr=>by
      obtain⟨i,hi,rfl⟩:=List.mem_iff_getElem.1 hr
      exact(l2 i _ (List.getElem?_eq_getElem hi)).1
     have dc:aL w G0 (.cN (P.cellsOf e) rows) (.slice (some ⟨iQ,off,none⟩) rows.length cap):=by
      refine .cN (P.cellsOf e) rows ⟨iQ,off,none⟩ cap rfl (by omega) ?_ (λr hr=>(xH r hr).2.2.1) (λr hr=>(xH r hr).2.2.2.1) (λr hr=>(xH r hr).2.2.2.2) (λi r j c h1 h2=>?_) (λi r j c v h1 h2 h3=>?_)
      ·simp only[fits,List.all_eq_true,beq_iff_eq]
       exact λr hr=>(xH r hr).1
      ·obtain⟨v,e1,_⟩:=(l2 i r h1).2 j c h2
       exact⟨S2 (World.block_lt_of_cell? w ⟨iQ,off+(i*P.cellsOf e+j),none⟩ e1:iQ<w.heap.size),v,e1⟩
      ·obtain⟨v',e1,e2⟩:=(l2 i r h1).2 j c h2
       rw[e1]at h3;cases h3
       exact e2
     rw[l1]at dc
     exact⟨[.cN (P.cellsOf e) rows],qx dc,(.cN hu rows (by omega) (λr hr=>(xH r hr).1) (λr hr=>(xH r hr).2.1)),oe rfl rfl rfl⟩
  ·rename_i fs hu
   simp only[List.all_eq_true,List.contains_eq_mem,decide_eq_true_eq]at Ja
   obtain⟨xs,m,hm,rfl,hl,hlen,hf⟩:=DataW.trod_struct hu h
   cases hm
   obtain⟨_,k2,k3⟩:=hK.struct aZ hu
   obtain⟨as,h1,h2,h3⟩:=Df (P:=P) (w:=w) (cs:=cs) fs.toList 0 (λj f hf=>by rw[k3 j f hf];omega) (by rw[hl,k2];omega) λf hfm=>by
    obtain⟨i,hi,rfl⟩:=List.mem_iff_getElem.1 hfm
    have hg:fs.toList[i]?=some fs.toList[i]:=List.getElem?_eq_getElem hi
    have h1:=hf i fs.toList[i] (by simp)
    have hy:∃y,xs[i]?=some y:=⟨_,List.getElem?_eq_getElem (by rw[hlen];simpa using hi)⟩
    obtain⟨y,hy⟩:=hy
    rw[hy]at h1
    exact ih _ _ y (Ja _ hfm) h1
   exact⟨as,by simpa using h1,.S1 hu as h2,h3⟩
  ·cases Ja
def Wy (P:Program)(t:TypeId)(a:AV):Prop:=(∃fs as,P.underlying t=some (.struct fs)/\a=.agg as/\Ty P t as)\/((∀fs,P.underlying t≠some (.struct fs))/\Ty P t [a])
def S4 (P:Program):List TypeId->List AV->Prop
 |[],[]=>True
 |t::ts,a::as=>Wy P t a/\S4 P ts as
 |_,_=>False
theorem Ol (hK:Kids P (· < P.types.size))(hp:zT P ts=true){r:Reach}{base:Nat}{t:TypeId}{v:Value}{d:DataW H}{ps:List MemPlace}(ht:t∈ts)(cw:Value.okWide P w r base t v)
  (h:DataW.Trod enc P w 0 (λ_=>true) true t v d ps):∃a,aL w G0 a v/\Wy P t a/\a.bR=true:=by
 obtain⟨n,hn⟩:=h
 obtain⟨as,h1,h2,h3⟩:=S3 hK hp n t _ _ ht hn
 have one:v.cells = #[v]->(∀fs,P.underlying t≠some (.struct fs))->∃a,aL w G0 a v/\Wy P t a/\a.bR=true:=by
  intro hc hs
  rw[hc]at h1
  obtain⟨e1,e2⟩:=h1
  match as,e1,e2,h2,h3 with
  |[a],_,e2,h2,h3=>exact⟨a,e2 0 a v rfl rfl,.inr ⟨hs,h2⟩,by have:=h3.1;simpa [AV.dj] using this⟩
 have Ja:=List.all_eq_true.1 hp t ht
 simp only[Bool.and_eq_true,decide_eq_true_eq]at Ja
 obtain⟨_,Ja⟩:=Ja
 split at Ja
 ·rename_i hu
  obtain⟨b,rfl⟩:=WideShapes.okWide_bool hu cw
  exact one rfl λfs h=>by rw[hu]at h;cases h
 ·rename_i k hu
  obtain⟨b,rfl⟩:=WideShapes.okWide_int hu cw
  exact one rfl λfs h=>by rw[hu]at h;cases h
 ·rename_i hu
  obtain⟨b,rfl⟩:=WideShapes.okWide_string hu cw
  exact one rfl λfs h=>by rw[hu]at h;cases h
 ·rename_i e hu
  obtain⟨a,l,c,rfl⟩:=WideShapes.okWide_slice hu cw
  exact one rfl λfs h=>by rw[hu]at h;cases h
 ·rename_i fs hu
  obtain⟨cs,rfl,_⟩:=WideShapes.okWide_struct hu cw
  refine⟨.agg as,.agg as cs (by simpa [Value.cells] using h1.1) λi c v e1 e2=>h1.2 i c v e1 (by simpa [Value.cells] using e2),.inl ⟨fs,as,hu,rfl,h2⟩,?_⟩
  simp only[AV.bR];exact h3.1
 ·cases Ja
theorem Dg (hK:Kids P (· < P.types.size))(hp:zT P ts=true){r:Reach}{base:Nat}:∀{us:List TypeId}{vs:List Value}{ds:List (DataW H)}{ps:List MemPlace},(∀t∈us,t∈ts)->
  (∀(j:Nat) t v,us[j]?=some t->vs[j]?=some v->Value.okWide P w r base t v)->DataW.TrodAll enc P w 0 (λ_=>true) true us vs ds ps->∃as,bV w G0 as vs/\S4 P us as/\AV.dj as=true
 |[],[],[],_,_,_,_=>⟨[],⟨rfl,λi c v h=>by simp at h⟩,trivial,rfl⟩
 |t::us,v::vs,d::ds,ps,hu,hv,h=>by
  obtain⟨p,q,h1,h2,rfl⟩:=h
  obtain⟨a,a1,a2,a3⟩:=Ol hK hp (hu t (by simp)) (hv 0 t v rfl rfl) h1
  obtain⟨as,b1,b2,b3⟩:=Dg hK hp (λt ht=>hu t (by simp[ht])) (λj t v e1 e2=>hv (j+1) t v (by simpa using e1) (by simpa using e2)) h2
  exact⟨a::as,bV.cons a1 b1,⟨a2,b2⟩,by simp[AV.dj,a3,b3]⟩
 |[],_::_,_,_,_,_,h=>h.elim
 |[],[],_::_,_,_,_,h=>h.elim
 |_::_,[],_,_,_,_,h=>h.elim
 |_::_,_::_,[],_,_,_,h=>h.elim
theorem uR (hK:Kids P (· < P.types.size))(hz:∀t e,t<P.types.size->P.underlying t=some (.slice e)->0<P.cellsOf e){sp:Nat->Bool}(Om:∀b,b<w.heap.size->w'.heap[b]?=w.heap[b]?):∀{us:List TypeId}{vs:List Value}{ds:List (DataW H)}{ps:List MemPlace},(∀t∈us,t<P.types.size)->
  DataW.TrodAll enc P w 0 (λ_=>true) true us vs ds ps->(∀p∈ps,sp p.block=true)->DataW.TrodAll enc P w' 0 sp true us vs ds ps
 |[],[],[],_,_,h,_=>h
 |t::us,v::vs,d::ds,ps,hu,h,hs=>by
  obtain⟨p,q,⟨n,h1⟩,h2,rfl⟩:=h
  refine⟨p,q,⟨n,DataW.trod_stays hK (fun {t e}=>hz t e) (λh=>by cases h) (hu t (by simp)) h1 (λx hx=>?_) λx hx=>hs x (by simp[hx])⟩,uR hK hz Om (λt ht=>hu t (by simp[ht])) h2 (λx hx=>hs x (by simp[hx])),rfl⟩
  have aZ:=DataW.trod_lt n t _ _ h1 x hx
  cases x with
  |cell b off=>simp only[World.sameAt,World.cell?,Om b aZ]
  |map b=>exact Om b aZ
 |[],_::_,_,_,_,h,_=>h.elim
 |[],[],_::_,_,_,h,_=>h.elim
 |_::_,[],_,_,_,h,_=>h.elim
 |_::_,_::_,[],_,_,h,_=>h.elim
theorem On (w:World):Inv w G0 []:=⟨rfl,λid ob loc h=>by simp at h,λb p h=>by cases h⟩
theorem El {may:MemPlace->Prop}(h1:w'.os=w.os)(h2:w'.output=w.output)(h3:∀b,b<w.heap.size->w'.heap[b]?=w.heap[b]?):w.keptBut w' may:=by
 refine⟨h1,h2,λi hi=>?_⟩
 rw[h3 i hi]
 have:=Array.getElem?_eq_getElem hi
 rw[this]
 cases w.heap[i] with
 |cells c t fr=>exact⟨rfl,rfl,rfl,λ_ _=>rfl⟩
 |map es clock=>exact .inr ⟨rfl,rfl⟩
 |_=>rfl
theorem Gx (_hsz:w.heap.size<=w'.heap.size)(h3:∀b,b<w.heap.size->w'.heap[b]?=w.heap[b]?)(a:Addr)(ha:a.block<w.heap.size):w'.frozen? a=w.frozen? a:=by
 simp only[World.frozen?,h3 a.block ha]
end
end Ax
namespace Ax
open Go Go.ChangeShapes
variable {P:Program}{w w':World}{G G':aK}{H:Type}{enc:TypeId×Value->H}
theorem Oo {f:Func}{s:ChangeSpec}{apart fresh handsOn again:Bool}{W W':World}{args:Array Value}{ds gs:List (DataW H)}{before:List MemPlace}{tb:TypeId}
  (hK:Kids P (· < P.types.size)) (hz:∀t e,t<P.types.size->P.underlying t=some (.slice e)->0<P.cellsOf e) (L1:∀t∈f.params.toList,t<P.types.size)
  (hW:DataW.Whole enc P f.params.toList s.vars apart W args.toList ds gs before) (hv:s.vars=[]) (CH:f.resultTypes = #[tb]) (htb:P.underlying tb=some .bool)
  (hr:(s.fn H ds).results=[.lit (.bool true)]) (ha:(s.fn H ds).args=ds) (Cs:(s.fn H ds).vars=[])
  (h1:W'.os=W.os) (h2:W'.output=W.output) (h4:W.heap.size<=W'.heap.size) (h3:∀b,b<W.heap.size->W'.heap[b]?=W.heap[b]?) :
  s.post enc P f apart fresh handsOn again W args (.bool true) W':=by
 have hW':=hW
 obtain⟨p,q,hA,hV,rfl,zm,hn⟩:=hW'
 rw[hv]at hV
 cases gs with
 |cons _ _=>exact hV.elim
 |nil=>
  have hq:q=[]:=hV
  subst hq
  simp only[List.append_nil]at hW zm hn
  have eG:∀sp:Nat->Bool,(∀x∈p,sp x.block=true)->DataW.TrodAll enc P W' 0 sp true f.params.toList args.toList ds p:=λsp nS=>uR hK hz h3 L1 hA nS
  have hfr:∀x∈p,x.block<W.heap.size:=DataW.TrodAll.lt hA
  have hold:∀x∈p,(λb=>decide (b<W.heap.size)) x.block=true:=λx hx=>by simpa using hfr x hx
  have qO:(Value.bool true).resultList f.resultTypes.size=[.bool true]:=by rw[CH];rfl
  have SZ:∀(b:Nat) (sp:Nat->Bool) (hd:Bool),DataW.TrodAll enc P W' b sp hd f.resultTypes.toList ((Value.bool true).resultList f.resultTypes.size) (s.fn H (ds++[])).results []:=λb sp hd=>by
   rw[List.append_nil,hr,qO,CH]
   exact⟨[],[],⟨1,by simp[DataW.trod,htb,Value.cells]⟩,rfl,rfl⟩
  refine⟨ds,[],p,[],p,[],hW,SZ _ _ _,by rw[List.append_nil,ha];exact eG _ hold,by rw[hv,List.append_nil,Cs];rfl,El h1 h2 h3,λ_=>?_⟩
  refine⟨λj t r e1 e2=>?_,[DataW.lit (.bool true)]++ds,[],p,⟨p,[],?_,(by rw[hv];exact(rfl:DataW.TrodVars enc P W' (λ_=>true) [] [] [])),by simp,?_,?_⟩,?_⟩
  ·rw[CH]at e1
   rw[qO]at e2
   cases j with
   |zero=>
    simp at e1 e2
    subst e1;subst e2
    exact RowKit.okWide_bool_mk htb true
   |succ j=>simp at e1
  ·have:=trodAll_append (eG _ (λ_ _=>rfl)) (SZ 0 (λ_=>true) true)
   simpa [hr] using this
  ·intro b off hp
   rw[Gx h4 h3 _ (hfr _ hp)]
   exact zm b off hp
  ·exact hn
  ·intro x hx _;exact hx
theorem Jb {S:Nat->Option aC}(hT:Gt S P):iV S P (aW S):=λwl aa f args st v bK h=>by
 obtain⟨n,hn⟩:=(qk S).call _ _ _ _ _ _ h
 exact(De hT n).1 wl aa f args st v bK hn
theorem L2 {S:Nat->Option aC}(hT:Gt S P){f:FuncId}(hf:f<100000){as:List AV}{bK:aj}(hc:(aW S).call 0 0 f as []=some (.bool true,bK)){W:World}{args:Array Value}(hR:bV W G0 as args.toList)(hY:AV.dj as=true) :
  Calls P f args W λe W'=>e=.returned (.bool true)/\W'.os=W.os/\W'.output=W.output/\W.heap.size<=W'.heap.size/\∀b,b<W.heap.size->W'.heap[b]?=W.heap[b]?:=by
 obtain⟨sf,h1,h2,h3,h4⟩:=Jb hT _ _ _ _ _ _ _ hc
 have hz:∀b,bM b as args.toList+bS b G0.ls []=0:=λb=>by rw[cU b _ _ hY];simp[bS]
 have:=h4 W G0 args.toList hR (On W) (λb=>by rw[hz b];omega)
 rw[h3 hf]at this
 refine this.mono λe W' h=>?_
 obtain⟨u,G',rfl,r1,r2,r3⟩:=h
 refine⟨by rw[aL.iR r1],r3.os,r3.out,r3.size,λb hb=>(r3.sB b hb (hz b)).2⟩
structure Home (S:Nat->Option aC)(C:Checked)(ts:List TypeId):Prop where
 own:ownKnob C.prog.godebug=none
 tab:Gt S C.prog
 kids:Kids C.prog (· < C.prog.types.size)
 full:∀t e,t<C.prog.types.size->C.prog.underlying t=some (.slice e)->0<C.prog.cellsOf e
 plain:zT C.prog ts=true
theorem law_lifted {S:Nat->Option aC}{C:Checked}{ts:List TypeId}(hh:Home S C ts){os:Os}(started:os.Started){f:FuncId}{fn:Func}{s:ChangeSpec}{conds:List PathCond}{apart fresh handsOn again:Bool}{tb:TypeId}
  (Wz:C.prog.inits.idxOf? f=none) (FC:C.prog.funcs[f]?=some fn) (hf:f<100000)
  (witness:∃(w:World) (tape:Tape) (i:Input),w.os=os/\(w.forCall tape i).Shaped C.prog/\i.vars=[]/\Input.okWide C.prog (w.forCall tape i) .any w.heap.size f i/\
   s.pre6 enc C.prog fn conds apart (w.forCall tape i).memory i.args/\({}:Assume).holds C.prog (lone (Frame.enter C.prog f i.args .normal) [] (w.forCall tape i)))
  (L1:(fn.params.toList.all λt=>ts.contains t&&decide (t<C.prog.types.size))=true) (hv:s.vars=[]) (CH:fn.resultTypes = #[tb]) (htb:C.prog.underlying tb=some .bool)
  (abf:∀ds:List (DataW H),ds.length=fn.params.toList.length->(s.fn H ds).results=[.lit (.bool true)]/\(s.fn H ds).args=ds/\(s.fn H ds).vars=[])
  (dh:∀as,S4 C.prog fn.params.toList as->∃bK,(aW S).call 0 0 f as []=some (.bool true,bK)) :
  ReturnsInHanded {} C os f .any (s.pre6 enc C.prog fn conds apart) (s.post enc C.prog fn apart fresh handsOn again):=by
 refine returnsInHanded_of_change hh.own started Wz FC witness ?_
 intro W base args ds gs before cw hW _ _
 have hp:∀t∈fn.params.toList,t∈ts/\t<C.prog.types.size:=λt ht=>by
  have:=List.all_eq_true.1 L1 t ht
  simpa using this
 obtain⟨p,q,hA,hV,hb,_,_⟩:=id hW
 obtain⟨as,a1,a2,a3⟩:=Dg hh.kids hh.plain (λt ht=>(hp t ht).1) (λj t v e1 e2=>cw j t v (by simpa using e1) (by simpa using e2)) hA
 obtain⟨bK,hc⟩:=dh as a2
 have hlen:∀(us:List TypeId) (vs:List Value) (ds:List (DataW H)) (p:List MemPlace),DataW.TrodAll enc C.prog W 0 (λ_=>true) true us vs ds p->ds.length=us.length:=by
  intro us
  induction us with
  |nil=>intro vs ds p h;cases vs with
   |nil=>cases ds with
    |nil=>rfl
    |cons _ _=>exact h.elim
   |cons _ _=>cases ds<;>exact h.elim
  |cons t us ih=>intro vs ds p h;cases vs with
   |nil=>cases ds<;>exact h.elim
   |cons v vs=>cases ds with
    |nil=>exact h.elim
    |cons d ds=>
     obtain⟨_,_,_,h2,_⟩:=h
     simp[ih vs ds _ h2]
 obtain⟨s1,s2,s3⟩:=abf ds (hlen _ _ _ _ hA)
 refine(L2 hh.tab hf hc a1 a3).mono λe W' h=>?_
 obtain⟨rfl,h1,h2,h3,h4⟩:=h
 exact⟨_,rfl,Oo hh.kids hh.full (λt ht=>(hp t ht).2) hW hv CH htb s1 s2 s3 h1 h2 h3 h4⟩
end Ax
namespace Ax
open Go
def tV (S:Nat->Option aC)(P:Program):Nat->List (Option aC)->Bool
 |_,[]=>true
 |k,none::l=>tV S P (k+1) l
 |k,some sf::l=>Ks S P sf&&(decide (100000<=k)||sf.fD==k)&&tV S P (k+1) l
theorem qY {S:Nat->Option aC}{P:Program}:∀{l:List (Option aC)}{k:Nat},tV S P k l=true->∀(i:Nat) sf,l[i]?=some (some sf)->Ks S P sf=true/\(k+i<100000->sf.fD=k+i)
 |[],_,_,i,sf,h=>by simp at h
 |none::l,k,h,i,sf,hi=>by
  cases i with
  |zero=>simp at hi
  |succ i=>
   have:=qY (l:=l) (k:=k+1) h i sf (by simpa using hi)
   rw[show k+1+i=k+(i+1) by omega]at this
   exact this
 |some s::l,k,h,i,sf,hi=>by
  simp only[tV,Bool.and_eq_true,Bool.or_eq_true,decide_eq_true_eq,beq_iff_eq]at h
  obtain⟨⟨h1,h2⟩,h3⟩:=h
  cases i with
  |zero=>
   simp at hi
   subst hi
   exact⟨h1,λhk=>by omega⟩
  |succ i=>
   have:=qY (l:=l) (k:=k+1) h3 i sf (by simpa using hi)
   rw[show k+1+i=k+(i+1) by omega]at this
   exact this
theorem S5 {RR DX:List (Option aC)}{P:Program}(h1:tV (Nn RR DX) P 0 RR=true)(h2:tV (Nn RR DX) P 100000 DX=true):Gt (Nn RR DX) P:=by
 intro f sf hf
 unfold Nn at hf
 split at hf
 ·cases hg:RR[f]? with
  |none=>rw[hg]at hf;cases hf
  |some x=>
   rw[hg]at hf
   simp only[Option.getD_some]at hf
   subst hf
   have:=qY h1 f sf hg
   exact⟨this.1,λh=>by have:=this.2 (by omega);omega⟩
 ·rename_i aZ
  cases hg:DX[f-100000]? with
  |none=>rw[hg]at hf;cases hf
  |some x=>
   rw[hg]at hf
   simp only[Option.getD_some]at hf
   subst hf
   have:=qY h2 (f-100000) sf hg
   exact⟨this.1,λh=>absurd h aZ⟩
end Ax
