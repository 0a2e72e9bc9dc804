/- The library of this proof, part 5: an abstract interpreter of the loaded code, and its soundness. -/
import Derived.Test.YtachcambnjecnaaA4
import Derived.Scope
import Derived.ChangeStays
import Derived.ChangeSame
import Derived.ChangeOld
import Derived.ChangeArms
import Derived.JoinedOf
import Derived.RowKit3
import Derived.ReadAgain
import Derived.Handed

namespace Ax
open Go
variable {S:Nat->Option aD}{P:Program}{O:jC}{wl aa:Nat}
theorem zN:∀{m:List aX}{s e:St}{gT:List St},dJ O wl aa m s=some (e,gT)->
  gT.length=m.length+1/\gT[0]?=some s/\gT[m.length]?=some e/\∀(i:Nat) so,m[i]?=some so->∃x y,gT[i]?=some x/\gT[i+1]?=some y/\gr O wl aa so x=some y
 |[],s,e,gT,h=>by
  simp only[dJ,Option.some.injEq,Prod.mk.injEq]at h
  obtain⟨rfl,rfl⟩:=h
  exact⟨rfl,rfl,rfl,λi so h=>by simp at h⟩
 |o::m,s,e,gT,h=>by
  simp only[dJ]at h
  split at h
  ·rename_i s1 vZ
   split at h
   ·rename_i e' l' hr
    cases h
    obtain⟨h1,h2,h3,h4⟩:=zN hr
    refine⟨by simp[h1],rfl,by simpa using h3,λi so hi=>?_⟩
    cases i with
    |zero=>simp at hi;subst hi;exact⟨s,s1,rfl,by simpa using h2,vZ⟩
    |succ i=>
     obtain⟨x,y,a1,a2,a3⟩:=h4 i so (by simpa using hi)
     exact⟨x,y,by simpa using a1,by simpa using a2,a3⟩
   ·cases h
  ·cases h
structure X3 (S:Nat->Option aD)(O:jC)(wl aa:Nat)(so:aX)(s t:St):Prop where
 tQ:∀u,u ∉ pP so->cQ t.env u=cQ s.env u
 ahg:∀b,so.op.bW≠some b->t.bx[b]?=s.bx[b]?
 Ug:t.bx.length=s.bx.length
 X4:so.op.n6 S=false->t.st=s.st
 non:lA s.env so.guard=some false->cQ t.env=jN (cQ s.env) so.dst (.val .undef)/\t.bx=s.bx/\t.st=s.st
 yes:lA s.env so.guard=some true->∃e,qM O wl aa so.op (so.args.map (GC s.env)) s.st s.bx=some (e,t.st,t.bx)/\cQ t.env=jN (jh (cQ s.env) (oI so.args)) so.dst e
 wan:lA s.env so.guard≠none
theorem ahh{so:aX}{s t:St}(hO:zM S O)(h:gr O wl aa so s=some t):X3 S O wl aa so s t:=by
 unfold gr at h
 split at h
 ·cases h
 ·rename_i hw
  cases h
  refine⟨λu hu=>?_,λ_ _=>rfl,rfl,λ_=>rfl,λ_=>⟨jH _ _ _,rfl,rfl⟩,λh=>(by rw[hw]at h;cases h),(by rw[hw];simp)⟩
  simp only[pP,List.mem_append,Option.mem_toList,not_or]at hu
  rw[jH]
  simp only[jN]
  rw[if_neg hu.1]
 ·rename_i hw
  split at h
  ·cases h
  ·rename_i e bS fm ha
   have kJ:t=⟨vJ (so.args.foldl k8 s.env) so.dst e,fm,bS⟩->X3 S O wl aa so s t:=by
    intro ht
    subst ht
    have he:cQ (vJ (so.args.foldl k8 s.env) so.dst e)=jN (jh (cQ s.env) (oI so.args)) so.dst e:=by rw[jH,sq]
    have hb:(∀b,so.op.bW≠some b->fm[b]?=s.bx[b]?)/\fm.length=s.bx.length:=by
     obtain⟨wL,h1,h2,h3,h4,h5,h6⟩:=HE (wL:=s.bx) rfl (λ_ _=>rfl) ha
     exact⟨h6,h2⟩
    refine⟨λu hu=>?_,hb.1,hb.2,λhW=>Ly hO hW ha,λh=>(by rw[hw]at h;cases h),λ_=>⟨e,ha,he⟩,(by rw[hw];simp)⟩
    simp only[pP,List.mem_append,Option.mem_toList,not_or]at hu
    show cQ (vJ (so.args.foldl k8 s.env) so.dst e) u=_
    rw[he]
    simp only[jN,jh]
    rw[if_neg hu.1,if_neg hu.2]
   split at h
   ·cases h;exact kJ rfl
   ·split at h
    ·cases h;exact kJ rfl
    ·cases h
structure Text (S:Nat->Option aD)(O:jC)(wl aa:Nat)(m:List aX)(T:Nat->St):Prop where
 one:∀(i:Nat) so,m[i]?=some so->X3 S O wl aa so (T i) (T (i+1))
def JZ(m:List aX)(T:Nat->St)(k:Nat)(t:Nat):Option eG:=match m[k]? with
 |some so=>if t∈pP so then some (cQ (T (k+1)).env t) else none
 |none=>none
def J0(m:List aX)(T:Nat->St)(k:Nat)(b:Nat):Option (Option (List AV)):=match m[k]? with
 |some so=>if so.op.bW=some b then some ((T (k+1)).bx[b]?) else none
 |none=>none
def J1(S:Nat->Option aD)(m:List aX)(T:Nat->St)(k:Nat)(_:Unit):Option aj:=match m[k]? with
 |some so=>if so.op.n6 S=true then some (T (k+1)).st else none
 |none=>none
abbrev vT(m:List aX)(T:Nat->St)(D:Nat->Bool)(t:Nat):eG:=nS (cQ (T 0).env) (JZ m T) D m.length t
abbrev vB(m:List aX)(T:Nat->St)(D:Nat->Bool)(b:Nat):Option (List AV):=nS (λb=>(T 0).bx[b]?) (J0 m T) D m.length b
abbrev vS(S:Nat->Option aD)(m:List aX)(T:Nat->St)(D:Nat->Bool):aj:=nS (λ_=>(T 0).st) (J1 S m T) D m.length ()
section
variable {m:List aX}{T:Nat->St}
theorem Pw(h:Text S O wl aa m T){j:Nat}(hj:j<=m.length)(t:Nat):vT m T (λk=>decide (k<j)) t=cQ (T j).env t:=by
 refine yM (st:=λk t=>cQ (T k).env t) (λ_=>rfl) (λk hk x=>?_) hj t
 have hs:m[k]?=some m[k]:=List.getElem?_eq_getElem hk
 simp only[JZ,hs]
 split
 ·rfl
 ·rename_i hx;exact(h.one k _ hs).tQ x hx
theorem Px(h:Text S O wl aa m T){j:Nat}(hj:j<=m.length)(b:Nat):vB m T (λk=>decide (k<j)) b=(T j).bx[b]?:=by
 refine yM (st:=λk b=>(T k).bx[b]?) (λ_=>rfl) (λk hk x=>?_) hj b
 have hs:m[k]?=some m[k]:=List.getElem?_eq_getElem hk
 simp only[J0,hs]
 split
 ·rfl
 ·rename_i hx;exact(h.one k _ hs).ahg x hx
theorem Py(h:Text S O wl aa m T){j:Nat}(hj:j<=m.length):vS S m T (λk=>decide (k<j))=(T j).st:=by
 refine yM (st:=λk (_:Unit)=>(T k).st) (λ_=>rfl) (λk hk x=>?_) hj ()
 have hs:m[k]?=some m[k]:=List.getElem?_eq_getElem hk
 simp only[J1,hs]
 split
 ·rfl
 ·rename_i hx;exact(h.one k _ hs).X4 (by simpa using hx)
theorem LF(D:Nat->Bool):∀(N:Nat),N<=m.length->∃p,p<=N/\nS (λ_=>(T 0).st) (J1 S m T) D N ()=(T p).st/\
  (p=0\/∃q so,p=q+1/\m[q]?=some so/\D q=true/\so.op.n6 S=true)/\∀(j:Nat) so,p<=j->j<N->m[j]?=some so->so.op.n6 S=true->D j=false
 |0,_=>⟨0,Nat.le_refl _,rfl,.inl rfl,λj so h1 h2=>by omega⟩
 |N+1,hN=>by
  obtain⟨p,h1,h2,h3,h4⟩:=LF D N (by omega)
  have hs:m[N]?=some m[N]:=List.getElem?_eq_getElem (by omega)
  by_cases hD:D N=true/\(m[N]).op.n6 S=true
  ·refine⟨N+1,Nat.le_refl _,?_,.inr ⟨N,m[N],rfl,hs,hD.1,hD.2⟩,λj so h5 h6=>by omega⟩
   simp only[nS,hD.1,J1,hs,if_true,hD.2,Option.getD_some]
  ·refine⟨p,by omega,?_,h3,λj so h5 h6 h7 h8=>?_⟩
   ·simp only[nS]
    cases hDN:D N with
    |false=>simpa using h2
    |true=>
     have:¬(m[N]).op.n6 S=true:=λh=>hD ⟨hDN,h⟩
     simp only[J1,hs,if_true]
     rw[if_neg this]
     simpa using h2
   ·by_cases hj:j=N
    ·subst hj
     rw[hs]at h7;cases h7
     cases hDN:D j with
     |false=>rfl
     |true=>exact absurd ⟨hDN,h8⟩ hD
    ·exact h4 j so h5 (by omega) h7 h8
theorem xD(h:Text S O wl aa m T){p:Nat}:∀(d:Nat),p+d<=m.length->(∀(j:Nat) so,p<=j->j<p+d->m[j]?=some so->so.op.n6 S=false)->(T (p+d)).st=(T p).st
 |0,_,_=>rfl
 |d+1,hd,hn=>by
  have hs:m[p+d]?=some m[p+d]:=List.getElem?_eq_getElem (by omega)
  have e:=(h.one (p+d) _ hs).X4 (hn (p+d) _ (by omega) (by omega) hs)
  rw[show p+(d+1)=p+d+1 by omega,e]
  exact xD h d (by omega) λj so h1 h2=>hn j so h1 (by omega)
theorem LH(S:Nat->Option aD)(m:List aX)(p:Nat):∀(d:Nat),p+d<=m.length->(∀(j:Nat) so,p<=j->j<p+d->m[j]?=some so->so.op.n6 S=false)\/
  ∃(w:Nat) (so:aX),p<=w/\w<p+d/\m[w]?=some so/\so.op.n6 S=true/\∀(j:Nat) so,p<=j->j<w->m[j]?=some so->so.op.n6 S=false
 |0,_=>.inl λj so h1 h2=>by omega
 |d+1,hd=>by
  rcases LH S m p d (by omega) with h|⟨w,so,h1,h2,h3,h4,h5⟩
  ·have hs:m[p+d]?=some m[p+d]:=List.getElem?_eq_getElem (by omega)
   cases hw:(m[p+d]).op.n6 S with
   |true=>exact .inr ⟨p+d,_,by omega,by omega,hs,hw,λj so a1 a2=>h j so a1 a2⟩
   |false=>
    refine .inl λj so a1 a2 a3=>?_
    by_cases hj:j=p+d
    ·subst hj;rw[hs]at a3;cases a3;exact hw
    ·exact h j so a1 (by omega) a3
  ·exact .inr ⟨w,so,h1,by omega,h3,h4,h5⟩
end
end Ax
namespace Ax
open Go
variable {S:Nat->Option aD}{P:Program}{O:jC}{wl aa n:Nat}
variable {cT:Array Oper}{m:List aX}{bK:List (Nat×Nat)}{T:Nat->St}{xp:Option (Nat×Nat×aj)}
structure Spc (S:Nat->Option aD)(O:jC)(wl aa:Nat)(m:List aX)(bK:List (Nat×Nat))(T:Nat->St)(p q:Nat)(X:aj):Prop where
 lt:p<q
 ql:q<m.length
 mem:(100000+p,q)∈bK
 wp:∀a,m[p]?=some a->a.op.n6 S=true/\a.guard=none
 wq:∀a,m[q]?=some a->a.op.n6 S=true/\a.guard=none
 gap:∀(j:Nat) o,p<j->j<q->m[j]?=some o->o.op.n6 S=false
 un:∀i j,i<100000->(100000+i,j)∈bK->i=p/\j=q
 cl:∀k w,(k,w)∈bK->k<100000->w=p\/w=q->(100000*(k+2)+p,q)∈bK
 x1:∀a,m[q]?=some a->∀e bx fm,qM O wl aa a.op (a.args.map (GC (T q).env)) (T q).st bx=some (e,(T (q+1)).st,fm)->qM O wl aa a.op (a.args.map (GC (T q).env)) (T p).st bx=some (e,X,fm)
 x2:∀a,m[p]?=some a->∀e bx fm,qM O wl aa a.op (a.args.map (GC (T p).env)) (T p).st bx=some (e,(T (p+1)).st,fm)->qM O wl aa a.op (a.args.map (GC (T p).env)) X bx=some (e,(T (q+1)).st,fm)
 rd:∀k,(100000*(k+2)+p,q)∈bK->∀o,m[k]?=some o->dm O wl aa o (T k) (T (k+1)) X=true
structure Jq (S:Nat->Option aD)(P:Program)(O:jC)(wl aa n:Nat)(cT:Array Oper)(m:List aX)(bK:List (Nat×Nat))(T:Nat->St)(xp:Option (Nat×Nat×aj)):Prop where
 dr:Wy S P cT n m bK
 tx:Text S O wl aa m T
 pr:∀q w,q<100000->(q,w)∈bK->∀o,m[q]?=some o->dm O wl aa o (T q) (T (q+1)) (T w).st=true/\dm O wl aa o (T q) (T (q+1)) (T (w+1)).st=true
 sn:xp=none->∀i j,i<100000->(100000+i,j) ∉ bK
 sp:∀p q X,xp=some (p,q,X)->Spc S O wl aa m bK T p q X
 bo:∀(i:Nat) so j,m[i]?=some so->so.op.bz=some j->n7 j (T 0).env=true
 pu:zM S O
theorem AN{i j:Nat}{a b:aX}(h:j4 S bK i j a b=true):(∀t,t∈pP a->t ∉ wM b/\t ∉ pP b)/\(∀t,t∈pP b->t ∉ wM a):=by
 simp only[j4,Bool.and_eq_true,List.all_eq_true,Bool.not_eq_true',List.contains_eq_mem,decide_eq_false_iff_not]at h
 exact⟨h.1.1.1.1.1.1,h.1.1.1.1.1.2⟩
theorem Fm{i j:Nat}{a b:aX}(h:j4 S bK i j a b=true):(∀x,a.op.bW=some x->b.op.bA≠some x)/\(∀x,b.op.bW=some x->a.op.bA≠some x):=by
 simp only[j4,Bool.and_eq_true]at h
 obtain⟨⟨⟨⟨⟨_,h1⟩,h2⟩,_⟩,_⟩,_⟩:=h
 refine⟨λx hx=>?_,λx hx=>?_⟩
 ·rw[hx]at h1;simpa using h1
 ·rw[hx]at h2;simpa using h2
theorem xE{i j:Nat}{a b:aX}(h:j4 S bK i j a b=true):(a.op.n6 S=true/\b.op.n6 S=true->(100000+i,j)∈bK)/\(a.op.JY=true\/b.op.n6 S=false\/a.op.n6 S=true\/(i,j)∈bK)/\(b.op.JY=true\/a.op.n6 S=false\/b.op.n6 S=true\/(j,i)∈bK):=by
 simp only[j4,Bool.and_eq_true,Bool.or_eq_true,Bool.not_eq_true',Bool.and_eq_false_iff,List.contains_eq_mem,decide_eq_true_eq]at h
 obtain⟨⟨⟨_,h3⟩,h4⟩,h5⟩:=h
 refine⟨λ⟨x,y⟩=>?_,by rcases h4 with ((h|h)|h)|h<;>simp[h],by rcases h5 with ((h|h)|h)|h<;>simp[h]⟩
 rcases h3 with (h|h)|h
 ·rw[x]at h;cases h
 ·rw[y]at h;cases h
 ·exact h
theorem WA{op:fQ}{x:Nat}(h:op.bW=some x):op.bA=some x:=by
 cases op<;>simp[fQ.bW]at h<;>simp[fQ.bA,h]
structure Dr (cT:Array Oper)(m:List aX)(D:Nat->Bool)(k:Nat)(o:Oper)(so:aX):Prop where
 down:Pu cT D
 ho:cT[k]?=some o
 hs:m[k]?=some so
 pre:∀p∈m9 o,D p=true
 new:D k=false
theorem Dr.j4(hR:Jq S P O wl aa n cT m bK T xp){D:Nat->Bool}{k:Nat}{o:Oper}{so:aX}(h:Dr cT m D k o so){j:Nat}{b:aX}(hj:m[j]?=some b)(hd:D j≠decide (j<k)) :
  (j<k/\D j=false/\j4 S bK j k b so=true)\/(k<j/\D j=true/\j4 S bK k j so b=true):=by
 rcases Nat.lt_trichotomy j k with h1|h1|h1
 ·have:D j=false:=by rw[decide_eq_true h1]at hd;simpa using hd
  exact .inl ⟨h1,this,hR.dr.apA D h.down k o h.ho h.pre j b so h1 this hj h.hs⟩
 ·subst h1
  exact absurd (h.new.trans (by simp)) hd
 ·have:D j=true:=by rw[decide_eq_false (by omega)]at hd;simpa using hd
  exact .inr ⟨h1,this,hR.dr.apB D h.down k j so b h1 h.new this h.hs hj⟩
section
variable {D:Nat->Bool}{k:Nat}{o:Oper}{so:aX}
theorem Dr.lt(h:Dr cT m D k o so):k<m.length:=(List.getElem?_eq_some_iff.1 h.hs).1
theorem Dr.Uh(hR:Jq S P O wl aa n cT m bK T xp)(h:Dr cT m D k o so){t:Nat}(ht:t∈pP so\/t∈wM so):vT m T D t=cQ (T k).env t:=by
 rw[<-Pw hR.tx (Nat.le_of_lt h.lt)]
 refine lQ λj hj hd=>?_
 have hb:m[j]?=some m[j]:=List.getElem?_eq_getElem hj
 simp only[JZ,hb]
 rw[if_neg]
 intro X5
 rcases h.j4 hR hb hd with⟨_,_,ha⟩|⟨_,_,ha⟩
 ·have:=(AN ha).1 t X5
  rcases ht with ht|ht
  ·exact this.2 ht
  ·exact this.1 ht
 ·rcases ht with ht|ht
  ·exact((AN ha).1 t ht).2 X5
  ·exact(AN ha).2 t X5 ht
theorem Dr.box(hR:Jq S P O wl aa n cT m bK T xp)(h:Dr cT m D k o so){b:Nat}(hb:so.op.bA=some b):vB m T D b=(T k).bx[b]?:=by
 rw[<-Px hR.tx (Nat.le_of_lt h.lt)]
 refine lQ λj hj hd=>?_
 have hm:m[j]?=some m[j]:=List.getElem?_eq_getElem hj
 simp only[J0,hm]
 rw[if_neg]
 intro hw
 rcases h.j4 hR hm hd with⟨_,_,ha⟩|⟨_,_,ha⟩
 ·exact(Fm ha).1 b hw hb
 ·exact(Fm ha).2 b hw hb
def vX(S:Nat->Option aD)(m:List aX)(T:Nat->St)(xp:Option (Nat×Nat×aj))(D:Nat->Bool):aj:=match xp with
 |some (p,q,X)=>if D q && !D p then X else vS S m T D
 |none=>vS S m T D
theorem pQ{D:Nat->Bool}(h:∀p q X,xp=some (p,q,X)->D q=true->D p=true):vX S m T xp D=vS S m T D:=by
 unfold vX
 cases xp with
 |none=>rfl
 |some x=>
  obtain⟨p,q,X⟩:=x
  simp only
  rw[if_neg]
  intro hc
  simp only[Bool.and_eq_true,Bool.not_eq_true']at hc
  rw[h p q X rfl hc.1]at hc;cases hc.2
theorem B4{D:Nat->Bool}{p q:Nat}{X:aj}(hx:xp=some (p,q,X))(h1:D q=true)(h2:D p=false):vX S m T xp D=X:=by
 unfold vX
 rw[hx]
 simp[h1,h2]
theorem Jq.two(hR:Jq S P O wl aa n cT m bK T xp){i j:Nat}{a b:aX}(hi:m[i]?=some a)(h:j4 S bK i j a b=true)(ha:a.op.n6 S=true)(hb:b.op.n6 S=true):∃X,xp=some (i,j,X):=by
 have hm:=(xE h).1 ⟨ha,hb⟩
 have oT:i<100000:=Nat.lt_trans (List.getElem?_eq_some_iff.1 hi).1 hR.dr.Ea
 cases hx:xp with
 |none=>exact absurd hm (hR.sn hx i j oT)
 |some x=>
  obtain⟨p,q,X⟩:=x
  obtain⟨rfl,rfl⟩:=(hR.sp p q X hx).un i j oT hm
  exact⟨X,rfl⟩
theorem Dr.Pz(hR:Jq S P O wl aa n cT m bK T xp)(h:Dr cT m D k o so)(hw:so.op.n6 S=true){j:Nat}{b:aX}(hj:m[j]?=some b)(hb:b.op.n6 S=true)(hd:D j≠decide (j<k)) :
  (j<k/\D j=false/\∃X,xp=some (j,k,X))\/(k<j/\D j=true/\∃X,xp=some (k,j,X)):=by
 rcases h.j4 hR hj hd with⟨h1,h2,h3⟩|⟨h1,h2,h3⟩
 ·exact .inl ⟨h1,h2,hR.two hj h3 hb hw⟩
 ·exact .inr ⟨h1,h2,hR.two h.hs h3 hw hb⟩
theorem Jq.at(hR:Jq S P O wl aa n cT m bK T xp){D:Nat->Bool}{t:Nat}(ht:t<=m.length)(h:∀(j:Nat) b,m[j]?=some b->b.op.n6 S=true->D j=decide (j<t)):vS S m T D=(T t).st:=by
 rw[<-Py hR.tx ht]
 refine lQ λj hj hd=>?_
 have hm:m[j]?=some m[j]:=List.getElem?_eq_getElem hj
 simp only[J1,hm]
 rw[if_neg]
 intro hjw
 exact hd (h j _ hm hjw)
def lU(D:Nat->Bool)(k:Nat):Nat->Bool:=λj=>if j=k then true else D j
theorem oJ{j:Nat}(h:j≠k):lU D k j=D j:=by simp[lU,h]
theorem xF:lU D k k=true:=by simp[lU]
theorem Dr.WB(hR:Jq S P O wl aa n cT m bK T xp)(h:Dr cT m D k o so)(hw:so.op.n6 S=true) :
  (vX S m T xp D=(T k).st/\vX S m T xp (lU D k)=(T (k+1)).st)\/
  (∃p X,xp=some (p,k,X)/\vX S m T xp D=(T p).st/\vX S m T xp (lU D k)=X)\/
  (∃q X,xp=some (k,q,X)/\vX S m T xp D=X/\vX S m T xp (lU D k)=(T (q+1)).st):=by
 have hk:=h.lt
 have plain:(∀(j:Nat) b,m[j]?=some b->b.op.n6 S=true->D j=decide (j<k))->vS S m T D=(T k).st/\vS S m T (lU D k)=(T (k+1)).st:=λji=>by
  refine⟨hR.at (Nat.le_of_lt hk) ji,hR.at hk λj b hj hb=>?_⟩
  by_cases B3:j=k
  ·subst B3;rw[xF];simp
  ·rw[oJ B3,ji j b hj hb]
   exact decide_eq_decide.2 ⟨λh=>by omega,λh=>by omega⟩
 cases hx:xp with
 |none=>
  refine .inl ?_
  have:=plain λj b hj hb=>Classical.byContradiction λhd=>by
   rcases h.Pz hR hw hj hb hd with⟨_,_,X,e⟩|⟨_,_,X,e⟩<;>rw[hx]at e<;>cases e
  exact this
 |some x=>
  obtain⟨p,q,X⟩:=x
  have sp:=hR.sp p q X hx
  have Ui:q<m.length:=sp.ql
  have OT:p<m.length:=Nat.lt_trans sp.lt Ui
  have Ue:m[p]?=some m[p]:=List.getElem?_eq_getElem OT
  have hqm:m[q]?=some m[q]:=List.getElem?_eq_getElem Ui
  have hpw:=(sp.wp _ Ue).1
  have hqw:=(sp.wq _ hqm).1
  have S6:=sp.lt
  rw[<-hx]
  have other:∀(j:Nat) b,m[j]?=some b->b.op.n6 S=true->D j≠decide (j<k)->(j=p/\k=q/\D p=false)\/(k=p/\j=q/\D q=true):=λj b hj hb hd=>by
   rcases h.Pz hR hw hj hb hd with⟨_,g,X',e⟩|⟨_,g,X',e⟩
   ·rw[hx]at e;cases e;exact .inl ⟨rfl,rfl,g⟩
   ·rw[hx]at e;cases e;exact .inr ⟨rfl,rfl,g⟩
  by_cases Uj:k=q
  ·subst Uj
   cases hDp:D p with
   |true=>
    refine .inl ?_
    have ji:∀(j:Nat) b,m[j]?=some b->b.op.n6 S=true->D j=decide (j<k):=λj b hj hb=>Classical.byContradiction λhd=>by
     rcases other j b hj hb hd with⟨_,_,g⟩|⟨g,_,_⟩
     ·rw[hDp]at g;cases g
     ·omega
    rw[pQ λp' q' X' e hq=>?_,pQ λp' q' X' e hq=>?_]
    ·exact plain ji
    ·rw[hx]at e;cases e;rw[oJ (by omega)];exact hDp
    ·rw[hx]at e;cases e;exact hDp
   |false=>
    refine .inr (.inl ⟨p,X,hx,?_,?_⟩)
    ·rw[pQ λp' q' X' e hq=>by rw[hx]at e;cases e;rw[h.new]at hq;cases hq]
     refine hR.at (by omega) λj b hj hb=>?_
     by_cases hjp:j=p
     ·subst hjp;rw[hDp];simp
     ·by_cases B3:j=k
      ·subst B3;rw[h.new];symm;rw[decide_eq_false_iff_not];omega
      ·by_cases HF:p<j/\j<k
       ·have:=sp.gap j b HF.1 HF.2 hj
        rw[this]at hb;cases hb
       ·have:D j=decide (j<k):=Classical.byContradiction λhd=>by
         rcases other j b hj hb hd with⟨g,_,_⟩|⟨g,_,_⟩
         ·exact hjp g
         ·omega
        rw[this]
        exact decide_eq_decide.2 ⟨λh=>by omega,λh=>by omega⟩
    ·exact B4 hx xF (by rw[oJ (by omega)];exact hDp)
  ·by_cases hkp:k=p
   ·subst hkp
    cases hDq:D q with
    |false=>
     refine .inl ?_
     have ji:∀(j:Nat) b,m[j]?=some b->b.op.n6 S=true->D j=decide (j<k):=λj b hj hb=>Classical.byContradiction λhd=>by
      rcases other j b hj hb hd with⟨_,g,_⟩|⟨_,_,g⟩
      ·exact Uj g
      ·rw[hDq]at g;cases g
     rw[pQ λp' q' X' e hq=>?_,pQ λp' q' X' e hq=>?_]
     ·exact plain ji
     ·rw[hx]at e;cases e;exact xF
     ·rw[hx]at e;cases e;rw[hDq]at hq;cases hq
    |true=>
     refine .inr (.inr ⟨q,X,hx,B4 hx hDq h.new,?_⟩)
     rw[pQ λp' q' X' e hq=>by rw[hx]at e;cases e;exact xF]
     refine hR.at sp.ql λj b hj hb=>?_
     by_cases B3:j=k
     ·subst B3;rw[xF];symm;rw[decide_eq_true_iff];omega
     ·rw[oJ B3]
      by_cases hjq:j=q
      ·subst hjq;rw[hDq];simp
      ·by_cases HF:k<j/\j<q
       ·have:=sp.gap j b HF.1 HF.2 hj
        rw[this]at hb;cases hb
       ·have:D j=decide (j<k):=Classical.byContradiction λhd=>by
         rcases other j b hj hb hd with⟨g,_,_⟩|⟨_,g,_⟩
         ·exact B3 g
         ·exact hjq g
        rw[this]
        exact decide_eq_decide.2 ⟨λh=>by omega,λh=>by omega⟩
   ·refine .inl ?_
    have ji:∀(j:Nat) b,m[j]?=some b->b.op.n6 S=true->D j=decide (j<k):=λj b hj hb=>Classical.byContradiction λhd=>by
     rcases other j b hj hb hd with⟨_,g,_⟩|⟨g,_,_⟩
     ·exact Uj g
     ·exact hkp g
    have acz:D q=true->D p=true:=λhq=>Classical.byContradiction λhp=>by
     have Uk:D p=false:=by simpa using hp
     have g1:=ji p _ Ue hpw
     have g2:=ji q _ hqm hqw
     rw[Uk]at g1;rw[hq]at g2
     have g1:=of_decide_eq_false g1.symm
     have g2:=of_decide_eq_true g2.symm
     omega
    rw[pQ λp' q' X' e hq=>?_,pQ λp' q' X' e hq=>?_]
    ·exact plain ji
    ·rw[hx]at e;cases e
     rw[oJ (λe=>Uj e.symm)]at hq;rw[oJ (λe=>hkp e.symm)];exact acz hq
    ·rw[hx]at e;cases e;exact acz hq
theorem Dr.still(h:Dr cT m D k o so)(hR:Jq S P O wl aa n cT m bK T xp)(hw:so.op.n6 S=false):vX S m T xp (lU D k)=vX S m T xp D:=by
 have e:vS S m T (lU D k)=vS S m T D:=by
  refine lQ λj hj hd=>?_
  by_cases B3:j=k
  ·subst B3;simp[J1,h.hs,hw]
  ·rw[oJ B3]at hd;exact absurd rfl hd
 cases hx:xp with
 |none=>simp only[vX];exact e
 |some x=>
  obtain⟨p,q,X⟩:=x
  have sp:=hR.sp p q X hx
  have h1:p≠k:=λhe=>by subst he;have:=(sp.wp _ h.hs).1;rw[hw]at this;cases this
  have h2:q≠k:=λhe=>by subst he;have:=(sp.wq _ h.hs).1;rw[hw]at this;cases this
  simp only[vX,oJ h1,oJ h2,e]
theorem Dr.ahk(hR:Jq S P O wl aa n cT m bK T xp)(h:Dr cT m D k o so)(hn:so.op.JY=false)(hw:so.op.n6 S=false) :
  vX S m T xp D=(T k).st\/dm O wl aa so (T k) (T (k+1)) (vX S m T xp D)=true:=by
 have oy:k<100000:=Nat.lt_trans h.lt hR.dr.Ea
 by_cases Td:∃p q X,xp=some (p,q,X)/\D q=true/\D p=false
 ·obtain⟨p,q,X,hx,hq,hp⟩:=Td
  right
  have sp:=hR.sp p q X hx
  rw[B4 hx hq hp]
  refine sp.rd k ?_ so h.hs
  have Ui:q<m.length:=sp.ql
  have OT:p<m.length:=Nat.lt_trans sp.lt Ui
  have Ue:m[p]?=some m[p]:=List.getElem?_eq_getElem OT
  have hqm:m[q]?=some m[q]:=List.getElem?_eq_getElem Ui
  rcases Nat.lt_trichotomy k q with Uj|Uj|Uj
  ·have ha:=hR.dr.apB D h.down k q so _ Uj h.new hq h.hs hqm
   rcases (xE ha).2.1 with e|e|e|e
   ·rw[hn]at e;cases e
   ·rw[(sp.wq _ hqm).1]at e;cases e
   ·rw[hw]at e;cases e
   ·exact sp.cl k q e oy (.inr rfl)
  ·subst Uj;rw[h.new]at hq;cases hq
  ·have ha:=hR.dr.apA D h.down k o h.ho h.pre p _ so (by have:=sp.lt;omega) hp Ue h.hs
   rcases (xE ha).2.2 with e|e|e|e
   ·rw[hn]at e;cases e
   ·rw[(sp.wp _ Ue).1]at e;cases e
   ·rw[hw]at e;cases e
   ·exact sp.cl k p e oy (.inl rfl)
 rw[pQ λp q X hx hq=>Classical.byContradiction λhp=>Td ⟨p,q,X,hx,hq,by simpa using hp⟩]
 obtain⟨p,h1,h2,h3,h4⟩:=LF (S:=S) (m:=m) (T:=T) D m.length (Nat.le_refl _)
 have hv:vS S m T D=(T p).st:=h2
 have hk:=h.lt
 have pair:∀(w:Nat) b,m[w]?=some b->b.op.n6 S=true->D w≠decide (w<k)->(k,w)∈bK:=by
  intro w b hb hbw hd
  rcases h.j4 hR hb hd with⟨_,_,ha⟩|⟨_,_,ha⟩
  ·rcases (xE ha).2.2 with e|e|e|e
   ·rw[hn]at e;cases e
   ·rw[hbw]at e;cases e
   ·rw[hw]at e;cases e
   ·exact e
  ·rcases (xE ha).2.1 with e|e|e|e
   ·rw[hn]at e;cases e
   ·rw[hbw]at e;cases e
   ·rw[hw]at e;cases e
   ·exact e
 by_cases hpk:p<=k
 ·obtain⟨d,hd⟩:∃d,k=p+d:=⟨k-p,by omega⟩
  rcases LH S m p d (by omega) with hg|⟨w,b,g1,g2,g3,g4,g5⟩
  ·left
   rw[hv,hd]
   exact(xD hR.tx d (by omega) hg).symm
  ·right
   have hDw:=h4 w b g1 (by have:=(List.getElem?_eq_some_iff.1 g3).1;omega) g3 g4
   have hp:=pair w b g3 g4 (by rw[hDw,decide_eq_true (by omega)];simp)
   have e:(T p).st=(T w).st:=by
    obtain⟨d',DF⟩:∃d,w=p+d:=⟨w-p,by omega⟩
    rw[DF]
    exact(xD hR.tx d' (by have:=(List.getElem?_eq_some_iff.1 g3).1;omega) λj so a1 a2=>g5 j so a1 (by omega)).symm
   rw[hv,e]
   exact(hR.pr k w oy hp so h.hs).1
 ·right
  rcases h3 with h3|⟨q,b,rfl,g1,g2,g3⟩
  ·omega
  ·have hp:=pair q b g1 g3 (by
    by_cases hq:q=k
    ·subst hq;rw[h.new]at g2;cases g2
    ·rw[g2,decide_eq_false (by omega)];simp)
   rw[hv]
   exact(hR.pr k q oy hp so h.hs).2
theorem Dr.WD(hR:Jq S P O wl aa n cT m bK T xp)(h:Dr cT m D k o so)(t:Nat):vT m T (lU D k) t=if t∈pP so then cQ (T (k+1)).env t else vT m T D t:=by
 have:=HB (init:=cQ (T 0).env) (wY:=JZ m T) (D:=D) (D':=lU D k) (x:=t) (j:=k) h.lt h.new (λj=>rfl) λj h1 h2 h3 h4=>by
  have hb:m[j]?=some m[j]:=List.getElem?_eq_getElem h2
  have ha:=hR.dr.apB D h.down k j so _ h1 h.new h3 h.hs hb
  simp only[JZ,h.hs]at h4
  simp only[JZ,hb]
  rw[if_neg]
  intro X5
  by_cases ht:t∈pP so
  ·exact((AN ha).1 t ht).2 X5
  ·rw[if_neg ht]at h4;exact h4 rfl
 refine this.trans ?_
 simp only[JZ,h.hs]
 split
 ·rfl
 ·rfl
theorem Dr.WE(hR:Jq S P O wl aa n cT m bK T xp)(h:Dr cT m D k o so)(b:Nat):vB m T (lU D k) b=if so.op.bW=some b then (T (k+1)).bx[b]? else vB m T D b:=by
 have:=HB (init:=λb=>(T 0).bx[b]?) (wY:=J0 m T) (D:=D) (D':=lU D k) (x:=b) (j:=k) h.lt h.new (λj=>rfl) λj h1 h2 h3 h4=>by
  have hb:m[j]?=some m[j]:=List.getElem?_eq_getElem h2
  have ha:=hR.dr.apB D h.down k j so _ h1 h.new h3 h.hs hb
  simp only[J0,h.hs]at h4
  simp only[J0,hb]
  rw[if_neg]
  intro X5
  by_cases ht:so.op.bW=some b
  ·exact(Fm ha).1 b ht (WA X5)
  ·rw[if_neg ht]at h4;exact h4 rfl
 refine this.trans ?_
 simp only[J0,h.hs]
 split
 ·rfl
 ·rfl
end
end Ax
namespace Ax
open Go
variable {S:Nat->Option aD}{P:Program}{O:jC}{wl aa n:Nat}
variable {cT:Array Oper}{m:List aX}{bK:List (Nat×Nat)}{T:Nat->St}{xp:Option (Nat×Nat×aj)}
variable {w0 w w':World}{G0 G G':aM}{β gf:List lE}{A0:Nat->Nat}{a:Act}{bx:aU}
structure At (S:Nat->Option aD)(n:Nat)(m:List aX)(T:Nat->St)(xp:Option (Nat×Nat×aj))(w0:World)(G0:aM)(A0:Nat->Nat)(D:Nat->Bool)(w:World)(G:aM)(β:List lE)(a:Act)(bx:aU):Prop where
 fs:FS w G β a (vT m T D) bx (vX S m T xp D) n
 mv:Mv w0 G0 A0 w G (sX β a (vT m T D) bx (vX S m T xp D) G n)
 bb:∀b,bx[b]?=vB m T D b
 bl:bx.length=(T 0).bx.length
 fp:∀(i:Nat) so j,m[i]?=some so->so.op.bz=some j->D i=false->∀t,(vT m T D t).nL j=true
theorem Text.Ug(h:Text S O wl aa m T):∀{j:Nat},j<=m.length->(T j).bx.length=(T 0).bx.length
 |0,_=>rfl
 |j+1,hj=>by
  have hs:m[j]?=some m[j]:=List.getElem?_eq_getElem (by omega)
  rw[(h.one j _ hs).Ug,h.Ug (by omega)]
theorem J3{e f:eG}(h:e.fU f=true):e=f:=by
 cases e<;>cases f<;>simp[eG.fU]at h
 ·rfl
 ·rw[E2 _ _ h]
 ·obtain⟨rfl,rfl⟩:=h;rfl
theorem J4{op:fQ}(h:op.JY=false):op.bA=none:=by
 cases op<;>simp[fQ.JY,fQ.bA]at h ⊢
theorem M7{η:Nat->eG}{j:Nat}(h:∀t,(η t).nL j=true)(s:Src):(yy η s).nL j=true:=by
 cases s with
 |const a=>rfl
 |tmp t mv=>
  cases mv with
  |true=>exact h t
  |false=>
   have:=h t
   simp only[yy]
   cases he:η t with
   |none=>rfl
   |val v=>rfl
   |fp i k=>rw[he]at this;exact this
theorem yN{η Ov:Nat->eG}:∀{l:List Src},(∀t∈Ud l,η t=Ov t)->l.map (yy η)=l.map (yy Ov)
 |[],_=>rfl
 |.tmp t mv::l,h=>by
  simp only[List.map_cons]
  rw[yN (l:=l) λu hu=>h u (List.mem_cons_of_mem _ hu)]
  have:=h t List.mem_cons_self
  cases mv<;>simp only[yy,this]
 |.const a::l,h=>by
  simp only[List.map_cons]
  rw[yN (l:=l) λu hu=>h u hu]
  rfl
theorem Ul{Q:Exit->Act->World->Prop}(hR:Jq S P O wl aa n cT m bK T xp)(hO:js S P O){D:Nat->Bool}{k:Nat}{o:Oper}{so:aX}(h:Dr cT m D k o so)(hA:At S n m T xp w0 G0 A0 D w G β a bx){K:Act->World->Prop}
  (hK:∀w' G' gf a' fm,At S n m T xp w0 G0 A0 (lU D k) w' G' gf a' fm->K a' w'):wpOp P cT Q k K a w:=by
 have one:=hR.tx.one k so h.hs
 have hwe:sj (vT m T D) so.guard=lA (T k).env so.guard:=by
  rw[D6]
  cases hg:so.guard with
  |none=>rfl
  |some x=>
   obtain⟨t,b⟩:=x
   have:=h.Uh hR (t:=t) (.inr (by simp[wM,hg]))
   simp only[sj,this]
 obtain⟨b,hb⟩:∃b,lA (T k).env so.guard=some b:=by
  cases hw:lA (T k).env so.guard with
  |none=>exact absurd hw one.wan
  |some b=>exact⟨b,rfl⟩
 refine Lw (wl:=wl) (aa:=aa) h.ho (hR.dr.get k o so h.ho h.hs) hO hA.fs hA.mv.one (hwe.trans hb) (λhbf a' f1 f2=>?_) (λhbt=>?_)
 ·subst hbf
  obtain⟨n1,n2,n3⟩:=one.non hb
  have e1:jN (vT m T D) so.dst (.val .undef)=vT m T (lU D k):=by
   funext t
   rw[h.WD hR]
   split
   ·rename_i ht
    rw[n1]
    simp only[jN]
    split
    ·rfl
    ·exact h.Uh hR (.inl ht)
   ·rename_i ht
    simp only[pP,List.mem_append,Option.mem_toList,not_or]at ht
    simp only[jN]
    rw[if_neg ht.1]
  have e2:vX S m T xp (lU D k)=vX S m T xp D:=by
   by_cases hw:so.op.n6 S=true
   ·rcases h.WB hR hw with⟨e1,e2⟩|⟨p,X,hx,_⟩|⟨q,X,hx,_⟩
    ·rw[e1,e2,n3]
    ·have:=(hR.sp p k X hx).wq so h.hs
     rw[this.2]at hb;cases hb
    ·have:=(hR.sp k q X hx).wp so h.hs
     rw[this.2]at hb;cases hb
   ·exact h.still hR (by simpa using hw)
  rw[e1,<-e2]at f1
  rw[e1,<-e2]at f2
  refine hK w G β a' bx ⟨f1,?_,λx=>?_,hA.bl,λi si j hi hj hD t=>?_⟩
  ·rw[e2]at f2 ⊢
   exact hA.mv.trans f2
  ·rw[h.WE hR,hA.bb]
   split
   ·rename_i hx;rw[n2];exact h.box hR (WA hx)
   ·rfl
  ·have ku:i≠k/\D i=false:=by
    unfold lU at hD
    by_cases Um:i=k
    ·rw[if_pos Um]at hD;cases hD
    ·rw[if_neg Um]at hD;exact⟨Um,hD⟩
   rw[<-e1]
   simp only[jN]
   split
   ·rfl
   ·exact hA.fp i si j hi hj ku.2 t
 ·subst hbt
  obtain⟨e,ha,y2⟩:=one.yes hb
  have vU:so.args.map (GC (T k).env)=so.args.map (yy (vT m T D)):=by
   rw[List.map_congr_left (g:=yy (cQ (T k).env)) λx _=>AL _ x]
   exact(yN λt ht=>h.Uh hR (.inr (by simp[wM,ht]))).symm
  rw[vU]at ha
  have X6:qM O wl aa so.op (so.args.map (yy (vT m T D))) (vX S m T xp D) (T k).bx=some (e,vX S m T xp (lU D k),(T (k+1)).bx):=by
   by_cases hw:so.op.n6 S=true
   ·rcases h.WB hR hw with⟨e1,e2⟩|⟨p,X,hx,e1,e2⟩|⟨q,X,hx,e1,e2⟩
    ·rw[e1,e2];exact ha
    ·rw[e1,e2,<-vU]
     rw[<-vU]at ha
     exact(hR.sp p k X hx).x1 so h.hs _ _ _ ha
    ·rw[e1,e2,<-vU]
     rw[<-vU]at ha
     exact(hR.sp k q X hx).x2 so h.hs _ _ _ ha
   ·have Eb:so.op.n6 S=false:=by simpa using hw
    rw[h.still hR Eb]
    have fh:=one.X4 Eb
    by_cases hn:so.op.JY=true
    ·exact Ub hn _ ha
    ·have Ph:so.op.JY=false:=by simpa using hn
     rcases h.ahk hR Ph Eb with hs|hs
     ·rw[hs];rw[fh]at ha;exact ha
     ·unfold dm at hs
      rw[hb]at hs
      simp only at hs
      rw[vU]at hs
      split at hs
      ·rename_i e' bS fm J5
       have ahm:=Ly hR.pu Eb J5
       subst ahm
       have Te:=J4 Ph
       obtain⟨rfl,_⟩:=Fl Te (T k).bx J5
       obtain⟨hbx,_⟩:=Fl Te (T k).bx ha
       rw[hbx]
       split at hs
       ·rename_i d hd
        have:=J3 hs
        rw[y2]at this
        simp only[jN,hd,if_true]at this
        subst this
        exact J5
       ·cases hs
      ·cases hs
  obtain⟨wL,b1,b2,b3,b4,b5,_⟩:=HE (wL:=bx) (by rw[hA.bl,hR.tx.Ug (Nat.le_of_lt h.lt)]) (λb hb=>by rw[hA.bb];exact h.box hR hb) X6
  refine⟨e,vX S m T xp (lU D k),wL,b1,λj hj t _ _=>hA.fp k so j h.hs hj h.new t,λw' G' gf a' f1 f2=>?_⟩
  have e1:jN (jh (vT m T D) (oI so.args)) so.dst e=vT m T (lU D k):=by
   funext t
   rw[h.WD hR]
   split
   ·rename_i ht
    rw[y2]
    simp only[jN,jh]
    split
    ·rfl
    ·split
     ·rfl
     ·exact h.Uh hR (.inl ht)
   ·rename_i ht
    simp only[pP,List.mem_append,Option.mem_toList,not_or]at ht
    simp only[jN,jh]
    rw[if_neg ht.1,if_neg ht.2]
  rw[e1]at f1 f2
  refine hK w' G' gf a' wL ⟨f1,hA.mv.trans f2,λx=>?_,b3.trans hA.bl,λi si j hi hj hD t=>?_⟩
  ·rw[h.WE hR]
   split
   ·rename_i hx;exact b4 x hx
   ·rename_i hx;rw[b5 x hx,hA.bb]
  ·have ku:i≠k/\D i=false:=by
    unfold lU at hD
    by_cases Um:i=k
    ·rw[if_pos Um]at hD;cases hD
    ·rw[if_neg Um]at hD;exact⟨Um,hD⟩
   rw[<-e1]
   simp only[jN,jh]
   split
   ·refine X1 b1 (λx hx=>?_) λhn=>?_
    ·obtain⟨s,_,rfl⟩:=List.mem_map.1 hx
     exact M7 (λt=>hA.fp i si j hi hj ku.2 t) s
    ·rcases Nat.lt_or_gt_of_ne ku.1 with hl|hl
     ·exact hR.dr.Wz i k si so j hl hi h.hs hj hn
     ·exact hR.dr.Wz k i so si j hl h.hs hi hn hj
   ·split
    ·rfl
    ·exact hA.fp i si j hi hj ku.2 t
def iC(eP:Array Bool):Nat->Bool:=λk=>eP.getD k false
theorem PA{Q:Exit->Act->World->Prop}(hR:Jq S P O wl aa n cT m bK T xp)(hO:js S P O)
  (hQ:∀w' G' gf a' fm D,(∀k,k<m.length->D k=true)->At S n m T xp w0 G0 A0 D w' G' gf a' fm->Q .normal a' w') :
  ∀(fuel:Nat) (eP:Array Bool) (a:Act) (w:World) (G:aM) (β:List lE) (bx:aU),eP.size=cT.size->Pu cT (iC eP)->ga (λk=>if iC eP k then 0 else 1) cT.size<=fuel->
   At S n m T xp w0 G0 A0 (iC eP) w G β a bx->wpAny P .any cT Q fuel eP a w:=by
 have M8:∀(eP:Array Bool) (a:Act) (w:World) (G:aM) (β:List lE) (bx:aU),eP.size=cT.size->At S n m T xp w0 G0 A0 (iC eP) w G β a bx->Region.ready .any cT eP=[]->Q .normal a w:=by
  intro eP a w G β bx eH hA hr
  refine hQ w G β a bx _ (λk=>?_) hA
  induction k using Nat.strongRecOn with
  |_ k ih=>
   intro hk
   cases hd:iC eP k with
   |true=>rfl
   |false=>
    exfalso
    rw[hR.dr.len]at hk
    have ho:cT[k]?=some cT[k]:=by simp[hk]
    have:k∈Region.ready .any cT eP:=by
     rw[mem_ready]
     refine⟨?_,cT[k],ho,λe he hb=>?_⟩
     ·have G9:k<eP.size:=by omega
      simp only[iC,Array.getD,G9,dif_pos]at hd ⊢
      exact hd
     ·have hp:e.on∈m9 cT[k]:=by
       unfold m9
       exact List.mem_map.2 ⟨e,List.mem_filter.2 ⟨by simpa using he,hb⟩,rfl⟩
      have bn:=hR.dr.lt k cT[k] ho e.on hp
      exact ih e.on bn (by rw[hR.dr.len];omega)
    rw[hr]at this
    cases this
 intro fuel
 induction fuel with
 |zero=>
  intro eP a w G β bx eH hD hf hA
  have ji:∀k,k<cT.size->iC eP k=true:=λk hk=>by
   have:=tY (f:=λk=>if iC eP k then 0 else 1) hk
   cases hd:iC eP k with
   |true=>rfl
   |false=>simp only[hd,Bool.false_eq_true,if_false]at this;omega
  have hr:Region.ready .any cT eP=[]:=by
   rw[List.eq_nil_iff_forall_not_mem]
   intro j hj
   rw[mem_ready]at hj
   obtain⟨h1,o,ho,_⟩:=hj
   have hk:=(Array.getElem?_eq_some_iff.1 ho).1
   have h2:=ji j hk
   have G9:j<eP.size:=by omega
   simp only[iC,Array.getD,G9,dif_pos]at h1 h2
   rw[h1]at h2;cases h2
  exact⟨hr,M8 eP a w G β bx eH hA hr⟩
 |succ fuel ih=>
  intro eP a w G β bx eH hD hf hA
  refine⟨M8 eP a w G β bx eH hA,λi hi=>?_⟩
  rw[mem_ready]at hi
  obtain⟨h1,o,ho,h3⟩:=hi
  have hk:=(Array.getElem?_eq_some_iff.1 ho).1
  have hkm:i<m.length:=by rw[hR.dr.len];exact hk
  have hs:m[i]?=some m[i]:=List.getElem?_eq_getElem hkm
  have G9:i<eP.size:=by omega
  have ry:iC eP i=false:=by
   simp only[iC,Array.getD,G9,dif_pos]at h1 ⊢
   exact h1
  have acB:∀p∈m9 o,iC eP p=true:=by
   intro p hp
   unfold m9 at hp
   obtain⟨e,he,rfl⟩:=List.mem_map.1 hp
   obtain⟨he1,he2⟩:=List.mem_filter.1 he
   exact h3 e (by simpa using he1) he2
  have ahn:Dr cT m (iC eP) i o m[i]:=⟨hD,ho,hs,acB,ry⟩
  have LI:iC (eP.setIfInBounds i true)=lU (iC eP) i:=by
   funext j
   by_cases hj:j=i
   ·subst hj
    simp[iC,lU,G9]
   ·simp[iC,lU,hj,show ¬i=j from λe=>hj e.symm]
  refine Ul hR hO ahn hA λw' G' gf a' fm Hu=>?_
  rw[<-LI]at Hu
  refine ih _ a' w' G' gf fm (by simp[eH]) ?_ ?_ Hu
  ·intro j oj hoj hj p hp
   rw[LI]at hj ⊢
   unfold lU at hj ⊢
   by_cases hji:j=i
   ·subst hji
    rw[ho]at hoj;cases hoj
    split
    ·rfl
    ·exact acB p hp
   ·rw[if_neg hji]at hj
    split
    ·rfl
    ·exact hD j oj hoj hj p hp
  ·have h5:=rA (f:=λk=>if iC (eP.setIfInBounds i true) k then 0 else 1) (g:=λk=>if iC eP k then 0 else 1) (d:=i) hk λt ht=>by
    rw[LI];simp[lU,ht]
   have e1:iC (eP.setIfInBounds i true) i=true:=by rw[LI];simp[lU]
   simp only[e1,ry,if_true,Bool.false_eq_true,if_false]at h5
   omega
theorem J6{wl aa:Nat}{st bS:aj}{i v x y:Nat}{cs:List AV}(h:dR wl aa st (.ptr i v x y) cs=some bS):∃o,bS=st.set i o/\∀(lZ:aj),lZ[i]?=st[i]?->dR wl aa lZ (.ptr i v x y) cs=some (lZ.set i o):=by
 unfold dR at h
 simp only at h
 split at h
 ·rename_i v' sz rows fh
  split at h
  ·rename_i hc
   split at h
   ·rename_i r hr
    split at h
    ·rename_i hl
     simp only[Option.some.injEq]at h
     refine⟨_,h.symm,λlZ h2=>?_⟩
     unfold dR
     simp only[h2,fh,if_pos hc,hr,if_pos hl]
    ·cases h
   ·cases h
  ·cases h
 ·cases h
theorem Ec{O:jC}{wl aa:Nat}{n:Nat}{st bS:aj}{bx fm:aU}{i v x y:Nat}{u:AV}{e:eG}(h:qM O wl aa (.store n) [.val (.ptr i v x y),.val u] st bx=some (e,bS,fm)) :
  ∃o,bS=st.set i o/\fm=bx/\∀(lZ:aj) (wL:aU),lZ[i]?=st[i]?->qM O wl aa (.store n) [.val (.ptr i v x y),.val u] lZ wL=some (e,lZ.set i o,wL):=by
 simp only[qM,aL]at h
 split at h
 ·rename_i hc
  split at h
  ·rename_i s1 hw
   cases h
   obtain⟨o,h1,h2⟩:=J6 hw
   refine⟨o,h1,rfl,λlZ wL he=>?_⟩
   simp only[qM,aL,if_pos hc,h2 lZ he]
  ·cases h
 ·cases h
theorem HH{id:Nat}{Q:Exit->Act->World->Prop}{s e:St}(hm:LA S P cT n m bK=true)(hO:js S P O)(hP:zM S O)(_hs:FT w G β a s n)(h1:∀b,gi β a s G n b<=1)(he:fO O wl aa m bK s=some e)
  (X7:∀d,FT { w with drawn:=d } G β a s n/\∀w' G' A',Mv { w with drawn:=d } G (gi β a s G n) w' G' A'->Mv w G (gi β a s G n) w' G' A')
  (hQ:∀w' G' gf a',FT w' G' gf a' e n->Mv w G (gi β a s G n) w' G' (gi gf a' e G' n)->Q .normal a' w'):(Code.region id cT true).wp P Q a w:=by
 have hd:=Pv hm
 unfold fO at he
 split at he
 ·cases he
 ·rename_i e' gT hr
  split at he
  ·rename_i hc
   cases he
   simp only[Bool.and_eq_true,List.all_eq_true]at hc
   obtain⟨r1,r2,r3,r4⟩:=zN hr
   let T:Nat->St:=λk=>(gT[k]?).getD s
   have hT:∀(i:Nat) x,gT[i]?=some x->T i=x:=λi x hx=>by simp only[T,hx,Option.getD_some]
   have tx:Text S O wl aa m T:=⟨λi so hi=>by
    obtain⟨x,y,a1,a2,a3⟩:=r4 i so hi
    rw[hT i x a1,hT (i+1) y a2]
    exact ahh hP a3⟩
   obtain⟨xp,hsn,oG⟩:∃xp:Option (Nat×Nat×aj),(xp=none->∀i j,i<100000->(100000+i,j) ∉ bK)/\∀p q X,xp=some (p,q,X)->Spc S O wl aa m bK T p q X:=by
    by_cases hex:∃p q,p<100000/\(100000+p,q)∈bK
    ·obtain⟨p,q,hp,S6⟩:=hex
     obtain⟨t1,⟨a,b,t2,t3,t4,t5,t6,t7⟩,t8,t9,t10⟩:=hd.xt p q hp S6
     have Ui:q<m.length:=(List.getElem?_eq_some_iff.1 t3).1
     have Wq:=hc.1 _ S6
     unfold iy at Wq
     simp only[show ¬100000+p<100000 by omega,if_false,show (100000+p) % 100000=p by omega]at Wq
     cases hX:xSt wl aa m gT p q with
     |none=>rw[hX]at Wq;cases Wq
     |some X=>
      refine⟨some (p,q,X),⟨λh=>(by cases h),λp' q' X' h=>?_⟩⟩
      cases h
      have HF:(T q).st=(T (p+1)).st:=by
       obtain⟨d,DF⟩:∃d,q=p+1+d:=⟨q-(p+1),by omega⟩
       rw[DF]
       exact xD tx d (by omega) λj so a1 a2 a3=>t8 j so (by omega) (by omega) a3
      unfold xSt at hX
      split at hX
      ·rename_i a' s' b' t' g1 g2 g3 g4
       rw[t2]at g1;cases g1
       rw[t3]at g3;cases g3
       have Am:=hT p s' g2
       have ht':=hT q t' g4
       subst Am ht'
       split at hX
       ·rename_i ao av bo bv ma i vi xi yi ui mb j vj xj yj uj k1 k2 k3 k4
        split at hX
        ·cases hX
        ·rename_i Al
         split at hX
         ·rename_i e0 X0 b0 Ao
          cases hX
          have acC:qM O wl aa (.store mb) [.val (.ptr j vj xj yj),.val uj] (T p).st []=some (e0,X,b0):=Ao
          obtain⟨ob,o1,o2,o3⟩:=Ec acC
          have ahp:=tx.one p a t2
          obtain⟨ep,ap,_⟩:=ahp.yes (by rw[t6];rfl)
          rw[k1,k2]at ap
          obtain⟨oa,p1,p2,p3⟩:=Ec ap
          have ahq:=tx.one q b t3
          obtain⟨eq,aq,_⟩:=ahq.yes (by rw[t7];rfl)
          rw[k3,k4]at aq
          have acD:(T q).st[j]?=(T p).st[j]?:=by rw[HF,p1,List.getElem?_set_ne Al]
          have q1:(T (q+1)).st=(T q).st.set j ob:=by
           have:=o3 (T q).st (T q).bx acD
           rw[this]at aq
           simp only[Option.some.injEq,Prod.mk.injEq]at aq
           exact aq.2.1.symm
          refine⟨t1,Ui,S6,λa' J5=>?_,λa' J5=>?_,t8,t10,t9,λa' J5 e bx fm hh=>?_,λa' J5 e bx fm hh=>?_,λk hk o ho=>?_⟩
          ·rw[t2]at J5;cases J5
           exact⟨by rw[k1];rfl,t6⟩
          ·rw[t3]at J5;cases J5
           exact⟨by rw[k3];rfl,t7⟩
          ·rw[t3]at J5;cases J5
           rw[k3,k4]at hh ⊢
           rw[o3 (T q).st bx acD]at hh
           simp only[Option.some.injEq,Prod.mk.injEq]at hh
           rw[o3 (T p).st bx rfl,hh.1,hh.2.2,o1]
          ·rw[t2]at J5;cases J5
           rw[k1,k2]at hh ⊢
           rw[p3 (T p).st bx rfl]at hh
           simp only[Option.some.injEq,Prod.mk.injEq]at hh
           rw[p3 X bx (by rw[o1,List.getElem?_set_ne (λe=>Al e.symm)]),hh.1,hh.2.2,q1,HF,p1,o1,List.set_comm _ _ Al]
          ·have:=hc.1 _ hk
           unfold iy at this
           simp only[show ¬100000*(k+2)+p<100000 by omega,if_false,show (100000*(k+2)+p) % 100000=p by omega,show ¬100000*(k+2)+p<200000 by omega,show (100000*(k+2)+p) / 100000-2=k by omega]at this
           have hX2:xSt wl aa m gT p q=some X:=by
            unfold xSt
            simp only[t2,t3,g2,g4,k1,k2,k3,k4,if_neg Al,Ao]
           rw[hX2]at this
           simp only at this
           split at this
           ·rename_i o' x y g5 g6 g7
            rw[ho]at g5;cases g5
            rw[hT k x g6,hT (k+1) y g7]
            exact this
           ·cases this
         ·cases hX
       ·cases hX
      ·cases hX
    ·exact⟨none,⟨λ_ i j hi Al=>hex ⟨i,j,hi,Al⟩,λ_ _ _ h=>(by cases h)⟩⟩
   have hR:Jq S P O wl aa n cT m bK T xp:=by
    refine⟨hd,tx,λq w Ui hqw o ho=>?_,hsn,oG,λi so j hi hj=>?_,hP⟩
    ·have:=hc.1 (q,w) hqw
     unfold iy at this
     simp only[Ui,if_true]at this
     split at this
     ·rename_i o' x y x' y' g1 g2 g3 g4 g5
      rw[ho]at g1;cases g1
      rw[hT q x g2,hT (q+1) y g3,hT w x' g4,hT (w+1) y' g5]
      simpa only [Bool.and_eq_true] using this
     ·cases this
    ·have:=hc.2 so (cU hi)
     unfold bw at this
     rw[hj]at this
     rw[hT 0 s r2]
     exact this
   have h0:T 0=s:=hT 0 s r2
   have PI:iC (Array.replicate cT.size false)=λ_=>false:=by
    funext k
    simp only[iC,Array.getD,Array.size_replicate,Array.getInternal_eq_getElem,Array.getElem_replicate]
    split<;>rfl
   have PJ:∀{K V:Type} (init:K->V) (wY:Nat->K->Option V) (N:Nat) (x:K),nS init wY (λ_=>false) N x=init x:=by
    intro K V init wY N x
    induction N with
    |zero=>rfl
    |succ N ih=>simp only[nS,ih];rfl
   obtain⟨d1,d2⟩:=X7 (w.drawn+1)
   refine wp_region_any hd.fol (PA (w0:={ w with drawn:=w.drawn+1 }) (G0:=G) (A0:=gi β a s G n) hR hO (λw' G' gf a' fm D hD hA=>?_) cT.size _ a _ G β s.bx (by simp) ?_ ?_ ?_)
   ·have ji:∀{K V:Type} (init:K->V) (wY:Nat->K->Option V) (x:K),nS init wY D m.length x=nS init wY (λk=>decide (k<m.length)) m.length x:=λinit wY x=>lQ λk hk ku=>by
     rw[hD k hk,decide_eq_true hk]at ku;exact absurd rfl ku
    have hTe:T m.length=e:=hT _ e r3
    have e1:vT m T D=cQ e.env:=by
     funext t
     rw[<-hTe,<-Pw tx (Nat.le_refl _)]
     exact ji _ _ t
    have e2:vX S m T xp D=e.st:=by
     rw[pQ λp q X hx _=>hD p (by have:=oG p q X hx;have:=this.lt;have:=(oG p q X hx).ql;omega)]
     rw[<-hTe,<-Py tx (Nat.le_refl _)]
     exact ji _ _ ()
    have e3:fm=e.bx:=by
     apply List.ext_getElem?
     intro b
     rw[hA.bb b,<-hTe,<-Px tx (Nat.le_refl _)]
     exact ji _ _ b
    have f1:=hA.fs
    have f2:=hA.mv
    rw[e1,e2,e3]at f1 f2
    exact hQ w' G' gf a' f1 (d2 _ _ _ f2)
   ·intro j o _ hj
    rw[PI]at hj;cases hj
   ·rw[PI]
    have:∀N,ga (λ_=>1) N=N:=λN=>by induction N with|zero=>rfl|succ N ih=>simp[ga,ih]
    simp[this]
   ·rw[PI]
    have e1:vT m T (λ_=>false)=cQ s.env:=by funext t;rw[<-h0];exact PJ _ _ _ t
    have e2:vX S m T xp (λ_=>false)=s.st:=by rw[pQ λp q X _ h=>by cases h];rw[<-h0];exact PJ _ _ _ ()
    refine⟨?_,?_,λb=>?_,by rw[h0],λi so j hi hj _ t=>?_⟩
    ·rw[e1,e2];exact d1
    ·rw[e1,e2];exact Mv.refl h1
    ·rw[<-h0];exact(PJ _ _ _ b).symm
    ·rw[e1,<-h0];exact BQ (hR.bo i so j hi hj) t
  ·cases he
end Ax
namespace Ax
open Go
variable {S:Nat->Option aD}{P:Program}{O:jC}{wl aa n:Nat}
variable {w w':World}{G G':aM}{β gf:List lE}{a:Act}{s s':St}
def B5:Code->Code
 |.scope c=>B5 c
 |c=>c
def Fo(S:Nat->Option aD)(P:Program)(n:Nat)(cT:Array Oper)(draw:Bool)(m:List aX):Option (List (Nat×Nat))->Bool
 |none=>!draw&&pO S P cT n cT.toList m
 |some bK=>draw&&LA S P cT n m bK
def iW(S:Nat->Option aD)(P:Program)(n:Nat):bQ->Code->Bool
 |.skip,c=>match B5 c with|.skip=>true|_=>false
 |.region m draw _,c=>match B5 c with
  |.region _ cT d=>Fo S P n cT d m draw
  |_=>false
 |.seq x y,c=>match x with
  |.OL _=>iW S P n y c
  |.Bb _ _=>iW S P n y c
  |.vI _ _=>iW S P n y c
  |x=>match B5 c with
   |.seq a b=>iW S P n x a&&iW S P n y b
   |_=>false
 |.cond t _ x _ y,c=>match B5 c with
  |.cond u a b=>Jy u t&&iW S P n x a&&iW S P n y b
  |_=>false
 |.block i x,c=>match B5 c with
  |.block j a=>i==j&&iW S P n x a
  |_=>false
 |.loop x,c=>match B5 c with
  |.loop a=>iW S P n x a
  |_=>false
 |.exit i,c=>match B5 c with
  |.exit j=>i==j
  |_=>false
 |.ret,c=>match B5 c with
  |.ret=>true
  |_=>false
 |.OL _,_=>false
 |.Bb _ _,_=>false
 |.vI _ _,_=>false
def B6:Ex->Exit
 |.normal=>.normal
 |.exit id=>.exit id
 |.ret _=>.ret
def Pst(n:Nat)(rs:List jV)(A:Nat->Nat)(w:World)(G:aM)(x:Ex)(s':St)(w':World)(G':aM)(gf:List lE)(a':Act):Prop:=
 ∃sr,FT w' G' gf a' sr n/\Mv w G A w' G' (gi gf a' sr G' n)/\(match x with|.ret v=>wB sr rs=some v/\s'.st=sr.st|_=>s'=sr)
theorem Pst.trans{rs:List jV}{A A1:Nat->Nat}{w1:World}{G1:aM}{x:Ex}{a':Act}(h:Mv w G A w1 G1 A1)(k:Pst n rs A1 w1 G1 x s' w' G' gf a'):Pst n rs A w G x s' w' G' gf a':=by
 obtain⟨sr,h1,h2,h3⟩:=k
 exact⟨sr,h1,h.trans h2,h3⟩
def Fp(P:Program)(c:Code)(Q:Exit->Act->World->Prop)(a:Act)(w:World):Prop:=
 ∀(b:Frame) (k:List Item) (cs:List Frame),∃e a' w',Q e a' w'/\Arrives P (lone (b.at a (.code c::.inLoop c::k)) cs w) b k cs e a' w'
theorem HI{c:Code}{Q:Exit->Act->World->Prop}{w:World}(h:c.wp P (Exit.then (Fp P c Q) Q) a w):Fp P c Q a w:=by
 intro b k cs
 obtain⟨e,PK,PL,hq,HJ⟩:=h b (.inLoop c::k) cs
 cases e with
 |normal=>
  obtain⟨ahs,aht,ahu,acF,Un⟩:=hq b k cs
  exact⟨ahs,aht,ahu,acF,.of_steps (Steps.trans HJ (.one step_inLoop)) Un⟩
 |exit id=>exact⟨_,PK,PL,hq,.pass (x:=.inLoop c) rfl (λ_ _=>.inl (by simp)) HJ⟩
 |goto l=>exact⟨_,PK,PL,hq,.pass (x:=.inLoop c) rfl (λ_ _=>.inl (by simp)) HJ⟩
 |ret=>exact⟨_,PK,PL,hq,.pass (x:=.inLoop c) rfl (λ_ _=>.inl (by simp)) HJ⟩
 |panic ch=>exact⟨_,PK,PL,hq,.pass (x:=.inLoop c) rfl (λ_ _=>.inl (by simp)) HJ⟩
 |outgrown=>exact⟨_,PK,PL,hq,.pass (x:=.inLoop c) rfl (λ_ _=>.inl (by simp)) HJ⟩
theorem HK{c:Code}{Q:Exit->Act->World->Prop}{w:World}(h:Fp P c Q a w):(Code.loop c).wp P Q a w:=by
 intro b k cs
 obtain⟨e,a',w',hq,HJ⟩:=h b k cs
 exact⟨e,a',w',hq,.of_steps (.one step_loop) HJ⟩
theorem oK{Q:Exit->Act->World->Prop}{w:World}:∀{c:Code},(B5 c).wp P (Exit.noGoto Q) a w->c.wp P Q a w
 |.scope c,h=>wp_scope_straight (oK (c:=c) (wp_mono h λe _ _ he=>by cases e<;>exact he))
 |.skip,h|.region ..,h|.seq ..,h|.cond ..,h|.block ..,h|.loop ..,h|.rangeFunc ..,h|.exit _,h|.label _,h|.goto _,h|.refuse _,h|.ret,h=>wp_mono h λe _ _ he=>by
  cases e<;>first|exact he|exact he.elim
def u0(S:Nat->Option aD)(P:Program)(O:jC):Prop:=
 ∀wl aa rs c s x s',O.loop wl aa rs c s=some (x,s')->∀code n,iW S P n c code=true->∀(w:World) (G:aM) (β:List lE) (a:Act),FT w G β a s n->(∀b,gi β a s G n b<=1)->
  ∀(Q:Exit->Act->World->Prop),(∀w' G' gf a',Pst n rs (gi β a s G n) w G x s' w' G' gf a'->Q (B6 x) a' w')->Fp P code Q a w
theorem FT.clear(h:FT w G β a s n)(l:List Nat):FT w G β a { s with env:=iz l s.env } n/\∀b,gi β a { s with env:=iz l s.env } G n b<=gi β a s G n b:=
 FS.Po h λt=>by
  simp only[rZ]
  split
  ·exact .inr rfl
  ·exact .inl rfl
theorem FT.acG(h:FT w G β a s n)(c:Src)(l:List Nat):FT w G β a { s with env:=iz l (k8 s.env c) } n/\∀b,gi β a { s with env:=iz l (k8 s.env c) } G n b<=gi β a s G n b:=
 FS.Po h λt=>by
  have h1:=rz t [c] s.env
  simp only[List.foldl_cons,List.foldl_nil]at h1
  simp only[rZ,h1]
  split
  ·exact .inr rfl
  ·split
   ·exact .inr rfl
   ·exact .inl rfl
theorem Mv.PM{A A' A'':Nat->Nat}(h:Mv w G A w' G' A')(hl:∀b,A'' b<=A' b):Mv w G A w' G' A'':=
 h.Pj (λ_=>Nat.le_refl _) (λb hb=>Nat.le_trans (hl b) (h.fj b hb)) λb=>Nat.le_trans (hl b) (h.one b)
theorem u5(w:World)(G:aM)(d:Nat):qq w G { w with drawn:=d } G:=⟨λ_ _ hi=>⟨rfl,hi⟩,λ_ loc h=>⟨loc,h,Nat.le_refl _,λ_=>rfl⟩⟩
theorem FT.drawn(h:FT w G β a s n)(d:Nat):FT { w with drawn:=d } G β a s n where
 Hv:=h.Hv
 size:=h.size
 lC:=λt=>(h.lC t).iR (u5 w G d) λ_ _=>⟨rfl,rfl⟩
 lt:=h.lt
 inv:=tT h.inv (u5 w G d) rfl (λ_ _=>⟨rfl,rfl⟩) h.inv.lF
 box:=lP h.box (u5 w G d) λ_ _=>⟨rfl,rfl⟩
theorem Mv.drawn{A A':Nat->Nat}{d:Nat}(h:Mv { w with drawn:=d } G A w' G' A'):Mv w G A w' G' A':=
 ⟨(u5 w G d).trans h.iR,h.fj,h.one,λb hb h0=>h.tQ b hb h0,h.size,h.os,h.out⟩
theorem X8{t:Nat}{v v':AV}{bS:aj}(hs:FT w G β a s n)(h1:∀b,gi β a s G n b<=1)(hv:cQ s.env t=.val v)(hf:jL wl v s.st=some (v',bS)) :
  ∃G',FT w G' β a ⟨tH s.env t (.val v'),s.bx,bS⟩ n/\Mv w G (gi β a s G n) w G' (gi β a ⟨tH s.env t (.val v'),s.bx,bS⟩ G' n):=by
 have htn:t<n:=by
  rcases Nat.lt_or_ge t n with h|h
  ·exact h
  ·rw[hs.lt t h]at hv;cases hv
 have DD:=hs.lC t
 rw[hv]at DD
 obtain⟨G',hF,hr,iP⟩:=wJ (w:=w) hs.inv (λb=>by have:=h1 b;unfold gi sX at this;omega) DD hf
 have JE:∀b,cv b (.val v') (kz a t)=0:=λb=>eJ b _ _ iP
 have fh:∀b,0<cv b (cQ s.env t) (kz a t)\/True:=λ_=>.inr trivial
 have Hy:∀b,ga (λu=>cv b (cQ (tH s.env t (.val v')) u) (kz a u)) n<=ga (λu=>cv b (cQ s.env u) (kz a u)) n:=λb=>AJ λu _=>by
  rw[tX]
  by_cases hu:u=t
  ·subst hu;rw[if_pos rfl,JE b];omega
  ·rw[if_neg hu];exact Nat.le_refl _
 have B7:∀b,0<ga (λu=>cv b (cQ s.env u) (kz a u)) n+fM b β s.bx->dL w G w G' b:=λb hb=>⟨hF.tQ b (by have:=h1 b;unfold gi sX at this;omega),rfl⟩
 have hle:∀b,gi β a ⟨tH s.env t (.val v'),s.bx,bS⟩ G' n b<=gi β a s G n b:=λb=>by
  have e1:=Hy b
  have e2:=hF.fj b
  show ga (λu=>cv b (cQ (tH s.env t (.val v')) u) (kz a u)) n+fM b β s.bx+b6 b G'.ls bS<=ga (λu=>cv b (cQ s.env u) (kz a u)) n+fM b β s.bx+b6 b G.ls s.st
  omega
 refine⟨G',⟨hs.Hv,hs.size,λu=>?_,λu hu=>?_,hF.inv,lP (bx:=s.bx) hs.box hF.iR λb hb=>B7 b (by omega)⟩,⟨hF.iR,λb _=>hle b,λb=>Nat.le_trans (hle b) (h1 b),λb hb h0=>?_,Nat.le_refl _,rfl,rfl⟩⟩
 ·show jQ w G' β (cQ (tH s.env t (.val v')) u) (kz a u)
  rw[tX]
  by_cases hu:u=t
  ·subst hu;rw[if_pos rfl];exact hr
  ·rw[if_neg hu]
   refine(hs.lC u).iR hF.iR λb hb=>B7 b ?_
   have G8:u<n:=by
    rcases Nat.lt_or_ge u n with h|h
    ·exact h
    ·rw[hs.lt u h]at hb;simp[cv]at hb
   have:=tY (f:=λu=>cv b (cQ s.env u) (kz a u)) G8
   omega
 ·show cQ (tH s.env t (.val v')) u=.none
  rw[tX,if_neg (by omega)]
  exact hs.lt u hu
 ·have:b6 b G.ls s.st=0:=by unfold gi sX at h0;omega
  exact⟨hF.tQ b this,rfl⟩
theorem xG{wl:Nat}{v v':AV}{st bS:aj}(h:jL wl v st=some (v',bS)):v'.cH=true:=by
 unfold jL at h
 split at h
 ·split at h
  ·split at h
   ·split at h
    ·cases h;rfl
    ·cases h
   ·cases h
  ·cases h
 ·cases h;rfl
 ·cases h
theorem xg.put{row:List AV}{g:lE}{k:Nat}{v:AV}{u:Value}(h:xg w G row g)(hk:k<row.length)(hu:g.vals[k]?=some u)(hr:aO w G v u)(hc:v.cH=true):xg w G (af row k [v]) g:=by
 have hv:cj w G [v] [u]:=⟨rfl,λi c x h1 h2=>by
  cases i with
  |zero=>simp at h1 h2;subst h1;subst h2;exact hr
  |succ i=>simp at h1⟩
 have hs:af g.vals k [u]=g.vals:=by
  have hkv:k<g.vals.length:=(List.getElem?_eq_some_iff.1 hu).1
  have e:=rW g.vals k 1 (by omega)
  have e2:(g.vals.drop k).take 1=[u]:=by
   rw[List.drop_eq_getElem_cons hkv]
   simp[(List.getElem?_eq_some_iff.1 hu).2]
  rw[e2]at e
  exact e
 refine⟨?_,jo h.AE (by simp[AV.aK,hc]) (by simp;omega),?_⟩
 ·have:=h.lC.af hv (n:=k) (by simp;omega)
  rwa [hs]at this
 ·rcases h.oe with⟨h1,h2⟩|⟨b,c,e,h1,h2,h3,h4,h5⟩
  ·subst h2;simp at hk
  ·exact .inr ⟨b,c,e,h1,h2,by rw[dx];exact h3,h4,h5⟩
theorem Uo{j k:Nat}{row:List AV}{v v':AV}{bS:aj}(hs:FT w G β a s n)(h1:∀b,gi β a s G n b<=1)(hr:s.bx[j]?=some row)(hv:row[k]?=some v)(hf:jL wl v s.st=some (v',bS)) :
  ∃G',FT w G' β a ⟨s.env,s.bx.set j (af row k [v']),bS⟩ n/\Mv w G (gi β a s G n) w G' (gi β a ⟨s.env,s.bx.set j (af row k [v']),bS⟩ G' n):=by
 have Ow:=(List.getElem?_eq_some_iff.1 hr).1
 have jq:=(List.getElem?_eq_some_iff.1 hv).1
 obtain⟨g,hg⟩:∃g,β[j]?=some g:=⟨_,List.getElem?_eq_getElem (by rw[hs.box.len];exact Ow)⟩
 have hbx:=hs.box.box j row g hr hg
 obtain⟨u,hu⟩:∃u,g.vals[k]?=some u:=⟨_,List.getElem?_eq_getElem (by rw[<-hbx.lC.1];exact jq)⟩
 obtain⟨G',hF,dy,iP⟩:=wJ (w:=w) hs.inv (λb=>by have:=h1 b;unfold gi sX at this;omega) (hbx.lC.2 k v u hv hu) hf
 have iA:=xG hf
 have B7:∀b,0<ga (λu=>cv b (cQ s.env u) (kz a u)) n+fM b β s.bx->dL w G w G' b:=λb hb=>⟨hF.tQ b (by have:=h1 b;unfold gi sX at this;omega),rfl⟩
 have hbc:∀b,fM b β (s.bx.set j (af row k [v']))<=fM b β s.bx:=λb=>by
  have e1:=xd b β s.bx j g row g (af row k [v']) hg hr
  have e2:β.set j g=β:=by
   obtain⟨hj,e⟩:=List.getElem?_eq_some_iff.1 hg
   rw[<-e];exact List.set_getElem_self _
  have Am:af g.vals k [u]=g.vals:=by
   have hkv:k<g.vals.length:=(List.getElem?_eq_some_iff.1 hu).1
   have e:=rW g.vals k 1 (by omega)
   have e2:(g.vals.drop k).take 1=[u]:=by
    rw[List.drop_eq_getElem_cons hkv]
    simp[(List.getElem?_eq_some_iff.1 hu).2]
   rw[e2]at e
   exact e
  have e3:=pF b row [v'] g.vals [u] k hbx.lC.1 rfl (by simp;omega)
  rw[Am]at e3
  have e4:bV b [v'] [u]=0:=by simp only[bV,eJ b v' u iP]
  rw[e2]at e1
  omega
 have hle:∀b,gi β a ⟨s.env,s.bx.set j (af row k [v']),bS⟩ G' n b<=gi β a s G n b:=λb=>by
  have e1:=hbc b
  have e2:=hF.fj b
  show ga (λu=>cv b (cQ s.env u) (kz a u)) n+fM b β (s.bx.set j (af row k [v']))+b6 b G'.ls bS<=ga (λu=>cv b (cQ s.env u) (kz a u)) n+fM b β s.bx+b6 b G.ls s.st
  omega
 have hB:=lP (bx:=s.bx) hs.box hF.iR λb hb=>B7 b (by omega)
 refine⟨G',⟨hs.Hv,hs.size,λu=>?_,hs.lt,hF.inv,⟨by simpa using hB.len,λi r x e1 e2=>?_⟩⟩,⟨hF.iR,λb _=>hle b,λb=>Nat.le_trans (hle b) (h1 b),λb hb h0=>?_,Nat.le_refl _,rfl,rfl⟩⟩
 ·refine(hs.lC u).iR hF.iR λb hb=>B7 b ?_
  have G8:u<n:=by
   rcases Nat.lt_or_ge u n with h|h
   ·exact h
   ·rw[hs.lt u h]at hb;simp[cv]at hb
  have:=tY (f:=λu=>cv b (cQ s.env u) (kz a u)) G8
  omega
 ·simp only[List.getElem?_set]at e1
  by_cases Al:j=i
  ·subst Al
   rw[if_pos rfl,if_pos Ow]at e1
   cases e1
   rw[hg]at e2;cases e2
   exact(hB.box j row g hr hg).put jq hu dy iA
  ·rw[if_neg Al]at e1
   exact hB.box i r x e1 e2
 ·have:b6 b G.ls s.st=0:=by unfold gi sX at h0;omega
  exact⟨hF.tQ b this,rfl⟩
theorem PN{wl aa:Nat}{st lM lZ:aj}{id bX i k off:Nat}{v v':AV}{u:Value}(hI:iH w G st)(hX:∀b,b6 b G.ls st<=1)(hp:aO w G (.ptr id bX i k) u)
  (hr:fY st (.ptr id bX i (k+off)) 1=some [v])(hf:jL wl v st=some (v',lM))(hw:dR wl aa lM (.ptr id bX i (k+off)) [v']=some lZ):∃G',GI w G st G' lZ:=by
 unfold fY at hr
 simp only at hr
 split at hr
 ·rename_i ve sz rows fh
  split at hr
  ·rename_i hve
   subst hve
   split at hr
   ·rename_i r dg
    obtain⟨loc,b,o,c,e,xs,hl,zz,yw,gQ,Hf,tg,fo,ff,eS,hle,hlen,gV,JK,kT,dw⟩:=xk hI hp fh dg
    obtain⟨n5,JP,BE⟩:=pG hr
    have We:k+off<r.length:=by omega
    have hv:r[k+off]?=some v:=by
     have:((r.drop (k+off)).take 1)[0]?=some v:=by rw[<-n5];rfl
     rw[List.getElem?_take,if_pos (by omega),List.getElem?_drop]at this
     exact this
    obtain⟨x,hx⟩:∃x,xs[k+off]?=some x:=⟨_,List.getElem?_eq_getElem (by rw[<-kT.1];exact We)⟩
    obtain⟨G',hF,dy,iP⟩:=wJ hI hX (kT.2 _ _ _ hv hx) hf
    have iA:=xG hf
    have Uk:aO w G' (.ptr id ve i k) u:=hp.yJ hF.iR rfl
    unfold dR at hw
    simp only at hw
    split at hw
    ·rename_i ve1 sz1 PO An
     split at hw
     ·rename_i acH
      simp only[Bool.and_eq_true,decide_eq_true_eq]at acH
      obtain⟨rfl,_⟩:=acH
      split at hw
      ·rename_i r1 LJ
       split at hw
       ·rename_i cm
        cases hw
        obtain⟨Up,b1,o1,c1,e1,Tf,Ou,ahx,ahy,HL,X9,ahz,acI,akF,Ya,ahA,acJ,acK,Uq,Pf,LM⟩:=xk hF.inv Uk An LJ
        have hk1:k+off<r1.length:=by simp only[List.length_singleton]at cm;omega
        obtain⟨x1,hx1⟩:∃x,Tf[k+off]?=some x:=⟨_,List.getElem?_eq_getElem (by rw[<-Pf.1];exact hk1)⟩
        rw[Hf]at X9
        simp only[Value.pointer.injEq,Option.some.injEq,Addr.mk.injEq,and_true]at X9
        obtain⟨hb,ho⟩:=X9
        have hxx:x1=x:=by
         have a1:=dw i xs (k+off) x JK hx
         have a2:=LM i Tf (k+off) x1 Uq hx1
         rw[hb,show o+(i*sz+(k+off))=o1+(i*sz1+(k+off)) by omega,a2]at a1
         cases a1;rfl
        subst hxx
        have hs:af Tf (k+off) [x1]=Tf:=by
         have e:=rW Tf (k+off) 1 (by have:=(List.getElem?_eq_some_iff.1 hx1).1;omega)
         have e2:(Tf.drop (k+off)).take 1=[x1]:=by
          rw[List.drop_eq_getElem_cons (List.getElem?_eq_some_iff.1 hx1).1]
          simp[(List.getElem?_eq_some_iff.1 hx1).2]
         rw[e2]at e
         exact e
        have acL:cj w G' (af r1 (k+off) [v']) Tf:=by
         have Dy:cj w G' [v'] [x1]:=⟨rfl,λi c x h1 h2=>by
          cases i with
          |zero=>simp at h1 h2;subst h1;subst h2;exact dy
          |succ i=>simp at h1⟩
         have:=Pf.af Dy (n:=k+off) (by simp;omega)
         rwa [hs]at this
        have ry:og w G' (.rows ve1 sz1 (PO.set i (af r1 (k+off) [v']))) Up:=by
         refine⟨ahx,ahy,cn.2 λr' vM=>?_,λr' vM=>?_,by simp[HL.len],HL.size,by simp[HL.qO],λi' r' Jo h1 h2=>?_,.inr ⟨b1,o1,c1,e1,ahz,acI,Ya,ahA,by simpa using acJ,acK,LM⟩⟩
         ·rcases List.mem_or_eq_of_mem_set vM with h|h
          ·exact cn.1 HL.Dp r' h
          ·rw[h,dx];exact cn.1 HL.Dp r1 (cU LJ)
         ·rcases List.mem_or_eq_of_mem_set vM with h|h
          ·exact HL.AE r' h
          ·rw[h];exact jo (HL.AE r1 (cU LJ)) (by simp[AV.aK,iA]) (by simpa using cm)
         ·rw[List.getElem?_set]at h1
          by_cases JM:i=i'
          ·subst JM
           rw[if_pos rfl]at h1
           split at h1
           ·cases h1
            rw[Uq]at h2;cases h2
            exact acL
           ·cases h1
          ·rw[if_neg JM]at h1
           exact HL.rm i' r' Jo h1 h2
        refine⟨G',hF.trans ⟨qq.refl w G',AH hF.inv (qq.refl w G') (gv _ _ _ Ou).symm (λ_ _ _ _ _ _ _ _=>⟨rfl,rfl⟩) ry hF.inv.lF,λb'=>?_,λ_ _=>rfl⟩⟩
        have h1:=tP b' G'.ls lM id Up _ Up (.rows ve1 sz1 (PO.set i (af r1 (k+off) [v']))) Ou An
        rw[gv _ _ _ Ou]at h1
        have h4:=rq b' PO Up.vals i r1 Tf (af r1 (k+off) [v']) Tf LJ Uq
        rw[gv _ _ _ Uq]at h4
        have e3:=pF b' r1 [v'] Tf [x1] (k+off) Pf.1 rfl (by simp;omega)
        rw[hs]at e3
        have e4:bV b' [v'] [x1]=0:=by simp only[bV,eJ b' v' x1 iP]
        simp only[gX]at h1
        omega
       ·cases hw
      ·cases hw
     ·cases hw
    ·cases hw
   ·cases hr
  ·cases hr
 ·cases hr
theorem M9{wl aa:Nat}{st lM lZ:aj}{id bX i k off:Nat}{v v':AV}{u:Value}(hI:iH w G st)(hX:∀b,b6 b G.ls st<=1)(hp:aO w G (.ptr id bX i k) u)
  (hr:fY st (.ptr id bX i (k+off)) 1=some [v])(hf:oD wl v st=some (v',lM))(hw:dR wl aa lM (.ptr id bX i (k+off)) [v']=some lZ):∃G',GI w G st G' lZ:=by
 unfold oD at hf
 split at hf
 ·rename_i jf dN
  cases hf
  unfold fY at hr
  simp only at hr
  split at hr
  ·rename_i ve sz rows fh
   split at hr
   ·rename_i hve
    subst hve
    split at hr
    ·rename_i r dg
     obtain⟨n5,JP,BE⟩:=pG hr
     have We:k+off<r.length:=by omega
     have hv:r[k+off]?=some (.raw jf dN):=by
      have:((r.drop (k+off)).take 1)[0]?=some (.raw jf dN):=by rw[<-n5];rfl
      rw[List.getElem?_take,if_pos (by omega),List.getElem?_drop]at this
      exact this
     have Jm:id<st.length:=(List.getElem?_eq_some_iff.1 fh).1
     have An:(st++[fL.rows 0 jf dN])[id]?=some (.rows ve sz rows):=by rw[List.getElem?_append_left Jm];exact fh
     unfold dR at hw
     simp only[An,dg]at hw
     split at hw
     ·split at hw
      ·cases hw
       exact T6 hI hp fh dg hv
      ·cases hw
     ·cases hw
    ·cases hr
   ·cases hr
  ·cases hr
 ·exact PN hI hX hp hr hf hw
theorem Ur{wl aa:Nat}{t id bX i k off:Nat}{v v':AV}{lM lZ:aj}(hs:FT w G β a s n)(h1:∀b,gi β a s G n b<=1)(ht:cQ s.env t=.val (.ptr id bX i k))
  (hr:fY s.st (.ptr id bX i (k+off)) 1=some [v])(hf:oD wl v s.st=some (v',lM))(hw:dR wl aa lM (.ptr id bX i (k+off)) [v']=some lZ) :
  ∃G',FT w G' β a ⟨s.env,s.bx,lZ⟩ n/\Mv w G (gi β a s G n) w G' (gi β a ⟨s.env,s.bx,lZ⟩ G' n):=by
 have DD:jQ w G β (cQ s.env t) (kz a t):=hs.lC t
 rw[ht]at DD
 obtain⟨G',hF⟩:=M9 hs.inv (λb=>by have:=h1 b;unfold gi sX at this;omega) DD hr hf hw
 have B7:∀b,0<ga (λu=>cv b (cQ s.env u) (kz a u)) n+fM b β s.bx->dL w G w G' b:=λb hb=>⟨hF.tQ b (by have:=h1 b;unfold gi sX at this;omega),rfl⟩
 have hle:∀b,gi β a ⟨s.env,s.bx,lZ⟩ G' n b<=gi β a s G n b:=λb=>by
  have e2:=hF.fj b
  show ga (λu=>cv b (cQ s.env u) (kz a u)) n+fM b β s.bx+b6 b G'.ls lZ<=ga (λu=>cv b (cQ s.env u) (kz a u)) n+fM b β s.bx+b6 b G.ls s.st
  omega
 refine⟨G',⟨hs.Hv,hs.size,λu=>?_,hs.lt,hF.inv,lP (bx:=s.bx) hs.box hF.iR λb hb=>B7 b (by omega)⟩,⟨hF.iR,λb _=>hle b,λb=>Nat.le_trans (hle b) (h1 b),λb hb h0=>?_,Nat.le_refl _,rfl,rfl⟩⟩
 ·refine(hs.lC u).iR hF.iR λb hb=>B7 b ?_
  have G8:u<n:=by
   rcases Nat.lt_or_ge u n with h|h
   ·exact h
   ·rw[hs.lt u h]at hb;simp[cv]at hb
  have:=tY (f:=λu=>cv b (cQ s.env u) (kz a u)) G8
  omega
 ·have:b6 b G.ls s.st=0:=by unfold gi sX at h0;omega
  exact⟨hF.tQ b this,rfl⟩
end Ax
namespace Ax
open Go
variable {S:Nat->Option aD}{P:Program}{O:jC}{wl aa n:Nat}
theorem u6{Q:Exit->Act->World->Prop}{x:Ex}{a:Act}{w:World}(h:Q (B6 x) a w):Exit.noGoto Q (B6 x) a w:=by
 cases x<;>exact h
theorem Na{x y:bQ}{c:Code}(h:iW S P n (.seq x y) c=true):(∃t,x=.OL t/\iW S P n y c=true)\/(∃j k,x=.Bb j k/\iW S P n y c=true)\/(∃j k,x=.vI j k/\iW S P n y c=true)\/(∃a b,B5 c=.seq a b/\iW S P n x a=true/\iW S P n y b=true):=by
 unfold iW at h
 split at h
 ·exact .inl ⟨_,rfl,h⟩
 ·exact .inr (.inl ⟨_,_,rfl,h⟩)
 ·exact .inr (.inr (.inl ⟨_,_,rfl,h⟩))
 ·split at h
  ·rename_i a b he
   simp only[Bool.and_eq_true]at h
   exact .inr (.inr (.inr ⟨a,b,he,h.1,h.2⟩))
  ·cases h
theorem qS(hO:js S P O)(hL:u0 S P O)(hP:zM S O){rs:List jV}:∀(c:bQ)(code:Code)(s s':St)(x:Ex)(w:World)(G:aM)(β:List lE)(a:Act)(Q:Exit->Act->World->Prop),
  iW S P n c code=true->FT w G β a s n->(∀b,gi β a s G n b<=1)->gO O wl aa rs c s=some (x,s')->
  (∀w' G' gf a',Pst n rs (gi β a s G n) w G x s' w' G' gf a'->Q (B6 x) a' w')->code.wp P Q a w
 |.skip,code,s,s',x,w,G,β,a,Q,hm,hs,h1,he,hQ=>by
  refine oK ?_
  simp only[gO,Option.some.injEq,Prod.mk.injEq]at he
  obtain⟨rfl,rfl⟩:=he
  unfold iW at hm
  split at hm
  ·rename_i hp
   rw[hp]
   exact wp_skip (hQ w G β a ⟨s,hs,Mv.refl h1,rfl⟩)
  ·cases hm
 |.region m draw dM,code,s,s',x,w,G,β,a,Q,hm,hs,h1,he,hQ=>by
  refine oK ?_
  unfold iW at hm
  split at hm
  ·rename_i id cT d hp
   rw[hp]
   unfold gO at he
   cases draw with
   |none=>
    simp only[Fo,Bool.and_eq_true,Bool.not_eq_true']at hm
    obtain⟨rfl,hm⟩:=hm
    simp only at he
    split at he
    ·rename_i s1 vZ
     cases he
     refine wp_region ?_
     have:=BY (Q:=Exit.noGoto Q) hO cT.toList m 0 w G β a s rfl hm hs h1 vZ λw' G' gf a' f1 f2=>by
      obtain⟨g1,g2⟩:=f1.clear dM
      exact hQ w' G' gf a' ⟨_,g1,f2.PM g2,rfl⟩
     rw[List.range_eq_range']
     simpa using this
    ·cases he
   |some bK=>
    simp only[Fo,Bool.and_eq_true]at hm
    obtain⟨rfl,hm⟩:=hm
    simp only at he
    split at he
    ·rename_i s1 vZ
     cases he
     exact HH (Q:=Exit.noGoto Q) hm hO hP hs h1 vZ (λd=>⟨hs.drawn d,λ_ _ _ h=>h.drawn⟩) λw' G' gf a' f1 f2=>by
      obtain⟨g1,g2⟩:=f1.clear dM
      exact hQ w' G' gf a' ⟨_,g1,f2.PM g2,rfl⟩
    ·cases he
  ·cases hm
 |.seq c1 c2,code,s,s',x,w,G,β,a,Q,hm,hs,h1,he,hQ=>by
  rcases Na hm with⟨t,rfl,Us⟩|⟨j,k,rfl,Us⟩|⟨t,off,rfl,Us⟩|⟨a1,b1,hp,hm1,Us⟩
  ·unfold gO at he
   cases hc:gO O wl aa rs (.OL t) s with
   |none=>rw[hc]at he;cases he
   |some y=>
    obtain⟨x1,s1⟩:=y
    rw[hc]at he
    unfold gO at hc
    cases hv:cQ s.env t with
    |none=>rw[hv]at hc;cases hc
    |fp j k=>rw[hv]at hc;cases hc
    |val v=>
     rw[hv]at hc
     simp only at hc
     cases hf:jL wl v s.st with
     |none=>rw[hf]at hc;cases hc
     |some y=>
      obtain⟨v',bS⟩:=y
      rw[hf]at hc
      cases hc
      obtain⟨G',f1,f2⟩:=X8 hs h1 hv hf
      exact qS hO hL hP c2 code _ s' x w G' β a Q Us f1 f2.one he λw' G2 Pp a2 hp=>hQ w' G2 Pp a2 (hp.trans f2)
  ·unfold gO at he
   cases hc:gO O wl aa rs (.Bb j k) s with
   |none=>rw[hc]at he;cases he
   |some y=>
    obtain⟨x1,s1⟩:=y
    rw[hc]at he
    unfold gO at hc
    cases hb:s.bx[j]? with
    |none=>rw[hb]at hc;cases hc
    |some row=>
     rw[hb]at hc
     simp only at hc
     cases hv:row[k]? with
     |none=>rw[hv]at hc;cases hc
     |some v=>
      rw[hv]at hc
      simp only at hc
      cases hf:jL wl v s.st with
      |none=>rw[hf]at hc;cases hc
      |some y=>
       obtain⟨v',bS⟩:=y
       rw[hf]at hc
       cases hc
       obtain⟨G',f1,f2⟩:=Uo hs h1 hb hv hf
       exact qS hO hL hP c2 code _ s' x w G' β a Q Us f1 f2.one he λw' G2 Pp a2 hp=>hQ w' G2 Pp a2 (hp.trans f2)
  ·unfold gO at he
   cases hc:gO O wl aa rs (.vI t off) s with
   |none=>rw[hc]at he;cases he
   |some y=>
    obtain⟨x1,s1⟩:=y
    rw[hc]at he
    obtain⟨rfl,id,bX,i,k,v,v',lM,lZ,g1,g2,g3,g4,rfl⟩:=Bg hc
    simp only at he
    obtain⟨G',f1,f2⟩:=Ur hs h1 g1 g2 g3 g4
    exact qS hO hL hP c2 code _ s' x w G' β a Q Us f1 f2.one he λw' G2 Pp a2 hp=>hQ w' G2 Pp a2 (hp.trans f2)
  ·refine oK ?_
   rw[hp]
   refine wp_seq ?_
   unfold gO at he
   cases hc:gO O wl aa rs c1 s with
   |none=>rw[hc]at he;cases he
   |some y=>
    obtain⟨x1,s1⟩:=y
    rw[hc]at he
    refine qS hO hL hP c1 a1 s s1 x1 w G β a _ hm1 hs h1 hc λw' G' gf a' WG=>?_
    cases x1 with
    |normal=>
     obtain⟨sr,g1,g2,g3⟩:=WG
     simp only at g3
     subst g3
     exact qS hO hL hP c2 b1 s1 s' x w' G' gf a' _ Us g1 g2.one he λw2 G2 Pp a2 hp2=>u6 (hQ w2 G2 Pp a2 (hp2.trans g2))
    |exit id=>cases he;exact hQ w' G' gf a' WG
    |ret v=>cases he;exact hQ w' G' gf a' WG
 |.cond t ca c1 cb c2,code,s,s',x,w,G,β,a,Q,hm,hs,h1,he,hQ=>by
  refine oK ?_
  unfold iW at hm
  split at hm
  ·rename_i u a1 b1 hp
   rw[hp]
   simp only[Bool.and_eq_true]at hm
   obtain⟨⟨XZ,hm1⟩,Us⟩:=hm
   unfold gO at he
   have hev:=(Lv hs.lC XZ).1
   have hb:∀b,pA s.env t=some b->a.eval u=.bool b:=λb hb=>by
    unfold pA at hb
    rw[AL]at hb
    split at hb
    ·rename_i b' lN
     cases hb
     rw[lN]at hev
     exact aO.jm hev
    ·cases hb
   split at he
   ·rename_i hr
    obtain⟨g1,g2⟩:=FT.acG hs t ca
    refine wp_cond_true (hb _ hr) (qS hO hL hP c1 a1 _ s' x w G β a _ hm1 g1 (λb=>Nat.le_trans (g2 b) (h1 b)) he λw' G' gf a' hp=>u6 (hQ w' G' gf a' (hp.trans ((Mv.refl h1).PM g2))))
   ·rename_i hr
    obtain⟨g1,g2⟩:=FT.acG hs t cb
    refine wp_cond_false (hb _ hr) (qS hO hL hP c2 b1 _ s' x w G β a _ Us g1 (λb=>Nat.le_trans (g2 b) (h1 b)) he λw' G' gf a' hp=>u6 (hQ w' G' gf a' (hp.trans ((Mv.refl h1).PM g2))))
   ·cases he
  ·cases hm
 |.block id c1,code,s,s',x,w,G,β,a,Q,hm,hs,h1,he,hQ=>by
  refine oK ?_
  unfold iW at hm
  split at hm
  ·rename_i j a1 hp
   rw[hp]
   simp only[Bool.and_eq_true,beq_iff_eq]at hm
   obtain⟨rfl,hm1⟩:=hm
   refine wp_block ?_
   unfold gO at he
   cases hc:gO O wl aa rs c1 s with
   |none=>rw[hc]at he;cases he
   |some y=>
    obtain⟨x1,s1⟩:=y
    rw[hc]at he
    refine qS hO hL hP c1 a1 s s1 x1 w G β a _ hm1 hs h1 hc λw' G' gf a' WG=>?_
    cases x1 with
    |normal=>cases he;exact hQ w' G' gf a' WG
    |exit i=>
     simp only at he
     simp only[B6,Exit.inBlock]
     split at he
     ·rename_i hi
      cases he
      rw[if_pos hi]
      exact hQ w' G' gf a' WG
     ·rename_i hi
      cases he
      rw[if_neg hi]
      exact hQ w' G' gf a' WG
    |ret v=>cases he;exact hQ w' G' gf a' WG
  ·cases hm
 |.loop c1,code,s,s',x,w,G,β,a,Q,hm,hs,h1,he,hQ=>by
  refine oK ?_
  unfold iW at hm
  split at hm
  ·rename_i a1 hp
   rw[hp]
   unfold gO at he
   exact HK (hL wl aa rs c1 s x s' he a1 n hm w G β a hs h1 _ λw' G' gf a' hp=>u6 (hQ w' G' gf a' hp))
  ·cases hm
 |.exit id,code,s,s',x,w,G,β,a,Q,hm,hs,h1,he,hQ=>by
  refine oK ?_
  simp only[gO,Option.some.injEq,Prod.mk.injEq]at he
  obtain⟨rfl,rfl⟩:=he
  unfold iW at hm
  split at hm
  ·rename_i j hp
   rw[hp]
   simp only[beq_iff_eq]at hm
   subst hm
   exact wp_exit (hQ w G β a ⟨s,hs,Mv.refl h1,rfl⟩)
  ·cases hm
 |.ret,code,s,s',x,w,G,β,a,Q,hm,hs,h1,he,hQ=>by
  refine oK ?_
  unfold iW at hm
  split at hm
  ·rename_i hp
   rw[hp]
   unfold gO at he
   split at he
   ·rename_i v hv
    cases he
    exact wp_ret (hQ w G β a ⟨s,hs,Mv.refl h1,hv,rfl⟩)
   ·cases he
  ·cases hm
 |.OL t,code,s,s',x,w,G,β,a,Q,hm,hs,h1,he,hQ=>by
  simp[iW]at hm
 |.Bb j k,code,s,s',x,w,G,β,a,Q,hm,hs,h1,he,hQ=>by
  simp[iW]at hm
 |.vI t off,code,s,s',x,w,G,β,a,Q,hm,hs,h1,he,hQ=>by
  simp[iW]at hm
def LN(S:Nat->Option aD)(P:Program)(sf:aD):Bool:=
 match P.funcs[sf.fV]? with
 |some fn=>match fn.body with
  |some code => !(fn.name == "runtime.NumGoroutine") && iW S P fn.ntmps sf.body code && wK P fn.results.toList sf.results && ua (om sf.results) && ua (BZ sf.results) && decide (sf.aF ≤ fn.ntmps)
  |none=>false
 |none=>false
def HM(S:Nat->Option aD)(P:Program):Prop:=∀f sf,S f=some sf->LN S P sf=true/\(f<100000->sf.fV=f)
def As(b:Nat)(args:List AV)(vs:List Value)(k t:Nat):Nat:=if k<=t then (match args[t-k]?,vs[t-k]? with|some v,some u=>fj b v u|_,_=>0) else 0
theorem HN{w:World}{G:aM}(b:Nat):∀(args:List AV)(vs:List Value)(k N:Nat),args.length=vs.length->k+args.length<=N->
  ga (As b args vs k) N=bV b args vs
 |[],[],k,N,_,_=>by
  have:ga (As b [] [] k) N=ga (λ_=>0) N:=mY λt _=>by simp[As]
  rw[this,D1];rfl
 |v::args,u::vs,k,N,hl,hN=>by
  have ih:=HN (w:=w) (G:=G) b args vs (k+1) N (by simpa using hl) (by simp at hN;omega)
  have:=rA (f:=As b (v::args) (u::vs) k) (g:=As b args vs (k+1)) (d:=k) (n:=N) (by simp at hN;omega) λt ht=>by
    unfold As
    by_cases hk:k<=t
    ·have h1:k+1<=t:=by omega
     have h2:t-k=(t-(k+1))+1:=by omega
     simp only[hk,h1,if_true,h2,List.getElem?_cons_succ]
    ·have h1:¬k+1<=t:=by omega
     simp only[hk,h1,if_false]
  have e1:As b (v::args) (u::vs) k k=fj b v u:=by simp[As]
  have e2:As b args vs (k+1) k=0:=by unfold As;rw[if_neg (by omega)]
  rw[e1,e2,ih]at this
  simp only[bV]
  omega
 |[],_::_,_,_,h,_=>by simp at h
 |_::_,[],_,_,h,_=>by simp at h
end Ax
namespace Ax
open Go
variable {S:Nat->Option aD}{P:Program}{O:jC}{wl aa n:Nat}
variable {w w':World}{G G':aM}{β gf:List lE}{a:Act}{s s':St}
theorem Ut{fn:Func}{rs:List jV}{v:AV}(hs:FT w G β a s n)(hm:wK P fn.results.toList rs=true)(h1:ua (om rs)=true)(h2:ua (BZ rs)=true)(hr:wB s rs=some v) :
  ∃u,(results fn a.tmps).run P w=.ok u w/\aO w G v u/\∀b,fj b v u+b6 b G.ls s.st<=gi β a s G n b:=by
 unfold wB at hr
 cases gQ:wA s rs with
 |none=>rw[gQ]at hr;cases hr
 |some vs=>
  obtain⟨us,k1,k2,k3⟩:=D9 hs _ rs vs hm gQ
  have k4:=Hz k1
  rw[gQ]at hr
  have hle:∀b,bV b vs us+b6 b G.ls s.st<=gi β a s G n b:=λb=>by
   have e1:=k3 b
   have e2:=xz (f:=λt=>cv b (cQ s.env t) (kz a t)) (n:=n) (λt ht=>by rw[hs.lt t ht];rfl) _ (uZ h1)
   have e3:=xz (f:=rB b β s.bx) (n:=s.bx.length) (λt ht=>by
    unfold rB
    rw[List.getElem?_eq_none ht]
    split
    ·rename_i h;cases h
    ·rfl) _ (uZ h2)
   have e4:=HA b β s.bx
   unfold gi sX
   omega
  match vs,us,k2,hle,hr,k4 with
  |[v1],[u],k2,hle,hr,k4=>
   cases hr
   refine⟨u,k4,k2.2 0 _ u rfl rfl,λb=>?_⟩
   have:=hle b
   simp only[bV]at this
   omega
  |[],us,k2,hle,hr,k4=>
   have:us=[]:=by have:=k2.1;simpa using this.symm
   subst this
   cases hr
   exact⟨_,k4,.fK _ _ rfl λi c v h=>by simp at h,λb=>by have:=hle b;simpa [fj,M6] using this⟩
  |v1::v2::vs,us,k2,hle,hr,k4=>
   cases hr
   match us,k2,hle,k4 with
   |[],k2,_,_=>have:=k2.1;simp at this
   |[_],k2,_,_=>have:=k2.1;simp at this
   |u1::u2::us,k2,hle,k4=>
    exact⟨_,k4,.fK _ _ (by simpa using k2.1) λi c v h k=>k2.2 i c v h (by simpa using k),λb=>by have:=hle b;simpa [fj,M6] using this⟩
  |[_],[],k2,_,_,_=>have:=k2.1;simp at this
  |[_],_::_::_,k2,_,_,_=>have:=k2.1;simp at this
theorem Yb{m:Mode}{st lM bS:aj}{v v':AV}{u:Value}{A:Nat->Nat}(hI0:iH w G st)(hk:cZ (m.wC st.length wl) (m.pC st.length aa) st lM)(hf:m.kJ st v lM=some (v',bS))(hr:aO w' G' v u)(hI:iH w' G' lM)
  (hM:Mv w G A w' G' (λb=>fj b v u+b6 b G'.ls lM)):∃G2,aO w' G2 v' u/\iH w' G2 bS/\Mv w G A w' G2 (λb=>fj b v' u+b6 b G2.ls bS):=by
 have acN:(m=.pure\/m=.l9)->D2 st.length lM:=λh=>by
  have hl:m.pC st.length aa=st.length:=by rcases h with rfl|rfl<;>rfl
  rw[hl]at hk
  exact hk.aa st.length (Nat.le_refl _) (Nat.le_refl _) hI0.acr
 have cut:v.an=true->D2 st.length lM->∃G2,aO w' G2 v u/\iH w' G2 (lM.take st.length)/\Mv w G A w' G2 (λb=>fj b v u+b6 b G2.ls (lM.take st.length)):=by
  intro hp hl
  have hc:∀b,fj b v u+b6 b (G'.cut st.length).ls (lM.take st.length)<=fj b v u+b6 b G'.ls lM:=λb=>by
   have:=D3 b st.length G'.ls lM
   simp only[aM.cut]
   omega
  refine⟨G'.cut st.length,hr.BR (iB _ v hp),hI.BR hl,?_⟩
  exact⟨Ua hM.iR (by rw[hI0.len];exact Nat.le_refl _),λb hb=>Nat.le_trans (hc b) (hM.fj b hb),λb=>Nat.le_trans (hc b) (hM.one b),λb hb h0=>hM.tQ b hb h0,hM.size,hM.os,hM.out⟩
 cases m with
 |Ds=>
  simp only[Mode.kJ,Option.some.injEq,Prod.mk.injEq]at hf
  obtain⟨rfl,rfl⟩:=hf
  exact⟨G',hr,hI,hM⟩
 |pure=>
  simp only[Mode.kJ]at hf
  split at hf
  ·rename_i hp
   cases hf
   obtain⟨G2,c1,c2,c3⟩:=cut hp (acN (.inl rfl))
   have:lM.take st.length=st:=by
    apply List.ext_getElem?
    intro i
    rw[List.getElem?_take]
    split
    ·rename_i hi
     exact hk.low i (by simpa [Mode.wC] using hi) hi
    ·rename_i hi;rw[List.getElem?_eq_none (by omega)]
   rw[this]at c2 c3
   exact⟨G2,c1,c2,c3⟩
  ·cases hf
 |l9=>
  simp only[Mode.kJ]at hf
  split at hf
  ·rename_i hp
   cases hf
   exact cut hp (acN (.inr rfl))
  ·cases hf
theorem J7(w:World)(G:aM)(k:Nat):jD w G (List.replicate k ⟨none,[]⟩) (List.replicate k []) where
 len:=by simp
 box:=λj row g h1 h2=>by
  rw[List.getElem?_replicate]at h1 h2
  split at h1
  ·rename_i hj
   rw[if_pos hj]at h2
   cases h1;cases h2
   exact⟨⟨rfl,λi c v h=>by simp at h⟩,rfl,.inl ⟨rfl,rfl⟩⟩
  ·cases h1
theorem B8(b:Nat):∀k,fM b (List.replicate k ⟨none,[]⟩) (List.replicate k [])=0
 |0=>by simp[fM]
 |k+1=>by simp[List.replicate_succ,fM,B8 b k,bV]
theorem HO(hT:HM S P)(hO:js S P O)(hL:u0 S P O)(hP:zM S O)(hK:pN O){f:Nat}{sf:aD}(hf:S f=some sf){args:List AV}{st bS:aj}{v:AV}(hc:de O wl aa sf args st=some (v,bS)) :
  M3 P sf.fV/\(f<100000->sf.fV=f)/\
  ∀(w:World) (G:aM) (vs:List Value),cj w G args vs->iH w G st->(∀b,bV b args vs+b6 b G.ls st<=1)->
   Calls P sf.fV vs.toArray w λe w'=>∃u G',e=.returned u/\aO w' G' v u/\iH w' G' bS/\
    Mv w G (λb=>bV b args vs+b6 b G.ls st) w' G' (λb=>fj b v u+b6 b G'.ls bS):=by
 obtain⟨hm,ahC⟩:=hT f sf hf
 unfold LN at hm
 split at hm
 ·rename_i fn J8
  split at hm
  ·rename_i code WH
   simp only[Bool.and_eq_true,Bool.not_eq_true',decide_eq_true_eq]at hm
   obtain⟨⟨⟨⟨⟨acO,B9⟩,Uu⟩,hnt⟩,Te⟩,hnp⟩:=hm
   refine⟨⟨fn,J8,acO,by rw[WH];rfl⟩,ahC,λw G vs hR hI h1=>?_⟩
   unfold de at hc
   split at hc
   ·rename_i hlen
    split at hc
    ·rename_i x s acP
     split at hc
     ·rename_i v1 M8
      refine calls_of_wp J8 WH ?_
      have Tc:vs.length=args.length:=hR.1.symm
      have eH:(vs.toArray++Array.replicate (fn.ntmps-vs.toArray.size) undef).size=fn.ntmps:=by
       simp only[Array.size_append,List.size_toArray,Array.size_replicate];omega
      let a0:Act:={ tmps:=vs.toArray++Array.replicate (fn.ntmps-vs.toArray.size) undef,defers:=[] }
      have acQ:∀t u,vs[t]?=some u->kz a0 t=u:=λt u hu=>by
       have bn:=(List.getElem?_eq_some_iff.1 hu).1
       have:a0.tmps[t]?=some u:=by
        show (vs.toArray++Array.replicate (fn.ntmps-vs.toArray.size) undef)[t]?=some u
        rw[Array.getElem?_append]
        simp[bn,(List.getElem?_eq_some_iff.1 hu).2]
       simp[kz,this]
      have hη:∀t,cQ (pD sf args st).env t=if t∈sf.dM then .none else (match args[t]? with|some v=>.val v|none=>.none):=λt=>by
       simp only[pD,rZ,D0,Nat.zero_le,if_true,Nat.sub_zero]
       rfl
      have hFT:FT w G (List.replicate sf.aP ⟨none,[]⟩) a0 (pD sf args st) fn.ntmps:=by
       refine⟨rfl,by show fn.ntmps<=(vs.toArray++Array.replicate (fn.ntmps-vs.toArray.size) undef).size;omega,λt=>?_,λt ht=>?_,hI,J7 w G sf.aP⟩
       ·rw[hη]
        split
        ·trivial
        ·split
         ·rename_i v0 hv0
          have bn:t<vs.length:=by rw[Tc];exact(List.getElem?_eq_some_iff.1 hv0).1
          have hu:=List.getElem?_eq_getElem bn
          rw[acQ t _ hu]
          exact hR.2 t v0 _ hv0 hu
         ·trivial
       ·rw[hη,List.getElem?_eq_none (by omega)]
        simp
      have Yc:∀b,gi (List.replicate sf.aP ⟨none,[]⟩) a0 (pD sf args st) G fn.ntmps b<=bV b args vs+b6 b G.ls st:=λb=>by
       have e1:=HN (w:=w) (G:=G) b args vs 0 fn.ntmps Tc.symm (by omega)
       have e2:ga (λt=>cv b (cQ (pD sf args st).env t) (kz a0 t)) fn.ntmps<=ga (As b args vs 0) fn.ntmps:=AJ λt _=>by
        rw[hη]
        simp only[As,Nat.zero_le,if_true,Nat.sub_zero]
        split
        ·simp[cv]
        ·cases hv0:args[t]? with
         |none=>simp[cv]
         |some v0=>
          have bn:t<vs.length:=by rw[Tc];exact(List.getElem?_eq_some_iff.1 hv0).1
          have hu:=List.getElem?_eq_getElem bn
          rw[acQ t _ hu,hu]
          exact Nat.le_refl _
       have e3:=B8 b sf.aP
       unfold gi sX
       show ga (λt=>cv b (cQ (pD sf args st).env t) (kz a0 t)) fn.ntmps+fM b (List.replicate sf.aP ⟨none,[]⟩) (List.replicate sf.aP [])+b6 b G.ls st<=_
       omega
      have h0:∀b,gi (List.replicate sf.aP ⟨none,[]⟩) a0 (pD sf args st) G fn.ntmps b<=1:=λb=>Nat.le_trans (Yc b) (h1 b)
      refine qS hO hL hP sf.body code _ s x w G _ a0 _ B9 hFT h0 acP λw' G' gf a' hp=>?_
      obtain⟨sr,g1,g2,g3⟩:=hp
      have acR:cZ (sf.mode.wC st.length wl) (sf.mode.pC st.length aa) st s.st:=jr hK acP
      have kJ:wB sr sf.results=some v1->s.st=sr.st->a'.defers=[]/\∃u,(results fn a'.tmps).run P w'=.ok u w'/\∃u' G',(Ending.returned u)=.returned u'/\aO w' G' v u'/\iH w' G' bS/\
        Mv w G (λb=>bV b args vs+b6 b G.ls st) w' G' (λb=>fj b v u'+b6 b G'.ls bS):=by
       intro XH fh
       obtain⟨u,r1,r2,r3⟩:=Ut g1 Uu hnt Te XH
       have hMv:Mv w G (λb=>bV b args vs+b6 b G.ls st) w' G' (λb=>fj b v1 u+b6 b G'.ls s.st):=by
        rw[fh]
        have g3:=g2.PM r3
        exact g3.Pj Yc (λb hb=>Nat.le_trans (g3.fj b hb) (Yc b)) g3.one
       have ahE:iH w' G' s.st:=by rw[fh];exact g1.inv
       obtain⟨G2,c1,c2,c3⟩:=Yb hI acR hc r2 ahE hMv
       exact⟨g1.Hv,u,r1,u,G2,rfl,c1,c2,c3⟩
      cases x with
      |normal=>
       simp only at g3
       subst g3
       exact kJ M8 rfl
      |exit id=>cases M8
      |ret v2=>
       cases M8
       exact kJ g3.1 g3.2
     ·cases hc
    ·cases hc
   ·cases hc
  ·cases hm
 ·cases hm
theorem Ca{sf:aD}{args:List AV}{st bS:aj}{v:AV}(h:de O wl aa sf args st=some (v,bS))(hm:sf.mode=.pure):v.an=true/\bS=st:=by
 unfold de at h
 split at h
 ·split at h
  ·split at h
   ·rw[hm]at h
    simp only[Mode.kJ]at h
    split at h
    ·rename_i hp;cases h;exact⟨hp,rfl⟩
    ·cases h
   ·cases h
  ·cases h
 ·cases h
theorem xH(hT:HM S P)(hO:js S P O)(hL:u0 S P O)(hP:zM S O)(hK:pN O){f:Nat}{sf:aD}(hf:S f=some sf){args:List AV}{st bS:aj}{v:AV}(hc:dZ O wl aa sf args st=some (v,bS)) :
  M3 P sf.fV/\(f<100000->sf.fV=f)/\
  ∀(w:World) (G:aM) (vs:List Value),cj w G args vs->iH w G st->(∀b,bV b args vs+b6 b G.ls st<=1)->
   Calls P sf.fV vs.toArray w λe w'=>∃u G',e=.returned u/\aO w' G' v u/\iH w' G' bS/\
    Mv w G (λb=>bV b args vs+b6 b G.ls st) w' G' (λb=>fj b v u+b6 b G'.ls bS):=by
 unfold dZ at hc
 split at hc
 ·rename_i Jl
  simp only[qn,Bool.and_eq_true,decide_eq_true_eq]at Jl
  obtain⟨hm,hpa⟩:=Jl
  simp only[Option.map_eq_some_iff]at hc
  obtain⟨⟨v0,st0⟩,yH,hx⟩:=hc
  cases hx
  obtain⟨Hf,rfl⟩:=Ca yH hm
  obtain⟨h1,h2,h3⟩:=HO hT hO hL hP hK hf yH
  refine⟨h1,h2,λw G vs hR hI kW=>?_⟩
  have Yd:∀(i:Nat) c,args[i]?=some c->c.under 0=true:=λi c hc=>iB 0 c ((fS args).1 hpa c (cU hc))
  have hI0:iH w (G.cut 0) []:=by
   have:=hI.BR (n:=0) λid ob h=>by omega
   simpa using this
  have Uv:∀b,b6 b (G.cut 0).ls []=0:=λb=>by simp[b6]
  refine(h3 w (G.cut 0) vs ⟨hR.1,λi c v e1 e2=>(hR.2 i c v e1 e2).BR (Yd i c e1)⟩ hI0 λb=>by rw[Uv b];have:=kW b;omega).mono λe w' he=>?_
  obtain⟨u,G',rfl,r1,r2,r3⟩:=he
  have qQ:∀b,b6 b G'.ls []=0:=λb=>by simp[b6]
  have hS:qq w G w' ⟨G.ls,G'.kR⟩:=⟨λb o hi=>r3.iR.ON b o hi,λid loc hl=>⟨loc,hl,Nat.le_refl _,λ_=>rfl⟩⟩
  have B7:∀b,b<w.heap.size->bV b args vs=0->dL w G w' ⟨G.ls,G'.kR⟩ b:=λb hb h0=>by
   have:=r3.tQ b hb (by rw[h0,Uv b])
   exact this
  have hIs:iH w' ⟨G.ls,G'.kR⟩ st:=tT hI hS rfl (λb hb=>B7 b (hI.held hb) (by have:=kW b;omega)) r2.lF
  have dy:aO w' ⟨G.ls,G'.kR⟩ v0 u:=by
   have h0:=r1.BR (n:=0) (iB 0 v0 Hf)
   exact h0.iR ⟨λb o hi=>⟨rfl,hi⟩,λid loc hl=>by simp[aM.cut]at hl⟩ λb _=>⟨rfl,rfl⟩
  refine⟨u,⟨G.ls,G'.kR⟩,rfl,dy,hIs,hS,λb hb=>?_,λb=>?_,λb hb h0=>B7 b hb (by omega),r3.size,r3.os,r3.out⟩
  ·have:=r3.fj b hb
   rw[qQ b,Uv b]at this
   show fj b v0 u+b6 b G.ls st<=_
   omega
  ·have h4:=r3.one b
   rw[qQ b]at h4
   show fj b v0 u+b6 b G.ls st<=1
   by_cases hb:b<w.heap.size
   ·have h5:=r3.fj b hb
    rw[qQ b,Uv b]at h5
    have:=kW b
    omega
   ·have:b6 b G.ls st=0:=by
     rcases Nat.eq_zero_or_pos (b6 b G.ls st) with h|h
     ·exact h
     ·exact absurd (hI.held h) hb
    omega
 ·exact HO hT hO hL hP hK hf hc
theorem Ed(hT:HM S P):∀n,js S P (n8 S n)/\u0 S P (n8 S n)
 |0=>⟨λwl aa f args st v bS h=>by simp[n8]at h,λwl aa rs c s x s' h=>by simp[n8]at h⟩
 |n+1=>by
  obtain⟨i1,i2⟩:=Ed hT n
  refine⟨λwl aa f args st v bS h=>?_,λwl aa rs c s x s' h code m hm w G β a hs h1 Q hQ=>?_⟩
  ·simp only[n8]at h
   split at h
   ·rename_i sf hsf
    exact⟨sf,hsf,xH hT i1 i2 (HD S n) (D4 S n) hsf h⟩
   ·cases h
  ·simp only[n8]at h
   refine HI ?_
   cases hc:gO (n8 S n) wl aa rs c s with
   |none=>rw[hc]at h;cases h
   |some y=>
    obtain⟨x1,s1⟩:=y
    rw[hc]at h
    refine qS i1 i2 (HD S n) c code s s1 x1 w G β a _ hm hs h1 hc λw' G' gf a' hp=>?_
    cases x1 with
    |normal=>
     obtain⟨sr,g1,g2,g3⟩:=hp
     simp only at g3
     subst g3
     exact i2 wl aa rs c s1 x s' h code m hm w' G' gf a' g1 g2.one Q λw2 G2 Pp a2 hp2=>hQ w2 G2 Pp a2 (hp2.trans g2)
    |exit id=>cases h;exact hQ w' G' gf a' hp
    |ret v=>cases h;exact hQ w' G' gf a' hp
end Ax
namespace Ax
open Go
variable {P:Program}{w w':World}{G G':aM}
def AO(P:Program)(ts:List TypeId):Bool:=ts.all λt=>decide (t<P.types.size)&&match P.underlying t with
 |some .bool|some (.int _)|some .string=>true
 |some (.slice e)=>ts.contains e&&decide (0<P.cellsOf e)
 |some (.struct fs)=>fs.toList.all λf=>ts.contains f.type
 |_=>false
mutual
inductive Ty (P:Program):TypeId->List AV->Prop
 |bool {t:TypeId} (h:P.underlying t=some .bool) (b:Bool):Ty P t [.bool b]
 |int {t:TypeId} {k:IntKind} (h:P.underlying t=some (.int k)) (n:Int) (h1:k.min<=n) (h2:n<=k.max):Ty P t [.int k n]
 |str {t:TypeId} (h:P.underlying t=some .string) (l:List UInt8) (hn:l.length<=maxLen):Ty P t [.str l]
 |U {t e:TypeId} (h:P.underlying t=some (.slice e)):Ty P t [.U]
 |kV {t e:TypeId} (h:P.underlying t=some (.slice e)):Ty P t [.kV]
 |dj {t e:TypeId} (h:P.underlying t=some (.slice e)) (rows:List (List AV)) (hn:rows.length<=maxLen) (hl:∀r∈rows,r.length=P.cellsOf e) (h2:∀r∈rows,Ty P e r):Ty P t [.dj (P.cellsOf e) rows]
 |acS {t:TypeId} {fs:Array Field} (h:P.underlying t=some (.struct fs)) (as:List AV) (h2:PT P fs.toList as):Ty P t as
inductive PT (P:Program):List Field->List AV->Prop
 |nil:PT P [] []
 |cons {f:Field} {fs:List Field} {as bs:List AV} (hl:as.length=P.cellsOf f.type) (h1:Ty P f.type as) (h2:PT P fs bs):PT P (f::fs) (as++bs)
end
abbrev G0:aM:=⟨[],λ_=>none⟩
def we(as:List AV):Prop:=AV.dH as=true/\AV.ah as=true/\AV.aK as=true
theorem oV{a:AV}(h1:a.bZ=true)(h2:a.an=true)(h3:a.cH=true):we [a]:=by
 refine⟨?_,?_,?_⟩<;>simp[AV.dH,AV.ah,AV.aK,h1,h2,h3]
theorem Fq{as bs:List AV}(h:we as)(k:we bs):we (as++bs):=by
 obtain⟨h1,h2,h3⟩:=h
 obtain⟨k1,k2,k3⟩:=k
 refine⟨(cy _).2 λc hc=>?_,(fS _).2 λc hc=>?_,?_⟩
 ·rcases List.mem_append.1 hc with h|h
  ·exact(cy _).1 h1 c h
  ·exact(cy _).1 k1 c h
 ·rcases List.mem_append.1 hc with h|h
  ·exact(fS _).1 h2 c h
  ·exact(fS _).1 k2 c h
 ·simp only[AV.aK,List.all_append,Bool.and_eq_true]at *
  exact⟨h3,k3⟩
theorem rC{a:AV}{v:Value}(h:aO w G a v):cj w G [a] [v]:=⟨rfl,λi c u h1 h2=>by
 cases i with
 |zero=>simp at h1 h2;subst h1;subst h2;exact h
 |succ i=>simp at h1⟩
theorem Uw{b o:Nat}(h:b<w.heap.size):Imm w G0 b o:=⟨h,λp hp=>by cases hp⟩
section
variable {H:Type}{enc:TypeId×Value->H}{ts:List TypeId}
theorem Ee{cs:List Value}:∀(fs:List Field)(o:Nat),(∀(j:Nat) f,fs[j]?=some f->f.offset=o+((fs.take j).map λf=>P.cellsOf f.type).sum)->cs.length=o+(fs.map λf=>P.cellsOf f.type).sum->
  (∀f∈fs,∃as,cj w G0 as ((cs.drop f.offset).take (P.cellsOf f.type))/\Ty P f.type as/\we as)->∃as,cj w G0 as (cs.drop o)/\PT P fs as/\we as
 |[],o,_,hl,_=>by
  simp at hl
  have:cs.drop o=[]:=List.drop_eq_nil_of_le (by omega)
  rw[this]
  exact⟨[],⟨rfl,λi c v h=>by simp at h⟩,.nil,rfl,rfl,rfl⟩
 |f::fs,o,ho,hl,hf=>by
  have e0:f.offset=o:=by have:=ho 0 f rfl;simpa using this
  simp only[List.map_cons,List.sum_cons]at hl
  obtain⟨bs,h1,h2,h3⟩:=Ee fs (o+P.cellsOf f.type) (λj g hg=>by
   have:=ho (j+1) g (by simpa using hg)
   simp only[List.take_succ_cons,List.map_cons,List.sum_cons]at this
   omega) (by omega) (λg hg=>hf g (by simp[hg]))
  obtain⟨as,k1,k2,k3⟩:=hf f (by simp)
  rw[e0]at k1
  have hlen:as.length=P.cellsOf f.type:=by
   rw[k1.1,List.length_take,List.length_drop];omega
  refine⟨as++bs,?_,.cons hlen k2 h2,Fq k3 h3⟩
  have:cs.drop o=(cs.drop o).take (P.cellsOf f.type)++cs.drop (o+P.cellsOf f.type):=by
   rw[<-List.drop_drop,List.take_append_drop]
  rw[this]
  exact cj.append k1 h1
theorem Ux(hK:Kids P (· < P.types.size))(hp:AO P ts=true):∀(n:Nat)(t:TypeId)(cs:List Value)(x:DataW H×List MemPlace),t∈ts->DataW.trod enc P w 0 (λ_=>true) true n t cs=some x->
  ∃as,cj w G0 as cs/\Ty P t as/\we as:=by
 intro n
 induction n with
 |zero=>intro t cs x _ h;simp[DataW.trod]at h
 |succ n ih=>
  intro t cs x ht h
  have J9:=List.all_eq_true.1 hp t ht
  simp only[Bool.and_eq_true,decide_eq_true_eq]at J9
  obtain⟨bn,J9⟩:=J9
  split at J9
  ·rename_i hu
   obtain⟨b,rfl,rfl⟩:=DataW.trod_bool hu h
   exact⟨[.bool b],rC (.bool b),.bool hu b,oV rfl rfl rfl⟩
  ·rename_i k hu
   obtain⟨m,rfl,rfl,hw⟩:=DataW.trod_int hu h
   simp only[Lit.wf,Bool.and_eq_true,decide_eq_true_eq]at hw
   exact⟨[.int k m],rC (.int k m),.int hu m hw.1 hw.2,oV rfl rfl rfl⟩
  ·rename_i hu
   obtain⟨s,rfl,rfl,dV⟩:=DataW.trod_string hu h
   exact⟨[.str s.data.toList],rC (.str _ s rfl),.str hu _ (by simpa using dV),oV rfl rfl rfl⟩
  ·rename_i e hu
   simp only[Bool.and_eq_true,List.contains_eq_mem,decide_eq_true_eq]at J9
   obtain⟨he,eH⟩:=J9
   rcases DataW.trod_slice hu h with⟨rfl,rfl⟩|⟨a,len,cap,elems,rest,m,hm,rfl,rfl,_,hlc,hcm,rN,acT,Pe,_⟩
   ·exact⟨[.U],rC .U,.U hu,oV rfl rfl rfl⟩
   ·cases hm
    by_cases fo:cap=0
    ·subst fo
     have:len=0:=by omega
     subst this
     exact⟨[.kV],rC (.kV a),.kV hu,oV rfl rfl rfl⟩
    ·have dg:∀i,i<cap->∃PU y,w.cells? 0 (a.add (i*P.cellsOf e)) (P.cellsOf e)=some PU/\DataW.trod enc P w 0 (λ_=>true) true n e PU=some y:=by
      intro i hi
      by_cases Nb:i<len
      ·have h1:=acT i Nb
       have h2:∃y,elems[i]?=some y:=⟨_,List.getElem?_eq_getElem (by omega)⟩
       obtain⟨y,hy⟩:=h2
       rw[hy,Option.bind_eq_some_iff]at h1
       obtain⟨PU,e1,e2⟩:=h1
       exact⟨PU,y,e1,e2⟩
      ·obtain⟨rU,hr⟩:=Pe rfl
       have h1:=hr (i-len) (by omega)
       rw[show len+(i-len)=i by omega]at h1
       have h2:∃y,rest[i-len]?=some y:=⟨_,List.getElem?_eq_getElem (by omega)⟩
       obtain⟨y,hy⟩:=h2
       rw[hy,Option.bind_eq_some_iff]at h1
       obtain⟨PU,e1,e2⟩:=h1
       exact⟨PU,y,e1,e2⟩
     have WI:a.spot=none:=by
      obtain⟨PU,y,e1,_⟩:=dg 0 (by omega)
      obtain⟨_,g2,g3⟩:=World.cells?_some e1
      have h0:=g3 0 eH
      have:∃v,PU[0]?=some v:=⟨_,List.getElem?_eq_getElem (by omega)⟩
      obtain⟨v,hv⟩:=this
      rw[hv]at h0
      have:=World.cell?_spot h0
      simpa [Addr.add] using this
     obtain⟨jl,off,spot⟩:=a
     simp only at WI
     subst WI
     have MN:∀off k,Addr.add ⟨jl,off,none⟩ k=⟨jl,off+k,none⟩:=λoff k=>by
      unfold Addr.add
      split
      ·rename_i h0;subst h0;rfl
      ·rfl
     have xu:∀i,i<len->∃r,(r.length=P.cellsOf e/\Ty P e r/\we r)/\∀(j:Nat) c,r[j]?=some c->∃v,w.cell? ⟨jl,off+(i*P.cellsOf e+j),none⟩=some v/\aO w G0 c v:=by
      intro i hi
      obtain⟨PU,y,e1,e2⟩:=dg i (by omega)
      obtain⟨_,g2,g3⟩:=World.cells?_some e1
      obtain⟨r,r1,r2,r3⟩:=ih e PU y he e2
      have rU:r.length=P.cellsOf e:=by rw[r1.1,g2]
      refine⟨r,⟨rU,r2,r3⟩,λj c hc=>?_⟩
      have hj:j<P.cellsOf e:=by rw[<-rU];exact(List.getElem?_eq_some_iff.1 hc).1
      have h0:=g3 j hj
      have hv:∃v,PU[j]?=some v:=⟨_,List.getElem?_eq_getElem (by omega)⟩
      obtain⟨v,hv⟩:=hv
      rw[hv,MN,MN]at h0
      refine⟨v,by rw[<-h0];congr 2;omega,r1.2 j c v hc hv⟩
     have key:∀m,m<=len->∃rows:List (List AV),rows.length=m/\∀(i:Nat) r,rows[i]?=some r->(r.length=P.cellsOf e/\Ty P e r/\we r)/\∀(j:Nat) c,r[j]?=some c->∃v,w.cell? ⟨jl,off+(i*P.cellsOf e+j),none⟩=some v/\aO w G0 c v:=by
      intro m
      induction m with
      |zero=>intro _;exact⟨[],rfl,λi r h=>by simp at h⟩
      |succ m ihm=>
       intro hm
       obtain⟨rows,l1,l2⟩:=ihm (by omega)
       obtain⟨r,hr⟩:=xu m (by omega)
       refine⟨rows++[r],by simp[l1],λi r' hi=>?_⟩
       by_cases him:i<m
       ·rw[List.getElem?_append_left (by omega)]at hi
        exact l2 i r' hi
       ·rw[List.getElem?_append_right (by omega)]at hi
        have:i-rows.length=0:=by
         rcases Nat.eq_zero_or_pos (i-rows.length) with h|h
         ·exact h
         ·rw[List.getElem?_eq_none (by simp;omega)]at hi;cases hi
        rw[this]at hi
        simp at hi
        subst hi
        have:i=m:=by omega
        subst this
        exact hr
     obtain⟨rows,l1,l2⟩:=key len (Nat.le_refl _)
     have yF:∀r∈rows,r.length=P.cellsOf e/\Ty P e r/\we r:=λr hr=>by
      obtain⟨i,hi,rfl⟩:=List.mem_iff_getElem.1 hr
      exact(l2 i _ (List.getElem?_eq_getElem hi)).1
     have dy:aO w G0 (.dj (P.cellsOf e) rows) (.slice (some ⟨jl,off,none⟩) rows.length cap):=by
      refine .dj (P.cellsOf e) rows ⟨jl,off,none⟩ cap rfl (by omega) ?_ (λr hr=>(yF r hr).2.2.1) (λr hr=>(yF r hr).2.2.2.1) (λr hr=>(yF r hr).2.2.2.2) (λi r j c h1 h2=>?_) (λi r j c v h1 h2 h3=>?_)
      ·simp only[bU,List.all_eq_true,beq_iff_eq]
       exact λr hr=>(yF r hr).1
      ·obtain⟨v,e1,_⟩:=(l2 i r h1).2 j c h2
       exact⟨Uw (World.block_lt_of_cell? w ⟨jl,off+(i*P.cellsOf e+j),none⟩ e1:jl<w.heap.size),v,e1⟩
      ·obtain⟨v',e1,e2⟩:=(l2 i r h1).2 j c h2
       rw[e1]at h3;cases h3
       exact e2
     rw[l1]at dy
     exact⟨[.dj (P.cellsOf e) rows],rC dy,(.dj hu rows (by omega) (λr hr=>(yF r hr).1) (λr hr=>(yF r hr).2.1)),oV rfl rfl rfl⟩
  ·rename_i fs hu
   simp only[List.all_eq_true,List.contains_eq_mem,decide_eq_true_eq]at J9
   obtain⟨xs,m,hm,rfl,hl,hlen,hf⟩:=DataW.trod_struct hu h
   cases hm
   obtain⟨_,k2,k3⟩:=hK.struct bn hu
   obtain⟨as,h1,h2,h3⟩:=Ee (P:=P) (w:=w) (cs:=cs) fs.toList 0 (λj f hf=>by rw[k3 j f hf];omega) (by rw[hl,k2];omega) λf hfm=>by
    obtain⟨i,hi,rfl⟩:=List.mem_iff_getElem.1 hfm
    have hg:fs.toList[i]?=some fs.toList[i]:=List.getElem?_eq_getElem hi
    have h1:=hf i fs.toList[i] (by simp)
    have hy:∃y,xs[i]?=some y:=⟨_,List.getElem?_eq_getElem (by rw[hlen];simpa using hi)⟩
    obtain⟨y,hy⟩:=hy
    rw[hy]at h1
    exact ih _ _ y (J9 _ hfm) h1
   exact⟨as,by simpa using h1,.acS hu as h2,h3⟩
  ·cases J9
def Ye(P:Program)(t:TypeId)(a:AV):Prop:=(∃fs as,P.underlying t=some (.struct fs)/\a=.agg as/\Ty P t as)\/((∀fs,P.underlying t≠some (.struct fs))/\Ty P t [a])
def Uy(P:Program):List TypeId->List AV->Prop
 |[],[]=>True
 |t::ts,a::as=>Ye P t a/\Uy P ts as
 |_,_=>False
theorem PW(hK:Kids P (· < P.types.size))(hp:AO P ts=true){r:Reach}{base:Nat}{t:TypeId}{v:Value}{d:DataW H}{ps:List MemPlace}(ht:t∈ts)(cJ:Value.okWide P w r base t v)
  (h:DataW.Trod enc P w 0 (λ_=>true) true t v d ps):∃a,aO w G0 a v/\Ye P t a/\a.bZ=true:=by
 obtain⟨n,hn⟩:=h
 obtain⟨as,h1,h2,h3⟩:=Ux hK hp n t _ _ ht hn
 have one:v.cells = #[v]->(∀fs,P.underlying t≠some (.struct fs))->∃a,aO w G0 a v/\Ye P t a/\a.bZ=true:=by
  intro hc hs
  rw[hc]at h1
  obtain⟨e1,e2⟩:=h1
  match as,e1,e2,h2,h3 with
  |[a],_,e2,h2,h3=>exact⟨a,e2 0 a v rfl rfl,.inr ⟨hs,h2⟩,by have:=h3.1;simpa [AV.dH] using this⟩
 have J9:=List.all_eq_true.1 hp t ht
 simp only[Bool.and_eq_true,decide_eq_true_eq]at J9
 obtain⟨_,J9⟩:=J9
 split at J9
 ·rename_i hu
  obtain⟨b,rfl⟩:=WideShapes.okWide_bool hu cJ
  exact one rfl λfs h=>by rw[hu]at h;cases h
 ·rename_i k hu
  obtain⟨b,rfl⟩:=WideShapes.okWide_int hu cJ
  exact one rfl λfs h=>by rw[hu]at h;cases h
 ·rename_i hu
  obtain⟨b,rfl⟩:=WideShapes.okWide_string hu cJ
  exact one rfl λfs h=>by rw[hu]at h;cases h
 ·rename_i e hu
  obtain⟨a,l,c,rfl⟩:=WideShapes.okWide_slice hu cJ
  exact one rfl λfs h=>by rw[hu]at h;cases h
 ·rename_i fs hu
  obtain⟨cs,rfl,_⟩:=WideShapes.okWide_struct hu cJ
  refine⟨.agg as,.agg as cs (by simpa [Value.cells] using h1.1) λi c v e1 e2=>h1.2 i c v e1 (by simpa [Value.cells] using e2),.inl ⟨fs,as,hu,rfl,h2⟩,?_⟩
  simp only[AV.bZ];exact h3.1
 ·cases J9
theorem Ef(hK:Kids P (· < P.types.size))(hp:AO P ts=true){r:Reach}{base:Nat}:∀{us:List TypeId}{vs:List Value}{ds:List (DataW H)}{ps:List MemPlace},(∀t∈us,t∈ts)->
  (∀(j:Nat) t v,us[j]?=some t->vs[j]?=some v->Value.okWide P w r base t v)->DataW.TrodAll enc P w 0 (λ_=>true) true us vs ds ps->∃as,cj w G0 as vs/\Uy P us as/\AV.dH as=true
 |[],[],[],_,_,_,_=>⟨[],⟨rfl,λi c v h=>by simp at h⟩,trivial,rfl⟩
 |t::us,v::vs,d::ds,ps,hu,hv,h=>by
  obtain⟨p,q,h1,h2,rfl⟩:=h
  obtain⟨a,a1,a2,a3⟩:=PW hK hp (hu t (by simp)) (hv 0 t v rfl rfl) h1
  obtain⟨as,b1,b2,b3⟩:=Ef hK hp (λt ht=>hu t (by simp[ht])) (λj t v e1 e2=>hv (j+1) t v (by simpa using e1) (by simpa using e2)) h2
  exact⟨a::as,cj.cons a1 b1,⟨a2,b2⟩,by simp[AV.dH,a3,b3]⟩
 |[],_::_,_,_,_,_,h=>h.elim
 |[],[],_::_,_,_,_,h=>h.elim
 |_::_,[],_,_,_,_,h=>h.elim
 |_::_,_::_,[],_,_,_,h=>h.elim
theorem wg(hK:Kids P (· < P.types.size))(hz:∀t e,t<P.types.size->P.underlying t=some (.slice e)->0<P.cellsOf e){sp:Nat->Bool}(PX:∀b,b<w.heap.size->w'.heap[b]?=w.heap[b]?):∀{us:List TypeId}{vs:List Value}{ds:List (DataW H)}{ps:List MemPlace},(∀t∈us,t<P.types.size)->
  DataW.TrodAll enc P w 0 (λ_=>true) true us vs ds ps->(∀p∈ps,sp p.block=true)->DataW.TrodAll enc P w' 0 sp true us vs ds ps
 |[],[],[],_,_,h,_=>h
 |t::us,v::vs,d::ds,ps,hu,h,hs=>by
  obtain⟨p,q,⟨n,h1⟩,h2,rfl⟩:=h
  refine⟨p,q,⟨n,DataW.trod_stays hK (fun {t e}=>hz t e) (λh=>by cases h) (hu t (by simp)) h1 (λx hx=>?_) λx hx=>hs x (by simp[hx])⟩,wg hK hz PX (λt ht=>hu t (by simp[ht])) h2 (λx hx=>hs x (by simp[hx])),rfl⟩
  have bn:=DataW.trod_lt n t _ _ h1 x hx
  cases x with
  |cell b off=>simp only[World.sameAt,World.cell?,PX b bn]
  |map b=>exact PX b bn
 |[],_::_,_,_,_,h,_=>h.elim
 |[],[],_::_,_,_,h,_=>h.elim
 |_::_,[],_,_,_,h,_=>h.elim
 |_::_,_::_,[],_,_,h,_=>h.elim
theorem PY(w:World):iH w G0 []:=⟨rfl,λid ob loc h=>by simp at h,λb p h=>by cases h⟩
theorem Fs{may:MemPlace->Prop}(h1:w'.os=w.os)(h2:w'.output=w.output)(h3:∀b,b<w.heap.size->w'.heap[b]?=w.heap[b]?):w.keptBut w' may:=by
 refine⟨h1,h2,λi hi=>?_⟩
 rw[h3 i hi]
 have:=Array.getElem?_eq_getElem hi
 rw[this]
 cases w.heap[i] with
 |cells c t fr=>exact⟨rfl,rfl,rfl,λ_ _=>rfl⟩
 |map es clock=>exact .inr ⟨rfl,rfl⟩
 |_=>rfl
theorem HP(_hsz:w.heap.size<=w'.heap.size)(h3:∀b,b<w.heap.size->w'.heap[b]?=w.heap[b]?)(a:Addr)(ha:a.block<w.heap.size):w'.frozen? a=w.frozen? a:=by
 simp only[World.frozen?,h3 a.block ha]
end
end Ax
namespace Ax
open Go Go.ChangeShapes
variable {P:Program}{w w':World}{G G':aM}{H:Type}{enc:TypeId×Value->H}
theorem PZ{f:Func}{s:ChangeSpec}{j4 fresh handsOn ud:Bool}{W W':World}{args:Array Value}{ds gs:List (DataW H)}{before:List MemPlace}{tb:TypeId}
  (hK:Kids P (· < P.types.size))(hz:∀t e,t<P.types.size->P.underlying t=some (.slice e)->0<P.cellsOf e)(Nc:∀t∈f.params.toList,t<P.types.size)
  (hW:DataW.Whole enc P f.params.toList s.vars j4 W args.toList ds gs before) (hv:s.vars=[]) (DD:f.resultTypes = #[tb]) (htb:P.underlying tb=some .bool)
  (hr:(s.fn H ds).results=[.lit (.bool true)]) (ha:(s.fn H ds).args=ds) (Dn:(s.fn H ds).vars=[])
  (h1:W'.os=W.os) (h2:W'.output=W.output) (h4:W.heap.size<=W'.heap.size) (h3:∀b,b<W.heap.size->W'.heap[b]?=W.heap[b]?) :
  s.post enc P f j4 fresh handsOn ud W args (.bool true) W':=by
 have hW':=hW
 obtain⟨p,q,hA,hV,rfl,Ak,hn⟩:=hW'
 rw[hv]at hV
 cases gs with
 |cons _ _=>exact hV.elim
 |nil=>
  have hq:q=[]:=hV
  subst hq
  simp only[List.append_nil]at hW Ak hn
  have fh:∀sp:Nat->Bool,(∀x∈p,sp x.block=true)->DataW.TrodAll enc P W' 0 sp true f.params.toList args.toList ds p:=λsp oG=>wg hK hz h3 Nc hA oG
  have hfr:∀x∈p,x.block<W.heap.size:=DataW.TrodAll.lt hA
  have hold:∀x∈p,(λb=>decide (b<W.heap.size)) x.block=true:=λx hx=>by simpa using hfr x hx
  have rU:(Value.bool true).resultList f.resultTypes.size=[.bool true]:=by rw[DD];rfl
  have Uu:∀(b:Nat) (sp:Nat->Bool) (hd:Bool),DataW.TrodAll enc P W' b sp hd f.resultTypes.toList ((Value.bool true).resultList f.resultTypes.size) (s.fn H (ds++[])).results []:=λb sp hd=>by
   rw[List.append_nil,hr,rU,DD]
   exact⟨[],[],⟨1,by simp[DataW.trod,htb,Value.cells]⟩,rfl,rfl⟩
  refine⟨ds,[],p,[],p,[],hW,Uu _ _ _,by rw[List.append_nil,ha];exact fh _ hold,by rw[hv,List.append_nil,Dn];rfl,Fs h1 h2 h3,λ_=>?_⟩
  refine⟨λj t r e1 e2=>?_,[DataW.lit (.bool true)]++ds,[],p,⟨p,[],?_,(by rw[hv];exact(rfl:DataW.TrodVars enc P W' (λ_=>true) [] [] [])),by simp,?_,?_⟩,?_⟩
  ·rw[DD]at e1
   rw[rU]at e2
   cases j with
   |zero=>
    simp at e1 e2
    subst e1;subst e2
    exact RowKit.okWide_bool_mk htb true
   |succ j=>simp at e1
  ·have:=trodAll_append (fh _ (λ_ _=>rfl)) (Uu 0 (λ_=>true) true)
   simpa [hr] using this
  ·intro b off hp
   rw[HP h4 h3 _ (hfr _ hp)]
   exact Ak b off hp
  ·exact hn
  ·intro x hx _;exact hx
theorem Ka{S:Nat->Option aD}(hT:HM S P):js S P (bg S):=λwl aa f args st v bS h=>by
 obtain⟨n,hn⟩:=(q9 S).call _ _ _ _ _ _ h
 exact(Ed hT n).1 wl aa f args st v bS hn
theorem Nd{S:Nat->Option aD}(hT:HM S P){f:FuncId}(hf:f<100000){as:List AV}{bS:aj}(hc:(bg S).call 0 0 f as []=some (.bool true,bS)){W:World}{args:Array Value}(hR:cj W G0 as args.toList)(iP:AV.dH as=true) :
  Calls P f args W λe W'=>e=.returned (.bool true)/\W'.os=W.os/\W'.output=W.output/\W.heap.size<=W'.heap.size/\∀b,b<W.heap.size->W'.heap[b]?=W.heap[b]?:=by
 obtain⟨sf,h1,h2,h3,h4⟩:=Ka hT _ _ _ _ _ _ _ hc
 have hz:∀b,bV b as args.toList+b6 b G0.ls []=0:=λb=>by rw[dn b _ _ iP];simp[b6]
 have:=h4 W G0 args.toList hR (PY W) (λb=>by rw[hz b];omega)
 rw[h3 hf]at this
 refine this.mono λe W' h=>?_
 obtain⟨u,G',rfl,r1,r2,r3⟩:=h
 refine⟨by rw[aO.jm r1],r3.os,r3.out,r3.size,λb hb=>(r3.tQ b hb (hz b)).2⟩
structure acU (S:Nat->Option aD)(C:Checked)(ts:List TypeId):Prop where
 je:ownKnob C.prog.godebug=none
 tab:HM S C.prog
 az:Kids C.prog (· < C.prog.types.size)
 ahH:∀t e,t<C.prog.types.size->C.prog.underlying t=some (.slice e)->0<C.prog.cellsOf e
 plain:AO C.prog ts=true
theorem law_lifted{S:Nat->Option aD}{C:Checked}{ts:List TypeId}(hh:acU S C ts){os:Os}(started:os.Started){f:FuncId}{fn:Func}{s:ChangeSpec}{conds:List PathCond}{j4 fresh handsOn ud:Bool}{tb:TypeId}
  (Yf:C.prog.inits.idxOf? f=none)(J8:C.prog.funcs[f]?=some fn)(hf:f<100000)
  (witness:∃(w:World) (tape:Tape) (i:Input),w.os=os/\(w.forCall tape i).Shaped C.prog/\i.vars=[]/\Input.okWide C.prog (w.forCall tape i) .any w.heap.size f i/\
   s.pre6 enc C.prog fn conds j4 (w.forCall tape i).memory i.args/\({}:Assume).holds C.prog (lone (Frame.enter C.prog f i.args .normal) [] (w.forCall tape i)))
  (Nc:(fn.params.toList.all λt=>ts.contains t&&decide (t<C.prog.types.size))=true) (hv:s.vars=[]) (DD:fn.resultTypes = #[tb]) (htb:C.prog.underlying tb=some .bool)
  (acV:∀ds:List (DataW H),ds.length=fn.params.toList.length->(s.fn H ds).results=[.lit (.bool true)]/\(s.fn H ds).args=ds/\(s.fn H ds).vars=[])
  (dF:∀as,Uy C.prog fn.params.toList as->∃bS,(bg S).call 0 0 f as []=some (.bool true,bS)) :
  ReturnsInHanded {} C os f .any (s.pre6 enc C.prog fn conds j4) (s.post enc C.prog fn j4 fresh handsOn ud):=by
 refine returnsInHanded_of_change hh.je started Yf J8 witness ?_
 intro W base args ds gs before cJ hW _ _
 have hp:∀t∈fn.params.toList,t∈ts/\t<C.prog.types.size:=λt ht=>by
  have:=List.all_eq_true.1 Nc t ht
  simpa using this
 obtain⟨p,q,hA,hV,hb,_,_⟩:=id hW
 obtain⟨as,a1,a2,a3⟩:=Ef hh.az hh.plain (λt ht=>(hp t ht).1) (λj t v e1 e2=>cJ j t v (by simpa using e1) (by simpa using e2)) hA
 obtain⟨bS,hc⟩:=dF as a2
 have hlen:∀(us:List TypeId) (vs:List Value) (ds:List (DataW H)) (p:List MemPlace),DataW.TrodAll enc C.prog W 0 (λ_=>true) true us vs ds p->ds.length=us.length:=by
  intro us
  induction us with
  |nil=>intro vs ds p h;cases vs with
   |nil=>cases ds with
    |nil=>rfl
    |cons _ _=>exact h.elim
   |cons _ _=>cases ds<;>exact h.elim
  |cons t us ih=>intro vs ds p h;cases vs with
   |nil=>cases ds<;>exact h.elim
   |cons v vs=>cases ds with
    |nil=>exact h.elim
    |cons d ds=>
     obtain⟨_,_,_,h2,_⟩:=h
     simp[ih vs ds _ h2]
 obtain⟨s1,s2,s3⟩:=acV ds (hlen _ _ _ _ hA)
 refine(Nd hh.tab hf hc a1 a3).mono λe W' h=>?_
 obtain⟨rfl,h1,h2,h3,h4⟩:=h
 exact⟨_,rfl,PZ hh.az hh.ahH (λt ht=>(hp t ht).2) hW hv DD htb s1 s2 s3 h1 h2 h3 h4⟩
end Ax
namespace Ax
open Go
def u7(S:Nat->Option aD)(P:Program):Nat->List (Option aD)->Bool
 |_,[]=>true
 |k,none::l=>u7 S P (k+1) l
 |k,some sf::l=>LN S P sf&&(decide (100000<=k)||sf.fV==k)&&u7 S P (k+1) l
theorem sw{S:Nat->Option aD}{P:Program}:∀{l:List (Option aD)}{k:Nat},u7 S P k l=true->∀(i:Nat) sf,l[i]?=some (some sf)->LN S P sf=true/\(k+i<100000->sf.fV=k+i)
 |[],_,_,i,sf,h=>by simp at h
 |none::l,k,h,i,sf,hi=>by
  cases i with
  |zero=>simp at hi
  |succ i=>
   have:=sw (l:=l) (k:=k+1) h i sf (by simpa using hi)
   rw[show k+1+i=k+(i+1) by omega]at this
   exact this
 |some s::l,k,h,i,sf,hi=>by
  simp only[u7,Bool.and_eq_true,Bool.or_eq_true,decide_eq_true_eq,beq_iff_eq]at h
  obtain⟨⟨h1,h2⟩,h3⟩:=h
  cases i with
  |zero=>
   simp at hi
   subst hi
   exact⟨h1,λhk=>by omega⟩
  |succ i=>
   have:=sw (l:=l) (k:=k+1) h3 i sf (by simpa using hi)
   rw[show k+1+i=k+(i+1) by omega]at this
   exact this
theorem Uz{Tr EY:List (Option aD)}{P:Program}(h1:u7 (OM Tr EY) P 0 Tr=true)(h2:u7 (OM Tr EY) P 100000 EY=true):HM (OM Tr EY) P:=by
 intro f sf hf
 unfold OM at hf
 split at hf
 ·cases hg:Tr[f]? with
  |none=>rw[hg]at hf;cases hf
  |some x=>
   rw[hg]at hf
   simp only[Option.getD_some]at hf
   subst hf
   have:=sw h1 f sf hg
   exact⟨this.1,λh=>by have:=this.2 (by omega);omega⟩
 ·rename_i bn
  cases hg:EY[f-100000]? with
  |none=>rw[hg]at hf;cases hf
  |some x=>
   rw[hg]at hf
   simp only[Option.getD_some]at hf
   subst hf
   have:=sw h2 (f-100000) sf hg
   exact⟨this.1,λh=>absurd h bn⟩
end Ax
