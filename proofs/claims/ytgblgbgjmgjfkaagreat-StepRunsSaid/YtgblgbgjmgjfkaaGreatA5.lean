/- The library of this proof, part 5: an abstract interpreter of the loaded code, and its soundness. -/
import Derived.Test.YtgblgbgjmgjfkaaGreatA4
import Derived.Scope
import Derived.ChangeStays
import Derived.ChangeSame
import Derived.ChangeOld
import Derived.ChangeArms
import Derived.JoinedOf
import Derived.RowKit3
import Derived.ReadAgain
import Derived.Handed

namespace Ax
open Go
variable {S:Nat->Option SFunc}{P:Program}{O:Orc}{wl lim:Nat}
theorem evalRec_get:∀{m:List SOper}{s e:St}{sts:List St},evalRec O wl lim m s=some (e,sts)->
  sts.length=m.length+1/\sts[0]?=some s/\sts[m.length]?=some e/\∀(i:Nat) so,m[i]?=some so->∃x y,sts[i]?=some x/\sts[i+1]?=some y/\evalOp O wl lim so x=some y
 |[],s,e,sts,h=>by
  simp only[evalRec,Option.some.injEq,Prod.mk.injEq]at h
  obtain⟨rfl,rfl⟩:=h
  exact⟨rfl,rfl,rfl,fun i so h=>by simp at h⟩
 |o::m,s,e,sts,h=>by
  simp only[evalRec]at h
  split at h
  ·rename_i s1 hs1
   split at h
   ·rename_i e' l' hr
    cases h
    obtain⟨h1,h2,h3,h4⟩:=evalRec_get hr
    refine⟨by simp[h1],rfl,by simpa using h3,fun i so hi=>?_⟩
    cases i with
    |zero=>simp at hi;subst hi;exact⟨s,s1,rfl,by simpa using h2,hs1⟩
    |succ i=>
     obtain⟨x,y,a1,a2,a3⟩:=h4 i so (by simpa using hi)
     exact⟨x,y,by simpa using a1,by simpa using a2,a3⟩
   ·cases h
  ·cases h
structure OneS (S:Nat->Option SFunc)(O:Orc)(wl lim:Nat)(so:SOper)(s t:St):Prop where
 far:∀u,u ∉ touch so->getE t.env u=getE s.env u
 bfar:∀b,so.op.bW≠some b->t.bx[b]?=s.bx[b]?
 blen:t.bx.length=s.bx.length
 sfar:so.op.isW S=false->t.st=s.st
 non:wantedE s.env so.guard=some false->getE t.env=putH (getE s.env) so.dst (.val .undef)/\t.bx=s.bx/\t.st=s.st
 yes:wantedE s.env so.guard=some true->∃e,act O wl lim so.op (so.args.map (rdE s.env)) s.st s.bx=some (e,t.st,t.bx)/\getE t.env=putH (killH (getE s.env) (mvs so.args)) so.dst e
 wan:wantedE s.env so.guard≠none
theorem oneS{so:SOper}{s t:St}(hO:OPure S O)(h:evalOp O wl lim so s=some t):OneS S O wl lim so s t:=by
 unfold evalOp at h
 split at h
 ·cases h
 ·rename_i hw
  cases h
  refine⟨fun u hu=>?_,fun _ _=>rfl,rfl,fun _=>rfl,fun _=>⟨evalOp_putE _ _ _,rfl,rfl⟩,fun h=>(by rw[hw]at h;cases h),(by rw[hw];simp)⟩
  simp only[touch,List.mem_append,Option.mem_toList,not_or]at hu
  rw[evalOp_putE]
  simp only[putH]
  rw[if_neg hu.1]
 ·rename_i hw
  split at h
  ·cases h
  ·rename_i e st' bx' ha
   have fin:t=⟨putE (so.args.foldl killE s.env) so.dst e,bx',st'⟩->OneS S O wl lim so s t:=by
    intro ht
    subst ht
    have he:getE (putE (so.args.foldl killE s.env) so.dst e)=putH (killH (getE s.env) (mvs so.args)) so.dst e:=by rw[evalOp_putE,getE_killH]
    have hb:(∀b,so.op.bW≠some b->bx'[b]?=s.bx[b]?)/\bx'.length=s.bx.length:=by
     obtain⟨bx2,h1,h2,h3,h4,h5,h6⟩:=act_box2 (bx2:=s.bx) rfl (fun _ _=>rfl) ha
     exact⟨h6,h2⟩
    refine⟨fun u hu=>?_,hb.1,hb.2,fun hW=>act_noW hO hW ha,fun h=>(by rw[hw]at h;cases h),fun _=>⟨e,ha,he⟩,(by rw[hw];simp)⟩
    simp only[touch,List.mem_append,Option.mem_toList,not_or]at hu
    show getE (putE (so.args.foldl killE s.env) so.dst e) u=_
    rw[he]
    simp only[putH,killH]
    rw[if_neg hu.1,if_neg hu.2]
   split at h
   ·cases h;exact fin rfl
   ·split at h
    ·cases h;exact fin rfl
    ·cases h
structure Text (S:Nat->Option SFunc)(O:Orc)(wl lim:Nat)(m:List SOper)(T:Nat->St):Prop where
 one:∀(i:Nat) so,m[i]?=some so->OneS S O wl lim so (T i) (T (i+1))
def effT(m:List SOper)(T:Nat->St)(k:Nat)(t:Nat):Option Ent:=match m[k]? with
 |some so=>if t∈touch so then some (getE (T (k+1)).env t) else none
 |none=>none
def effB(m:List SOper)(T:Nat->St)(k:Nat)(b:Nat):Option (Option (List AV)):=match m[k]? with
 |some so=>if so.op.bW=some b then some ((T (k+1)).bx[b]?) else none
 |none=>none
def effS(S:Nat->Option SFunc)(m:List SOper)(T:Nat->St)(k:Nat)(_:Unit):Option Store:=match m[k]? with
 |some so=>if so.op.isW S=true then some (T (k+1)).st else none
 |none=>none
abbrev vT(m:List SOper)(T:Nat->St)(D:Nat->Bool)(t:Nat):Ent:=valF (getE (T 0).env) (effT m T) D m.length t
abbrev vB(m:List SOper)(T:Nat->St)(D:Nat->Bool)(b:Nat):Option (List AV):=valF (fun b=>(T 0).bx[b]?) (effB m T) D m.length b
abbrev vS(S:Nat->Option SFunc)(m:List SOper)(T:Nat->St)(D:Nat->Bool):Store:=valF (fun _=>(T 0).st) (effS S m T) D m.length ()
section
variable {m:List SOper}{T:Nat->St}
theorem text_T(h:Text S O wl lim m T){j:Nat}(hj:j<=m.length)(t:Nat):vT m T (fun k=>decide (k<j)) t=getE (T j).env t:=by
 refine valF_text (st:=fun k t=>getE (T k).env t) (fun _=>rfl) (fun k hk x=>?_) hj t
 have hs:m[k]?=some m[k]:=List.getElem?_eq_getElem hk
 simp only[effT,hs]
 split
 ·rfl
 ·rename_i hx;exact(h.one k _ hs).far x hx
theorem text_B(h:Text S O wl lim m T){j:Nat}(hj:j<=m.length)(b:Nat):vB m T (fun k=>decide (k<j)) b=(T j).bx[b]?:=by
 refine valF_text (st:=fun k b=>(T k).bx[b]?) (fun _=>rfl) (fun k hk x=>?_) hj b
 have hs:m[k]?=some m[k]:=List.getElem?_eq_getElem hk
 simp only[effB,hs]
 split
 ·rfl
 ·rename_i hx;exact(h.one k _ hs).bfar x hx
theorem text_S(h:Text S O wl lim m T){j:Nat}(hj:j<=m.length):vS S m T (fun k=>decide (k<j))=(T j).st:=by
 refine valF_text (st:=fun k (_:Unit)=>(T k).st) (fun _=>rfl) (fun k hk x=>?_) hj ()
 have hs:m[k]?=some m[k]:=List.getElem?_eq_getElem hk
 simp only[effS,hs]
 split
 ·rfl
 ·rename_i hx;exact(h.one k _ hs).sfar (by simpa using hx)
theorem vS_last(D:Nat->Bool):∀(N:Nat),N<=m.length->∃p,p<=N/\valF (fun _=>(T 0).st) (effS S m T) D N ()=(T p).st/\
  (p=0\/∃q so,p=q+1/\m[q]?=some so/\D q=true/\so.op.isW S=true)/\∀(j:Nat) so,p<=j->j<N->m[j]?=some so->so.op.isW S=true->D j=false
 |0,_=>⟨0,Nat.le_refl _,rfl,.inl rfl,fun j so h1 h2=>by omega⟩
 |N+1,hN=>by
  obtain⟨p,h1,h2,h3,h4⟩:=vS_last D N (by omega)
  have hs:m[N]?=some m[N]:=List.getElem?_eq_getElem (by omega)
  by_cases hD:D N=true/\(m[N]).op.isW S=true
  ·refine⟨N+1,Nat.le_refl _,?_,.inr ⟨N,m[N],rfl,hs,hD.1,hD.2⟩,fun j so h5 h6=>by omega⟩
   simp only[valF,hD.1,effS,hs,if_true,hD.2,Option.getD_some]
  ·refine⟨p,by omega,?_,h3,fun j so h5 h6 h7 h8=>?_⟩
   ·simp only[valF]
    cases hDN:D N with
    |false=>simpa using h2
    |true=>
     have:¬(m[N]).op.isW S=true:=fun h=>hD ⟨hDN,h⟩
     simp only[effS,hs,if_true]
     rw[if_neg this]
     simpa using h2
   ·by_cases hj:j=N
    ·subst hj
     rw[hs]at h7;cases h7
     cases hDN:D j with
     |false=>rfl
     |true=>exact absurd ⟨hDN,h8⟩ hD
    ·exact h4 j so h5 (by omega) h7 h8
theorem text_gap(h:Text S O wl lim m T){p:Nat}:∀(d:Nat),p+d<=m.length->(∀(j:Nat) so,p<=j->j<p+d->m[j]?=some so->so.op.isW S=false)->(T (p+d)).st=(T p).st
 |0,_,_=>rfl
 |d+1,hd,hn=>by
  have hs:m[p+d]?=some m[p+d]:=List.getElem?_eq_getElem (by omega)
  have e:=(h.one (p+d) _ hs).sfar (hn (p+d) _ (by omega) (by omega) hs)
  rw[show p+(d+1)=p+d+1 by omega,e]
  exact text_gap h d (by omega) fun j so h1 h2=>hn j so h1 (by omega)
theorem first_w(S:Nat->Option SFunc)(m:List SOper)(p:Nat):∀(d:Nat),p+d<=m.length->(∀(j:Nat) so,p<=j->j<p+d->m[j]?=some so->so.op.isW S=false)\/
  ∃(w:Nat) (so:SOper),p<=w/\w<p+d/\m[w]?=some so/\so.op.isW S=true/\∀(j:Nat) so,p<=j->j<w->m[j]?=some so->so.op.isW S=false
 |0,_=>.inl fun j so h1 h2=>by omega
 |d+1,hd=>by
  rcases first_w S m p d (by omega) with h|⟨w,so,h1,h2,h3,h4,h5⟩
  ·have hs:m[p+d]?=some m[p+d]:=List.getElem?_eq_getElem (by omega)
   cases hw:(m[p+d]).op.isW S with
   |true=>exact .inr ⟨p+d,_,by omega,by omega,hs,hw,fun j so a1 a2=>h j so a1 a2⟩
   |false=>
    refine .inl fun j so a1 a2 a3=>?_
    by_cases hj:j=p+d
    ·subst hj;rw[hs]at a3;cases a3;exact hw
    ·exact h j so a1 (by omega) a3
  ·exact .inr ⟨w,so,h1,by omega,h3,h4,h5⟩
end
end Ax
namespace Ax
open Go
variable {S:Nat->Option SFunc}{P:Program}{O:Orc}{wl lim n:Nat}
variable {ops:Array Oper}{m:List SOper}{pairs:List (Nat×Nat)}{T:Nat->St}{xp:Option (Nat×Nat×Store)}
structure Spc (S:Nat->Option SFunc)(O:Orc)(wl lim:Nat)(m:List SOper)(pairs:List (Nat×Nat))(T:Nat->St)(p q:Nat)(X:Store):Prop where
 lt:p<q
 ql:q<m.length
 mem:(100000+p,q)∈pairs
 wp:∀a,m[p]?=some a->a.op.isW S=true/\a.guard=none
 wq:∀a,m[q]?=some a->a.op.isW S=true/\a.guard=none
 gap:∀(j:Nat) o,p<j->j<q->m[j]?=some o->o.op.isW S=false
 un:∀i j,i<100000->(100000+i,j)∈pairs->i=p/\j=q
 cl:∀k w,(k,w)∈pairs->k<100000->w=p\/w=q->(100000*(k+2)+p,q)∈pairs
 x1:∀a,m[q]?=some a->∀e bx bx',act O wl lim a.op (a.args.map (rdE (T q).env)) (T q).st bx=some (e,(T (q+1)).st,bx')->act O wl lim a.op (a.args.map (rdE (T q).env)) (T p).st bx=some (e,X,bx')
 x2:∀a,m[p]?=some a->∀e bx bx',act O wl lim a.op (a.args.map (rdE (T p).env)) (T p).st bx=some (e,(T (p+1)).st,bx')->act O wl lim a.op (a.args.map (rdE (T p).env)) X bx=some (e,(T (q+1)).st,bx')
 rd:∀k,(100000*(k+2)+p,q)∈pairs->∀o,m[k]?=some o->readsSame O wl lim o (T k) (T (k+1)) X=true
structure Rgn (S:Nat->Option SFunc)(P:Program)(O:Orc)(wl lim n:Nat)(ops:Array Oper)(m:List SOper)(pairs:List (Nat×Nat))(T:Nat->St)(xp:Option (Nat×Nat×Store)):Prop where
 dr:Drawn S P ops n m pairs
 tx:Text S O wl lim m T
 pr:∀q w,q<100000->(q,w)∈pairs->∀o,m[q]?=some o->readsSame O wl lim o (T q) (T (q+1)) (T w).st=true/\readsSame O wl lim o (T q) (T (q+1)) (T (w+1)).st=true
 sn:xp=none->∀i j,i<100000->(100000+i,j) ∉ pairs
 sp:∀p q X,xp=some (p,q,X)->Spc S O wl lim m pairs T p q X
 bo:∀(i:Nat) so j,m[i]?=some so->so.op.newBox=some j->noFp j (T 0).env=true
 pu:OPure S O
theorem apart_T{i j:Nat}{a b:SOper}(h:apart S pairs i j a b=true):(∀t,t∈touch a->t ∉ readsT b/\t ∉ touch b)/\(∀t,t∈touch b->t ∉ readsT a):=by
 simp only[apart,Bool.and_eq_true,List.all_eq_true,Bool.not_eq_true',List.contains_eq_mem,decide_eq_false_iff_not]at h
 exact⟨h.1.1.1.1.1.1,h.1.1.1.1.1.2⟩
theorem apart_B{i j:Nat}{a b:SOper}(h:apart S pairs i j a b=true):(∀x,a.op.bW=some x->b.op.bA≠some x)/\(∀x,b.op.bW=some x->a.op.bA≠some x):=by
 simp only[apart,Bool.and_eq_true]at h
 obtain⟨⟨⟨⟨⟨_,h1⟩,h2⟩,_⟩,_⟩,_⟩:=h
 refine⟨fun x hx=>?_,fun x hx=>?_⟩
 ·rw[hx]at h1;simpa using h1
 ·rw[hx]at h2;simpa using h2
theorem apart_S{i j:Nat}{a b:SOper}(h:apart S pairs i j a b=true):(a.op.isW S=true/\b.op.isW S=true->(100000+i,j)∈pairs)/\(a.op.noS=true\/b.op.isW S=false\/a.op.isW S=true\/(i,j)∈pairs)/\(b.op.noS=true\/a.op.isW S=false\/b.op.isW S=true\/(j,i)∈pairs):=by
 simp only[apart,Bool.and_eq_true,Bool.or_eq_true,Bool.not_eq_true',Bool.and_eq_false_iff,List.contains_eq_mem,decide_eq_true_eq]at h
 obtain⟨⟨⟨_,h3⟩,h4⟩,h5⟩:=h
 refine⟨fun⟨x,y⟩=>?_,by rcases h4 with ((h|h)|h)|h<;>simp[h],by rcases h5 with ((h|h)|h)|h<;>simp[h]⟩
 rcases h3 with (h|h)|h
 ·rw[x]at h;cases h
 ·rw[y]at h;cases h
 ·exact h
theorem bW_bA{op:SOp}{x:Nat}(h:op.bW=some x):op.bA=some x:=by
 cases op<;>simp[SOp.bW]at h<;>simp[SOp.bA,h]
structure May (ops:Array Oper)(m:List SOper)(D:Nat->Bool)(k:Nat)(o:Oper)(so:SOper):Prop where
 down:Down ops D
 ho:ops[k]?=some o
 hs:m[k]?=some so
 pre:∀p∈predsO o,D p=true
 new:D k=false
theorem May.apart(hR:Rgn S P O wl lim n ops m pairs T xp){D:Nat->Bool}{k:Nat}{o:Oper}{so:SOper}(h:May ops m D k o so){j:Nat}{b:SOper}(hj:m[j]?=some b)(hd:D j≠decide (j<k)) :
  (j<k/\D j=false/\apart S pairs j k b so=true)\/(k<j/\D j=true/\apart S pairs k j so b=true):=by
 rcases Nat.lt_trichotomy j k with h1|h1|h1
 ·have:D j=false:=by rw[decide_eq_true h1]at hd;simpa using hd
  exact .inl ⟨h1,this,hR.dr.apA D h.down k o h.ho h.pre j b so h1 this hj h.hs⟩
 ·subst h1
  exact absurd (h.new.trans (by simp)) hd
 ·have:D j=true:=by rw[decide_eq_false (by omega)]at hd;simpa using hd
  exact .inr ⟨h1,this,hR.dr.apB D h.down k j so b h1 h.new this h.hs hj⟩
section
variable {D:Nat->Bool}{k:Nat}{o:Oper}{so:SOper}
theorem May.lt(h:May ops m D k o so):k<m.length:=(List.getElem?_eq_some_iff.1 h.hs).1
theorem May.slot(hR:Rgn S P O wl lim n ops m pairs T xp)(h:May ops m D k o so){t:Nat}(ht:t∈touch so\/t∈readsT so):vT m T D t=getE (T k).env t:=by
 rw[<-text_T hR.tx (Nat.le_of_lt h.lt)]
 refine valF_same fun j hj hd=>?_
 have hb:m[j]?=some m[j]:=List.getElem?_eq_getElem hj
 simp only[effT,hb]
 rw[if_neg]
 intro hjt
 rcases h.apart hR hb hd with⟨_,_,ha⟩|⟨_,_,ha⟩
 ·have:=(apart_T ha).1 t hjt
  rcases ht with ht|ht
  ·exact this.2 ht
  ·exact this.1 ht
 ·rcases ht with ht|ht
  ·exact((apart_T ha).1 t ht).2 hjt
  ·exact(apart_T ha).2 t hjt ht
theorem May.box(hR:Rgn S P O wl lim n ops m pairs T xp)(h:May ops m D k o so){b:Nat}(hb:so.op.bA=some b):vB m T D b=(T k).bx[b]?:=by
 rw[<-text_B hR.tx (Nat.le_of_lt h.lt)]
 refine valF_same fun j hj hd=>?_
 have hm:m[j]?=some m[j]:=List.getElem?_eq_getElem hj
 simp only[effB,hm]
 rw[if_neg]
 intro hw
 rcases h.apart hR hm hd with⟨_,_,ha⟩|⟨_,_,ha⟩
 ·exact(apart_B ha).1 b hw hb
 ·exact(apart_B ha).2 b hw hb
def vX(S:Nat->Option SFunc)(m:List SOper)(T:Nat->St)(xp:Option (Nat×Nat×Store))(D:Nat->Bool):Store:=match xp with
 |some (p,q,X)=>if D q && !D p then X else vS S m T D
 |none=>vS S m T D
theorem vX_nil{D:Nat->Bool}(h:∀p q X,xp=some (p,q,X)->D q=true->D p=true):vX S m T xp D=vS S m T D:=by
 unfold vX
 cases xp with
 |none=>rfl
 |some x=>
  obtain⟨p,q,X⟩:=x
  simp only
  rw[if_neg]
  intro hc
  simp only[Bool.and_eq_true,Bool.not_eq_true']at hc
  rw[h p q X rfl hc.1]at hc;cases hc.2
theorem vX_cross{D:Nat->Bool}{p q:Nat}{X:Store}(hx:xp=some (p,q,X))(h1:D q=true)(h2:D p=false):vX S m T xp D=X:=by
 unfold vX
 rw[hx]
 simp[h1,h2]
theorem Rgn.two(hR:Rgn S P O wl lim n ops m pairs T xp){i j:Nat}{a b:SOper}(hi:m[i]?=some a)(h:apart S pairs i j a b=true)(ha:a.op.isW S=true)(hb:b.op.isW S=true):∃X,xp=some (i,j,X):=by
 have hm:=(apart_S h).1 ⟨ha,hb⟩
 have hi':i<100000:=Nat.lt_trans (List.getElem?_eq_some_iff.1 hi).1 hR.dr.small
 cases hx:xp with
 |none=>exact absurd hm (hR.sn hx i j hi')
 |some x=>
  obtain⟨p,q,X⟩:=x
  obtain⟨rfl,rfl⟩:=(hR.sp p q X hx).un i j hi' hm
  exact⟨X,rfl⟩
theorem May.wapart(hR:Rgn S P O wl lim n ops m pairs T xp)(h:May ops m D k o so)(hw:so.op.isW S=true){j:Nat}{b:SOper}(hj:m[j]?=some b)(hb:b.op.isW S=true)(hd:D j≠decide (j<k)) :
  (j<k/\D j=false/\∃X,xp=some (j,k,X))\/(k<j/\D j=true/\∃X,xp=some (k,j,X)):=by
 rcases h.apart hR hj hd with⟨h1,h2,h3⟩|⟨h1,h2,h3⟩
 ·exact .inl ⟨h1,h2,hR.two hj h3 hb hw⟩
 ·exact .inr ⟨h1,h2,hR.two h.hs h3 hw hb⟩
theorem Rgn.at(hR:Rgn S P O wl lim n ops m pairs T xp){D:Nat->Bool}{t:Nat}(ht:t<=m.length)(h:∀(j:Nat) b,m[j]?=some b->b.op.isW S=true->D j=decide (j<t)):vS S m T D=(T t).st:=by
 rw[<-text_S hR.tx ht]
 refine valF_same fun j hj hd=>?_
 have hm:m[j]?=some m[j]:=List.getElem?_eq_getElem hj
 simp only[effS,hm]
 rw[if_neg]
 intro hjw
 exact hd (h j _ hm hjw)
def more(D:Nat->Bool)(k:Nat):Nat->Bool:=fun j=>if j=k then true else D j
theorem more_ne{j:Nat}(h:j≠k):more D k j=D j:=by simp[more,h]
theorem more_eq:more D k k=true:=by simp[more]
theorem May.write(hR:Rgn S P O wl lim n ops m pairs T xp)(h:May ops m D k o so)(hw:so.op.isW S=true) :
  (vX S m T xp D=(T k).st/\vX S m T xp (more D k)=(T (k+1)).st)\/
  (∃p X,xp=some (p,k,X)/\vX S m T xp D=(T p).st/\vX S m T xp (more D k)=X)\/
  (∃q X,xp=some (k,q,X)/\vX S m T xp D=X/\vX S m T xp (more D k)=(T (q+1)).st):=by
 have hk:=h.lt
 have plain:(∀(j:Nat) b,m[j]?=some b->b.op.isW S=true->D j=decide (j<k))->vS S m T D=(T k).st/\vS S m T (more D k)=(T (k+1)).st:=fun hall=>by
  refine⟨hR.at (Nat.le_of_lt hk) hall,hR.at hk fun j b hj hb=>?_⟩
  by_cases hjk:j=k
  ·subst hjk;rw[more_eq];simp
  ·rw[more_ne hjk,hall j b hj hb]
   exact decide_eq_decide.2 ⟨fun h=>by omega,fun h=>by omega⟩
 cases hx:xp with
 |none=>
  refine .inl ?_
  have:=plain fun j b hj hb=>Classical.byContradiction fun hd=>by
   rcases h.wapart hR hw hj hb hd with⟨_,_,X,e⟩|⟨_,_,X,e⟩<;>rw[hx]at e<;>cases e
  exact this
 |some x=>
  obtain⟨p,q,X⟩:=x
  have sp:=hR.sp p q X hx
  have hql:q<m.length:=sp.ql
  have hpl:p<m.length:=Nat.lt_trans sp.lt hql
  have hpm:m[p]?=some m[p]:=List.getElem?_eq_getElem hpl
  have hqm:m[q]?=some m[q]:=List.getElem?_eq_getElem hql
  have hpw:=(sp.wp _ hpm).1
  have hqw:=(sp.wq _ hqm).1
  have hpq:=sp.lt
  rw[<-hx]
  have other:∀(j:Nat) b,m[j]?=some b->b.op.isW S=true->D j≠decide (j<k)->(j=p/\k=q/\D p=false)\/(k=p/\j=q/\D q=true):=fun j b hj hb hd=>by
   rcases h.wapart hR hw hj hb hd with⟨_,g,X',e⟩|⟨_,g,X',e⟩
   ·rw[hx]at e;cases e;exact .inl ⟨rfl,rfl,g⟩
   ·rw[hx]at e;cases e;exact .inr ⟨rfl,rfl,g⟩
  by_cases hkq:k=q
  ·subst hkq
   cases hDp:D p with
   |true=>
    refine .inl ?_
    have hall:∀(j:Nat) b,m[j]?=some b->b.op.isW S=true->D j=decide (j<k):=fun j b hj hb=>Classical.byContradiction fun hd=>by
     rcases other j b hj hb hd with⟨_,_,g⟩|⟨g,_,_⟩
     ·rw[hDp]at g;cases g
     ·omega
    rw[vX_nil fun p' q' X' e hq=>?_,vX_nil fun p' q' X' e hq=>?_]
    ·exact plain hall
    ·rw[hx]at e;cases e;rw[more_ne (by omega)];exact hDp
    ·rw[hx]at e;cases e;exact hDp
   |false=>
    refine .inr (.inl ⟨p,X,hx,?_,?_⟩)
    ·rw[vX_nil fun p' q' X' e hq=>by rw[hx]at e;cases e;rw[h.new]at hq;cases hq]
     refine hR.at (by omega) fun j b hj hb=>?_
     by_cases hjp:j=p
     ·subst hjp;rw[hDp];simp
     ·by_cases hjk:j=k
      ·subst hjk;rw[h.new];symm;rw[decide_eq_false_iff_not];omega
      ·by_cases hgap:p<j/\j<k
       ·have:=sp.gap j b hgap.1 hgap.2 hj
        rw[this]at hb;cases hb
       ·have:D j=decide (j<k):=Classical.byContradiction fun hd=>by
         rcases other j b hj hb hd with⟨g,_,_⟩|⟨g,_,_⟩
         ·exact hjp g
         ·omega
        rw[this]
        exact decide_eq_decide.2 ⟨fun h=>by omega,fun h=>by omega⟩
    ·exact vX_cross hx more_eq (by rw[more_ne (by omega)];exact hDp)
  ·by_cases hkp:k=p
   ·subst hkp
    cases hDq:D q with
    |false=>
     refine .inl ?_
     have hall:∀(j:Nat) b,m[j]?=some b->b.op.isW S=true->D j=decide (j<k):=fun j b hj hb=>Classical.byContradiction fun hd=>by
      rcases other j b hj hb hd with⟨_,g,_⟩|⟨_,_,g⟩
      ·exact hkq g
      ·rw[hDq]at g;cases g
     rw[vX_nil fun p' q' X' e hq=>?_,vX_nil fun p' q' X' e hq=>?_]
     ·exact plain hall
     ·rw[hx]at e;cases e;exact more_eq
     ·rw[hx]at e;cases e;rw[hDq]at hq;cases hq
    |true=>
     refine .inr (.inr ⟨q,X,hx,vX_cross hx hDq h.new,?_⟩)
     rw[vX_nil fun p' q' X' e hq=>by rw[hx]at e;cases e;exact more_eq]
     refine hR.at sp.ql fun j b hj hb=>?_
     by_cases hjk:j=k
     ·subst hjk;rw[more_eq];symm;rw[decide_eq_true_iff];omega
     ·rw[more_ne hjk]
      by_cases hjq:j=q
      ·subst hjq;rw[hDq];simp
      ·by_cases hgap:k<j/\j<q
       ·have:=sp.gap j b hgap.1 hgap.2 hj
        rw[this]at hb;cases hb
       ·have:D j=decide (j<k):=Classical.byContradiction fun hd=>by
         rcases other j b hj hb hd with⟨g,_,_⟩|⟨_,g,_⟩
         ·exact hjk g
         ·exact hjq g
        rw[this]
        exact decide_eq_decide.2 ⟨fun h=>by omega,fun h=>by omega⟩
   ·refine .inl ?_
    have hall:∀(j:Nat) b,m[j]?=some b->b.op.isW S=true->D j=decide (j<k):=fun j b hj hb=>Classical.byContradiction fun hd=>by
     rcases other j b hj hb hd with⟨_,g,_⟩|⟨g,_,_⟩
     ·exact hkq g
     ·exact hkp g
    have hord:D q=true->D p=true:=fun hq=>Classical.byContradiction fun hp=>by
     have hp':D p=false:=by simpa using hp
     have g1:=hall p _ hpm hpw
     have g2:=hall q _ hqm hqw
     rw[hp']at g1;rw[hq]at g2
     have g1:=of_decide_eq_false g1.symm
     have g2:=of_decide_eq_true g2.symm
     omega
    rw[vX_nil fun p' q' X' e hq=>?_,vX_nil fun p' q' X' e hq=>?_]
    ·exact plain hall
    ·rw[hx]at e;cases e
     rw[more_ne (fun e=>hkq e.symm)]at hq;rw[more_ne (fun e=>hkp e.symm)];exact hord hq
    ·rw[hx]at e;cases e;exact hord hq
theorem May.still(h:May ops m D k o so)(hR:Rgn S P O wl lim n ops m pairs T xp)(hw:so.op.isW S=false):vX S m T xp (more D k)=vX S m T xp D:=by
 have e:vS S m T (more D k)=vS S m T D:=by
  refine valF_same fun j hj hd=>?_
  by_cases hjk:j=k
  ·subst hjk;simp[effS,h.hs,hw]
  ·rw[more_ne hjk]at hd;exact absurd rfl hd
 cases hx:xp with
 |none=>simp only[vX];exact e
 |some x=>
  obtain⟨p,q,X⟩:=x
  have sp:=hR.sp p q X hx
  have h1:p≠k:=fun he=>by subst he;have:=(sp.wp _ h.hs).1;rw[hw]at this;cases this
  have h2:q≠k:=fun he=>by subst he;have:=(sp.wq _ h.hs).1;rw[hw]at this;cases this
  simp only[vX,more_ne h1,more_ne h2,e]
theorem May.seen(hR:Rgn S P O wl lim n ops m pairs T xp)(h:May ops m D k o so)(hn:so.op.noS=false)(hw:so.op.isW S=false) :
  vX S m T xp D=(T k).st\/readsSame O wl lim so (T k) (T (k+1)) (vX S m T xp D)=true:=by
 have hks:k<100000:=Nat.lt_trans h.lt hR.dr.small
 by_cases hcr:∃p q X,xp=some (p,q,X)/\D q=true/\D p=false
 ·obtain⟨p,q,X,hx,hq,hp⟩:=hcr
  right
  have sp:=hR.sp p q X hx
  rw[vX_cross hx hq hp]
  refine sp.rd k ?_ so h.hs
  have hql:q<m.length:=sp.ql
  have hpl:p<m.length:=Nat.lt_trans sp.lt hql
  have hpm:m[p]?=some m[p]:=List.getElem?_eq_getElem hpl
  have hqm:m[q]?=some m[q]:=List.getElem?_eq_getElem hql
  rcases Nat.lt_trichotomy k q with hkq|hkq|hkq
  ·have ha:=hR.dr.apB D h.down k q so _ hkq h.new hq h.hs hqm
   rcases (apart_S ha).2.1 with e|e|e|e
   ·rw[hn]at e;cases e
   ·rw[(sp.wq _ hqm).1]at e;cases e
   ·rw[hw]at e;cases e
   ·exact sp.cl k q e hks (.inr rfl)
  ·subst hkq;rw[h.new]at hq;cases hq
  ·have ha:=hR.dr.apA D h.down k o h.ho h.pre p _ so (by have:=sp.lt;omega) hp hpm h.hs
   rcases (apart_S ha).2.2 with e|e|e|e
   ·rw[hn]at e;cases e
   ·rw[(sp.wp _ hpm).1]at e;cases e
   ·rw[hw]at e;cases e
   ·exact sp.cl k p e hks (.inl rfl)
 rw[vX_nil fun p q X hx hq=>Classical.byContradiction fun hp=>hcr ⟨p,q,X,hx,hq,by simpa using hp⟩]
 obtain⟨p,h1,h2,h3,h4⟩:=vS_last (S:=S) (m:=m) (T:=T) D m.length (Nat.le_refl _)
 have hv:vS S m T D=(T p).st:=h2
 have hk:=h.lt
 have pair:∀(w:Nat) b,m[w]?=some b->b.op.isW S=true->D w≠decide (w<k)->(k,w)∈pairs:=by
  intro w b hb hbw hd
  rcases h.apart hR hb hd with⟨_,_,ha⟩|⟨_,_,ha⟩
  ·rcases (apart_S ha).2.2 with e|e|e|e
   ·rw[hn]at e;cases e
   ·rw[hbw]at e;cases e
   ·rw[hw]at e;cases e
   ·exact e
  ·rcases (apart_S ha).2.1 with e|e|e|e
   ·rw[hn]at e;cases e
   ·rw[hbw]at e;cases e
   ·rw[hw]at e;cases e
   ·exact e
 by_cases hpk:p<=k
 ·obtain⟨d,hd⟩:∃d,k=p+d:=⟨k-p,by omega⟩
  rcases first_w S m p d (by omega) with hg|⟨w,b,g1,g2,g3,g4,g5⟩
  ·left
   rw[hv,hd]
   exact(text_gap hR.tx d (by omega) hg).symm
  ·right
   have hDw:=h4 w b g1 (by have:=(List.getElem?_eq_some_iff.1 g3).1;omega) g3 g4
   have hp:=pair w b g3 g4 (by rw[hDw,decide_eq_true (by omega)];simp)
   have e:(T p).st=(T w).st:=by
    obtain⟨d',hd'⟩:∃d,w=p+d:=⟨w-p,by omega⟩
    rw[hd']
    exact(text_gap hR.tx d' (by have:=(List.getElem?_eq_some_iff.1 g3).1;omega) fun j so a1 a2=>g5 j so a1 (by omega)).symm
   rw[hv,e]
   exact(hR.pr k w hks hp so h.hs).1
 ·right
  rcases h3 with h3|⟨q,b,rfl,g1,g2,g3⟩
  ·omega
  ·have hp:=pair q b g1 g3 (by
    by_cases hq:q=k
    ·subst hq;rw[h.new]at g2;cases g2
    ·rw[g2,decide_eq_false (by omega)];simp)
   rw[hv]
   exact(hR.pr k q hks hp so h.hs).2
theorem May.moreT(hR:Rgn S P O wl lim n ops m pairs T xp)(h:May ops m D k o so)(t:Nat):vT m T (more D k) t=if t∈touch so then getE (T (k+1)).env t else vT m T D t:=by
 have:=valF_add (init:=getE (T 0).env) (eff:=effT m T) (D:=D) (D':=more D k) (x:=t) (j:=k) h.lt h.new (fun j=>rfl) fun j h1 h2 h3 h4=>by
  have hb:m[j]?=some m[j]:=List.getElem?_eq_getElem h2
  have ha:=hR.dr.apB D h.down k j so _ h1 h.new h3 h.hs hb
  simp only[effT,h.hs]at h4
  simp only[effT,hb]
  rw[if_neg]
  intro hjt
  by_cases ht:t∈touch so
  ·exact((apart_T ha).1 t ht).2 hjt
  ·rw[if_neg ht]at h4;exact h4 rfl
 refine this.trans ?_
 simp only[effT,h.hs]
 split
 ·rfl
 ·rfl
theorem May.moreB(hR:Rgn S P O wl lim n ops m pairs T xp)(h:May ops m D k o so)(b:Nat):vB m T (more D k) b=if so.op.bW=some b then (T (k+1)).bx[b]? else vB m T D b:=by
 have:=valF_add (init:=fun b=>(T 0).bx[b]?) (eff:=effB m T) (D:=D) (D':=more D k) (x:=b) (j:=k) h.lt h.new (fun j=>rfl) fun j h1 h2 h3 h4=>by
  have hb:m[j]?=some m[j]:=List.getElem?_eq_getElem h2
  have ha:=hR.dr.apB D h.down k j so _ h1 h.new h3 h.hs hb
  simp only[effB,h.hs]at h4
  simp only[effB,hb]
  rw[if_neg]
  intro hjt
  by_cases ht:so.op.bW=some b
  ·exact(apart_B ha).1 b ht (bW_bA hjt)
  ·rw[if_neg ht]at h4;exact h4 rfl
 refine this.trans ?_
 simp only[effB,h.hs]
 split
 ·rfl
 ·rfl
end
end Ax
namespace Ax
open Go
variable {S:Nat->Option SFunc}{P:Program}{O:Orc}{wl lim n:Nat}
variable {ops:Array Oper}{m:List SOper}{pairs:List (Nat×Nat)}{T:Nat->St}{xp:Option (Nat×Nat×Store)}
variable {w0 w w':World}{G0 G G':Ghost}{β β':List BxG}{A0:Nat->Nat}{a:Act}{bx:Boxes}
structure At (S:Nat->Option SFunc)(n:Nat)(m:List SOper)(T:Nat->St)(xp:Option (Nat×Nat×Store))(w0:World)(G0:Ghost)(A0:Nat->Nat)(D:Nat->Bool)(w:World)(G:Ghost)(β:List BxG)(a:Act)(bx:Boxes):Prop where
 fs:FS w G β a (vT m T D) bx (vX S m T xp D) n
 mv:Mv w0 G0 A0 w G (tot β a (vT m T D) bx (vX S m T xp D) G n)
 bb:∀b,bx[b]?=vB m T D b
 bl:bx.length=(T 0).bx.length
 fp:∀(i:Nat) so j,m[i]?=some so->so.op.newBox=some j->D i=false->∀t,(vT m T D t).notFp j=true
theorem Text.blen(h:Text S O wl lim m T):∀{j:Nat},j<=m.length->(T j).bx.length=(T 0).bx.length
 |0,_=>rfl
 |j+1,hj=>by
  have hs:m[j]?=some m[j]:=List.getElem?_eq_getElem (by omega)
  rw[(h.one j _ hs).blen,h.blen (by omega)]
theorem entSame_eq{e f:Ent}(h:e.same f=true):e=f:=by
 cases e<;>cases f<;>simp[Ent.same]at h
 ·rfl
 ·rw[same_eq _ _ h]
 ·obtain⟨rfl,rfl⟩:=h;rfl
theorem reader_noB{op:SOp}(h:op.noS=false):op.bA=none:=by
 cases op<;>simp[SOp.noS,SOp.bA]at h ⊢
theorem notFp_rdH{η:Nat->Ent}{j:Nat}(h:∀t,(η t).notFp j=true)(s:Src):(rdH η s).notFp j=true:=by
 cases s with
 |const a=>rfl
 |tmp t mv=>
  cases mv with
  |true=>exact h t
  |false=>
   have:=h t
   simp only[rdH]
   cases he:η t with
   |none=>rfl
   |val v=>rfl
   |fp i k=>rw[he]at this;exact this
theorem rdH_congr{η η':Nat->Ent}:∀{l:List Src},(∀t∈srcT l,η t=η' t)->l.map (rdH η)=l.map (rdH η')
 |[],_=>rfl
 |.tmp t mv::l,h=>by
  simp only[List.map_cons]
  rw[rdH_congr (l:=l) fun u hu=>h u (List.mem_cons_of_mem _ hu)]
  have:=h t List.mem_cons_self
  cases mv<;>simp only[rdH,this]
 |.const a::l,h=>by
  simp only[List.map_cons]
  rw[rdH_congr (l:=l) fun u hu=>h u hu]
  rfl
theorem step_ok{Q:Exit->Act->World->Prop}(hR:Rgn S P O wl lim n ops m pairs T xp)(hO:SoundCall S P O){D:Nat->Bool}{k:Nat}{o:Oper}{so:SOper}(h:May ops m D k o so)(hA:At S n m T xp w0 G0 A0 D w G β a bx){K:Act->World->Prop}
  (hK:∀w' G' β' a' bx',At S n m T xp w0 G0 A0 (more D k) w' G' β' a' bx'->K a' w'):wpOp P ops Q k K a w:=by
 have one:=hR.tx.one k so h.hs
 have hwe:wantedH (vT m T D) so.guard=wantedE (T k).env so.guard:=by
  rw[wantedE_H]
  cases hg:so.guard with
  |none=>rfl
  |some x=>
   obtain⟨t,b⟩:=x
   have:=h.slot hR (t:=t) (.inr (by simp[readsT,hg]))
   simp only[wantedH,this]
 obtain⟨b,hb⟩:∃b,wantedE (T k).env so.guard=some b:=by
  cases hw:wantedE (T k).env so.guard with
  |none=>exact absurd hw one.wan
  |some b=>exact⟨b,rfl⟩
 refine op_ok (wl:=wl) (lim:=lim) h.ho (hR.dr.get k o so h.ho h.hs) hO hA.fs hA.mv.one (hwe.trans hb) (fun hbf a' f1 f2=>?_) (fun hbt=>?_)
 ·subst hbf
  obtain⟨n1,n2,n3⟩:=one.non hb
  have e1:putH (vT m T D) so.dst (.val .undef)=vT m T (more D k):=by
   funext t
   rw[h.moreT hR]
   split
   ·rename_i ht
    rw[n1]
    simp only[putH]
    split
    ·rfl
    ·exact h.slot hR (.inl ht)
   ·rename_i ht
    simp only[touch,List.mem_append,Option.mem_toList,not_or]at ht
    simp only[putH]
    rw[if_neg ht.1]
  have e2:vX S m T xp (more D k)=vX S m T xp D:=by
   by_cases hw:so.op.isW S=true
   ·rcases h.write hR hw with⟨e1,e2⟩|⟨p,X,hx,_⟩|⟨q,X,hx,_⟩
    ·rw[e1,e2,n3]
    ·have:=(hR.sp p k X hx).wq so h.hs
     rw[this.2]at hb;cases hb
    ·have:=(hR.sp k q X hx).wp so h.hs
     rw[this.2]at hb;cases hb
   ·exact h.still hR (by simpa using hw)
  rw[e1,<-e2]at f1
  rw[e1,<-e2]at f2
  refine hK w G β a' bx ⟨f1,?_,fun x=>?_,hA.bl,fun i si j hi hj hD t=>?_⟩
  ·rw[e2]at f2 ⊢
   exact hA.mv.trans f2
  ·rw[h.moreB hR,hA.bb]
   split
   ·rename_i hx;rw[n2];exact h.box hR (bW_bA hx)
   ·rfl
  ·have hne:i≠k/\D i=false:=by
    unfold more at hD
    by_cases hik:i=k
    ·rw[if_pos hik]at hD;cases hD
    ·rw[if_neg hik]at hD;exact⟨hik,hD⟩
   rw[<-e1]
   simp only[putH]
   split
   ·rfl
   ·exact hA.fp i si j hi hj hne.2 t
 ·subst hbt
  obtain⟨e,ha,y2⟩:=one.yes hb
  have hargs:so.args.map (rdE (T k).env)=so.args.map (rdH (vT m T D)):=by
   rw[List.map_congr_left (g:=rdH (getE (T k).env)) fun x _=>rdE_rdH _ x]
   exact(rdH_congr fun t ht=>h.slot hR (.inr (by simp[readsT,ht]))).symm
  rw[hargs]at ha
  have ha2:act O wl lim so.op (so.args.map (rdH (vT m T D))) (vX S m T xp D) (T k).bx=some (e,vX S m T xp (more D k),(T (k+1)).bx):=by
   by_cases hw:so.op.isW S=true
   ·rcases h.write hR hw with⟨e1,e2⟩|⟨p,X,hx,e1,e2⟩|⟨q,X,hx,e1,e2⟩
    ·rw[e1,e2];exact ha
    ·rw[e1,e2,<-hargs]
     rw[<-hargs]at ha
     exact(hR.sp p k X hx).x1 so h.hs _ _ _ ha
    ·rw[e1,e2,<-hargs]
     rw[<-hargs]at ha
     exact(hR.sp k q X hx).x2 so h.hs _ _ _ ha
   ·have hw':so.op.isW S=false:=by simpa using hw
    rw[h.still hR hw']
    have hst:=one.sfar hw'
    by_cases hn:so.op.noS=true
    ·exact act_noS hn _ ha
    ·have hn':so.op.noS=false:=by simpa using hn
     rcases h.seen hR hn' hw' with hs|hs
     ·rw[hs];rw[hst]at ha;exact ha
     ·unfold readsSame at hs
      rw[hb]at hs
      simp only at hs
      rw[hargs]at hs
      split at hs
      ·rename_i e' st' bx' ha'
       have hst':=act_noW hR.pu hw' ha'
       subst hst'
       have hnb:=reader_noB hn'
       obtain⟨rfl,_⟩:=act_noB hnb (T k).bx ha'
       obtain⟨hbx,_⟩:=act_noB hnb (T k).bx ha
       rw[hbx]
       split at hs
       ·rename_i d hd
        have:=entSame_eq hs
        rw[y2]at this
        simp only[putH,hd,if_true]at this
        subst this
        exact ha'
       ·cases hs
      ·cases hs
  obtain⟨bx2,b1,b2,b3,b4,b5,_⟩:=act_box2 (bx2:=bx) (by rw[hA.bl,hR.tx.blen (Nat.le_of_lt h.lt)]) (fun b hb=>by rw[hA.bb];exact h.box hR hb) ha2
  refine⟨e,vX S m T xp (more D k),bx2,b1,fun j hj t _ _=>hA.fp k so j h.hs hj h.new t,fun w' G' β' a' f1 f2=>?_⟩
  have e1:putH (killH (vT m T D) (mvs so.args)) so.dst e=vT m T (more D k):=by
   funext t
   rw[h.moreT hR]
   split
   ·rename_i ht
    rw[y2]
    simp only[putH,killH]
    split
    ·rfl
    ·split
     ·rfl
     ·exact h.slot hR (.inl ht)
   ·rename_i ht
    simp only[touch,List.mem_append,Option.mem_toList,not_or]at ht
    simp only[putH,killH]
    rw[if_neg ht.1,if_neg ht.2]
  rw[e1]at f1 f2
  refine hK w' G' β' a' bx2 ⟨f1,hA.mv.trans f2,fun x=>?_,b3.trans hA.bl,fun i si j hi hj hD t=>?_⟩
  ·rw[h.moreB hR]
   split
   ·rename_i hx;exact b4 x hx
   ·rename_i hx;rw[b5 x hx,hA.bb]
  ·have hne:i≠k/\D i=false:=by
    unfold more at hD
    by_cases hik:i=k
    ·rw[if_pos hik]at hD;cases hD
    ·rw[if_neg hik]at hD;exact⟨hik,hD⟩
   rw[<-e1]
   simp only[putH,killH]
   split
   ·refine act_fp b1 (fun x hx=>?_) fun hn=>?_
    ·obtain⟨s,_,rfl⟩:=List.mem_map.1 hx
     exact notFp_rdH (fun t=>hA.fp i si j hi hj hne.2 t) s
    ·rcases Nat.lt_or_gt_of_ne hne.1 with hl|hl
     ·exact hR.dr.boxes i k si so j hl hi h.hs hj hn
     ·exact hR.dr.boxes k i so si j hl h.hs hi hn hj
   ·split
    ·rfl
    ·exact hA.fp i si j hi hj hne.2 t
def doneOf(listed:Array Bool):Nat->Bool:=fun k=>listed.getD k false
theorem wpAny_ok{Q:Exit->Act->World->Prop}(hR:Rgn S P O wl lim n ops m pairs T xp)(hO:SoundCall S P O)
  (hQ:∀w' G' β' a' bx' D,(∀k,k<m.length->D k=true)->At S n m T xp w0 G0 A0 D w' G' β' a' bx'->Q .normal a' w') :
  ∀(fuel:Nat) (listed:Array Bool) (a:Act) (w:World) (G:Ghost) (β:List BxG) (bx:Boxes),listed.size=ops.size->Down ops (doneOf listed)->sumN (fun k=>if doneOf listed k then 0 else 1) ops.size<=fuel->
   At S n m T xp w0 G0 A0 (doneOf listed) w G β a bx->wpAny P .any ops Q fuel listed a w:=by
 have hend:∀(listed:Array Bool) (a:Act) (w:World) (G:Ghost) (β:List BxG) (bx:Boxes),listed.size=ops.size->At S n m T xp w0 G0 A0 (doneOf listed) w G β a bx->Region.ready .any ops listed=[]->Q .normal a w:=by
  intro listed a w G β bx hsz hA hr
  refine hQ w G β a bx _ (fun k=>?_) hA
  induction k using Nat.strongRecOn with
  |_ k ih=>
   intro hk
   cases hd:doneOf listed k with
   |true=>rfl
   |false=>
    exfalso
    rw[hR.dr.len]at hk
    have ho:ops[k]?=some ops[k]:=by simp[hk]
    have:k∈Region.ready .any ops listed:=by
     rw[mem_ready]
     refine⟨?_,ops[k],ho,fun e he hb=>?_⟩
     ·have hk':k<listed.size:=by omega
      simp only[doneOf,Array.getD,hk',dif_pos]at hd ⊢
      exact hd
     ·have hp:e.on∈predsO ops[k]:=by
       unfold predsO
       exact List.mem_map.2 ⟨e,List.mem_filter.2 ⟨by simpa using he,hb⟩,rfl⟩
      have hlt:=hR.dr.lt k ops[k] ho e.on hp
      exact ih e.on hlt (by rw[hR.dr.len];omega)
    rw[hr]at this
    cases this
 intro fuel
 induction fuel with
 |zero=>
  intro listed a w G β bx hsz hD hf hA
  have hall:∀k,k<ops.size->doneOf listed k=true:=fun k hk=>by
   have:=sumN_get (f:=fun k=>if doneOf listed k then 0 else 1) hk
   cases hd:doneOf listed k with
   |true=>rfl
   |false=>simp only[hd,Bool.false_eq_true,if_false]at this;omega
  have hr:Region.ready .any ops listed=[]:=by
   rw[List.eq_nil_iff_forall_not_mem]
   intro j hj
   rw[mem_ready]at hj
   obtain⟨h1,o,ho,_⟩:=hj
   have hk:=(Array.getElem?_eq_some_iff.1 ho).1
   have h2:=hall j hk
   have hk':j<listed.size:=by omega
   simp only[doneOf,Array.getD,hk',dif_pos]at h1 h2
   rw[h1]at h2;cases h2
  exact⟨hr,hend listed a w G β bx hsz hA hr⟩
 |succ fuel ih=>
  intro listed a w G β bx hsz hD hf hA
  refine⟨hend listed a w G β bx hsz hA,fun i hi=>?_⟩
  rw[mem_ready]at hi
  obtain⟨h1,o,ho,h3⟩:=hi
  have hk:=(Array.getElem?_eq_some_iff.1 ho).1
  have hkm:i<m.length:=by rw[hR.dr.len];exact hk
  have hs:m[i]?=some m[i]:=List.getElem?_eq_getElem hkm
  have hk':i<listed.size:=by omega
  have hnew:doneOf listed i=false:=by
   simp only[doneOf,Array.getD,hk',dif_pos]at h1 ⊢
   exact h1
  have hpre:∀p∈predsO o,doneOf listed p=true:=by
   intro p hp
   unfold predsO at hp
   obtain⟨e,he,rfl⟩:=List.mem_map.1 hp
   obtain⟨he1,he2⟩:=List.mem_filter.1 he
   exact h3 e (by simpa using he1) he2
  have hmay:May ops m (doneOf listed) i o m[i]:=⟨hD,ho,hs,hpre,hnew⟩
  have hmore:doneOf (listed.setIfInBounds i true)=more (doneOf listed) i:=by
   funext j
   by_cases hj:j=i
   ·subst hj
    simp[doneOf,more,hk']
   ·simp[doneOf,more,hj,show ¬i=j from fun e=>hj e.symm]
  refine step_ok hR hO hmay hA fun w' G' β' a' bx' hA'=>?_
  rw[<-hmore]at hA'
  refine ih _ a' w' G' β' bx' (by simp[hsz]) ?_ ?_ hA'
  ·intro j oj hoj hj p hp
   rw[hmore]at hj ⊢
   unfold more at hj ⊢
   by_cases hji:j=i
   ·subst hji
    rw[ho]at hoj;cases hoj
    split
    ·rfl
    ·exact hpre p hp
   ·rw[if_neg hji]at hj
    split
    ·rfl
    ·exact hD j oj hoj hj p hp
  ·have h5:=sumN_upd (f:=fun k=>if doneOf (listed.setIfInBounds i true) k then 0 else 1) (g:=fun k=>if doneOf listed k then 0 else 1) (d:=i) hk fun t ht=>by
    rw[hmore];simp[more,ht]
   have e1:doneOf (listed.setIfInBounds i true) i=true:=by rw[hmore];simp[more]
   simp only[e1,hnew,if_true,Bool.false_eq_true,if_false]at h5
   omega
theorem writeP_set{wl lim:Nat}{st st':Store}{i v x y:Nat}{cs:List AV}(h:writeP wl lim st (.ptr i v x y) cs=some st'):∃o,st'=st.set i o/\∀(st2:Store),st2[i]?=st[i]?->writeP wl lim st2 (.ptr i v x y) cs=some (st2.set i o):=by
 unfold writeP at h
 simp only at h
 split at h
 ·rename_i v' sz rows hst
  split at h
  ·rename_i hc
   split at h
   ·rename_i r hr
    split at h
    ·rename_i hl
     simp only[Option.some.injEq]at h
     refine⟨_,h.symm,fun st2 h2=>?_⟩
     unfold writeP
     simp only[h2,hst,if_pos hc,hr,if_pos hl]
    ·cases h
   ·cases h
  ·cases h
 ·cases h
theorem store_act{O:Orc}{wl lim:Nat}{n:Nat}{st st':Store}{bx bx':Boxes}{i v x y:Nat}{u:AV}{e:Ent}(h:act O wl lim (.store n) [.val (.ptr i v x y),.val u] st bx=some (e,st',bx')) :
  ∃o,st'=st.set i o/\bx'=bx/\∀(st2:Store) (bx2:Boxes),st2[i]?=st[i]?->act O wl lim (.store n) [.val (.ptr i v x y),.val u] st2 bx2=some (e,st2.set i o,bx2):=by
 simp only[act,act0]at h
 split at h
 ·rename_i hc
  split at h
  ·rename_i s1 hw
   cases h
   obtain⟨o,h1,h2⟩:=writeP_set hw
   refine⟨o,h1,rfl,fun st2 bx2 he=>?_⟩
   simp only[act,act0,if_pos hc,h2 st2 he]
  ·cases h
 ·cases h
theorem evalDraw_ok{id:Nat}{Q:Exit->Act->World->Prop}{s e:St}(hm:mDraw S P ops n m pairs=true)(hO:SoundCall S P O)(hP:OPure S O)(_hs:FT w G β a s n)(h1:∀b,totT β a s G n b<=1)(he:evalDraw O wl lim m pairs s=some e)
  (hdrawn:∀d,FT { w with drawn:=d } G β a s n/\∀w' G' A',Mv { w with drawn:=d } G (totT β a s G n) w' G' A'->Mv w G (totT β a s G n) w' G' A')
  (hQ:∀w' G' β' a',FT w' G' β' a' e n->Mv w G (totT β a s G n) w' G' (totT β' a' e G' n)->Q .normal a' w'):(Code.region id ops true).wp P Q a w:=by
 have hd:=mDraw_ok hm
 unfold evalDraw at he
 split at he
 ·cases he
 ·rename_i e' sts hr
  split at he
  ·rename_i hc
   cases he
   simp only[Bool.and_eq_true,List.all_eq_true]at hc
   obtain⟨r1,r2,r3,r4⟩:=evalRec_get hr
   let T:Nat->St:=fun k=>(sts[k]?).getD s
   have hT:∀(i:Nat) x,sts[i]?=some x->T i=x:=fun i x hx=>by simp only[T,hx,Option.getD_some]
   have tx:Text S O wl lim m T:=⟨fun i so hi=>by
    obtain⟨x,y,a1,a2,a3⟩:=r4 i so hi
    rw[hT i x a1,hT (i+1) y a2]
    exact oneS hP a3⟩
   obtain⟨xp,hsn,hsp⟩:∃xp:Option (Nat×Nat×Store),(xp=none->∀i j,i<100000->(100000+i,j) ∉ pairs)/\∀p q X,xp=some (p,q,X)->Spc S O wl lim m pairs T p q X:=by
    by_cases hex:∃p q,p<100000/\(100000+p,q)∈pairs
    ·obtain⟨p,q,hp,hpq⟩:=hex
     obtain⟨t1,⟨a,b,t2,t3,t4,t5,t6,t7⟩,t8,t9,t10⟩:=hd.xt p q hp hpq
     have hql:q<m.length:=(List.getElem?_eq_some_iff.1 t3).1
     have hxs:=hc.1 _ hpq
     unfold pairOk at hxs
     simp only[show ¬100000+p<100000 by omega,if_false,show (100000+p) % 100000=p by omega]at hxs
     cases hX:xSt wl lim m sts p q with
     |none=>rw[hX]at hxs;cases hxs
     |some X=>
      refine⟨some (p,q,X),⟨fun h=>(by cases h),fun p' q' X' h=>?_⟩⟩
      cases h
      have hgap:(T q).st=(T (p+1)).st:=by
       obtain⟨d,hd'⟩:∃d,q=p+1+d:=⟨q-(p+1),by omega⟩
       rw[hd']
       exact text_gap tx d (by omega) fun j so a1 a2 a3=>t8 j so (by omega) (by omega) a3
      unfold xSt at hX
      split at hX
      ·rename_i a' s' b' t' g1 g2 g3 g4
       rw[t2]at g1;cases g1
       rw[t3]at g3;cases g3
       have hs':=hT p s' g2
       have ht':=hT q t' g4
       subst hs' ht'
       split at hX
       ·rename_i ao av bo bv ma i vi xi yi ui mb j vj xj yj uj k1 k2 k3 k4
        split at hX
        ·cases hX
        ·rename_i hij
         split at hX
         ·rename_i e0 X0 b0 hact
          cases hX
          have hact':act O wl lim (.store mb) [.val (.ptr j vj xj yj),.val uj] (T p).st []=some (e0,X,b0):=hact
          obtain⟨ob,o1,o2,o3⟩:=store_act hact'
          have onep:=tx.one p a t2
          obtain⟨ep,ap,_⟩:=onep.yes (by rw[t6];rfl)
          rw[k1,k2]at ap
          obtain⟨oa,p1,p2,p3⟩:=store_act ap
          have oneq:=tx.one q b t3
          obtain⟨eq,aq,_⟩:=oneq.yes (by rw[t7];rfl)
          rw[k3,k4]at aq
          have hjst:(T q).st[j]?=(T p).st[j]?:=by rw[hgap,p1,List.getElem?_set_ne hij]
          have q1:(T (q+1)).st=(T q).st.set j ob:=by
           have:=o3 (T q).st (T q).bx hjst
           rw[this]at aq
           simp only[Option.some.injEq,Prod.mk.injEq]at aq
           exact aq.2.1.symm
          refine⟨t1,hql,hpq,fun a' ha'=>?_,fun a' ha'=>?_,t8,t10,t9,fun a' ha' e bx bx' hh=>?_,fun a' ha' e bx bx' hh=>?_,fun k hk o ho=>?_⟩
          ·rw[t2]at ha';cases ha'
           exact⟨by rw[k1];rfl,t6⟩
          ·rw[t3]at ha';cases ha'
           exact⟨by rw[k3];rfl,t7⟩
          ·rw[t3]at ha';cases ha'
           rw[k3,k4]at hh ⊢
           rw[o3 (T q).st bx hjst]at hh
           simp only[Option.some.injEq,Prod.mk.injEq]at hh
           rw[o3 (T p).st bx rfl,hh.1,hh.2.2,o1]
          ·rw[t2]at ha';cases ha'
           rw[k1,k2]at hh ⊢
           rw[p3 (T p).st bx rfl]at hh
           simp only[Option.some.injEq,Prod.mk.injEq]at hh
           rw[p3 X bx (by rw[o1,List.getElem?_set_ne (fun e=>hij e.symm)]),hh.1,hh.2.2,q1,hgap,p1,o1,List.set_comm _ _ hij]
          ·have:=hc.1 _ hk
           unfold pairOk at this
           simp only[show ¬100000*(k+2)+p<100000 by omega,if_false,show (100000*(k+2)+p) % 100000=p by omega,show ¬100000*(k+2)+p<200000 by omega,show (100000*(k+2)+p) / 100000-2=k by omega]at this
           have hX2:xSt wl lim m sts p q=some X:=by
            unfold xSt
            simp only[t2,t3,g2,g4,k1,k2,k3,k4,if_neg hij,hact]
           rw[hX2]at this
           simp only at this
           split at this
           ·rename_i o' x y g5 g6 g7
            rw[ho]at g5;cases g5
            rw[hT k x g6,hT (k+1) y g7]
            exact this
           ·cases this
         ·cases hX
       ·cases hX
      ·cases hX
    ·exact⟨none,⟨fun _ i j hi hij=>hex ⟨i,j,hi,hij⟩,fun _ _ _ h=>(by cases h)⟩⟩
   have hR:Rgn S P O wl lim n ops m pairs T xp:=by
    refine⟨hd,tx,fun q w hql hqw o ho=>?_,hsn,hsp,fun i so j hi hj=>?_,hP⟩
    ·have:=hc.1 (q,w) hqw
     unfold pairOk at this
     simp only[hql,if_true]at this
     split at this
     ·rename_i o' x y x' y' g1 g2 g3 g4 g5
      rw[ho]at g1;cases g1
      rw[hT q x g2,hT (q+1) y g3,hT w x' g4,hT (w+1) y' g5]
      simpa only [Bool.and_eq_true] using this
     ·cases this
    ·have:=hc.2 so (mem_get hi)
     unfold boxOk at this
     rw[hj]at this
     rw[hT 0 s r2]
     exact this
   have h0:T 0=s:=hT 0 s r2
   have hlist:doneOf (Array.replicate ops.size false)=fun _=>false:=by
    funext k
    simp only[doneOf,Array.getD,Array.size_replicate,Array.getInternal_eq_getElem,Array.getElem_replicate]
    split<;>rfl
   have hinit:∀{K V:Type} (init:K->V) (eff:Nat->K->Option V) (N:Nat) (x:K),valF init eff (fun _=>false) N x=init x:=by
    intro K V init eff N x
    induction N with
    |zero=>rfl
    |succ N ih=>simp only[valF,ih];rfl
   obtain⟨d1,d2⟩:=hdrawn (w.drawn+1)
   refine wp_region_any hd.fol (wpAny_ok (w0:={ w with drawn:=w.drawn+1 }) (G0:=G) (A0:=totT β a s G n) hR hO (fun w' G' β' a' bx' D hD hA=>?_) ops.size _ a _ G β s.bx (by simp) ?_ ?_ ?_)
   ·have hall:∀{K V:Type} (init:K->V) (eff:Nat->K->Option V) (x:K),valF init eff D m.length x=valF init eff (fun k=>decide (k<m.length)) m.length x:=fun init eff x=>valF_same fun k hk hne=>by
     rw[hD k hk,decide_eq_true hk]at hne;exact absurd rfl hne
    have hTe:T m.length=e:=hT _ e r3
    have e1:vT m T D=getE e.env:=by
     funext t
     rw[<-hTe,<-text_T tx (Nat.le_refl _)]
     exact hall _ _ t
    have e2:vX S m T xp D=e.st:=by
     rw[vX_nil fun p q X hx _=>hD p (by have:=hsp p q X hx;have:=this.lt;have:=(hsp p q X hx).ql;omega)]
     rw[<-hTe,<-text_S tx (Nat.le_refl _)]
     exact hall _ _ ()
    have e3:bx'=e.bx:=by
     apply List.ext_getElem?
     intro b
     rw[hA.bb b,<-hTe,<-text_B tx (Nat.le_refl _)]
     exact hall _ _ b
    have f1:=hA.fs
    have f2:=hA.mv
    rw[e1,e2,e3]at f1 f2
    exact hQ w' G' β' a' f1 (d2 _ _ _ f2)
   ·intro j o _ hj
    rw[hlist]at hj;cases hj
   ·rw[hlist]
    have:∀N,sumN (fun _=>1) N=N:=fun N=>by induction N with|zero=>rfl|succ N ih=>simp[sumN,ih]
    simp[this]
   ·rw[hlist]
    have e1:vT m T (fun _=>false)=getE s.env:=by funext t;rw[<-h0];exact hinit _ _ _ t
    have e2:vX S m T xp (fun _=>false)=s.st:=by rw[vX_nil fun p q X _ h=>by cases h];rw[<-h0];exact hinit _ _ _ ()
    refine⟨?_,?_,fun b=>?_,by rw[h0],fun i so j hi hj _ t=>?_⟩
    ·rw[e1,e2];exact d1
    ·rw[e1,e2];exact Mv.refl h1
    ·rw[<-h0];exact(hinit _ _ _ b).symm
    ·rw[e1,<-h0];exact noFp_get (hR.bo i so j hi hj) t
  ·cases he
end Ax
namespace Ax
open Go
variable {S:Nat->Option SFunc}{P:Program}{O:Orc}{wl lim n:Nat}
variable {w w':World}{G G':Ghost}{β β':List BxG}{a:Act}{s s':St}
def peel:Code->Code
 |.scope c=>peel c
 |c=>c
def mRegion(S:Nat->Option SFunc)(P:Program)(n:Nat)(ops:Array Oper)(draw:Bool)(m:List SOper):Option (List (Nat×Nat))->Bool
 |none=>!draw&&mOpers S P ops n ops.toList m
 |some pairs=>draw&&mDraw S P ops n m pairs
def mCode(S:Nat->Option SFunc)(P:Program)(n:Nat):SCode->Code->Bool
 |.skip,c=>match peel c with|.skip=>true|_=>false
 |.region m draw _,c=>match peel c with
  |.region _ ops d=>mRegion S P n ops d m draw
  |_=>false
 |.seq x y,c=>match x with
  |.frz _=>mCode S P n y c
  |.frzB _ _=>mCode S P n y c
  |.frzH _ _=>mCode S P n y c
  |x=>match peel c with
   |.seq a b=>mCode S P n x a&&mCode S P n y b
   |_=>false
 |.cond t _ x _ y,c=>match peel c with
  |.cond u a b=>mSrc u t&&mCode S P n x a&&mCode S P n y b
  |_=>false
 |.block i x,c=>match peel c with
  |.block j a=>i==j&&mCode S P n x a
  |_=>false
 |.loop x,c=>match peel c with
  |.loop a=>mCode S P n x a
  |_=>false
 |.exit i,c=>match peel c with
  |.exit j=>i==j
  |_=>false
 |.ret,c=>match peel c with
  |.ret=>true
  |_=>false
 |.frz _,_=>false
 |.frzB _ _,_=>false
 |.frzH _ _,_=>false
def toExit:Ex->Exit
 |.normal=>.normal
 |.exit id=>.exit id
 |.ret _=>.ret
def Pst(n:Nat)(rs:List SRes)(A:Nat->Nat)(w:World)(G:Ghost)(x:Ex)(s':St)(w':World)(G':Ghost)(β':List BxG)(a':Act):Prop:=
 ∃sr,FT w' G' β' a' sr n/\Mv w G A w' G' (totT β' a' sr G' n)/\(match x with|.ret v=>resV sr rs=some v/\s'.st=sr.st|_=>s'=sr)
theorem Pst.trans{rs:List SRes}{A A1:Nat->Nat}{w1:World}{G1:Ghost}{x:Ex}{a':Act}(h:Mv w G A w1 G1 A1)(k:Pst n rs A1 w1 G1 x s' w' G' β' a'):Pst n rs A w G x s' w' G' β' a':=by
 obtain⟨sr,h1,h2,h3⟩:=k
 exact⟨sr,h1,h.trans h2,h3⟩
def LoopWp(P:Program)(c:Code)(Q:Exit->Act->World->Prop)(a:Act)(w:World):Prop:=
 ∀(b:Frame) (k:List Item) (cs:List Frame),∃e a' w',Q e a' w'/\Arrives P (lone (b.at a (.code c::.inLoop c::k)) cs w) b k cs e a' w'
theorem loopWp_step{c:Code}{Q:Exit->Act->World->Prop}{w:World}(h:c.wp P (Exit.then (LoopWp P c Q) Q) a w):LoopWp P c Q a w:=by
 intro b k cs
 obtain⟨e,a₁,w₁,hq,harr⟩:=h b (.inLoop c::k) cs
 cases e with
 |normal=>
  obtain⟨e₂,a₂,w₂,hq₂,harr₂⟩:=hq b k cs
  exact⟨e₂,a₂,w₂,hq₂,.of_steps (Steps.trans harr (.one step_inLoop)) harr₂⟩
 |exit id=>exact⟨_,a₁,w₁,hq,.pass (x:=.inLoop c) rfl (fun _ _=>.inl (by simp)) harr⟩
 |goto l=>exact⟨_,a₁,w₁,hq,.pass (x:=.inLoop c) rfl (fun _ _=>.inl (by simp)) harr⟩
 |ret=>exact⟨_,a₁,w₁,hq,.pass (x:=.inLoop c) rfl (fun _ _=>.inl (by simp)) harr⟩
 |panic ch=>exact⟨_,a₁,w₁,hq,.pass (x:=.inLoop c) rfl (fun _ _=>.inl (by simp)) harr⟩
 |outgrown=>exact⟨_,a₁,w₁,hq,.pass (x:=.inLoop c) rfl (fun _ _=>.inl (by simp)) harr⟩
theorem loopWp_loop{c:Code}{Q:Exit->Act->World->Prop}{w:World}(h:LoopWp P c Q a w):(Code.loop c).wp P Q a w:=by
 intro b k cs
 obtain⟨e,a',w',hq,harr⟩:=h b k cs
 exact⟨e,a',w',hq,.of_steps (.one step_loop) harr⟩
theorem wp_peel{Q:Exit->Act->World->Prop}{w:World}:∀{c:Code},(peel c).wp P (Exit.noGoto Q) a w->c.wp P Q a w
 |.scope c,h=>wp_scope_straight (wp_peel (c:=c) (wp_mono h fun e _ _ he=>by cases e<;>exact he))
 |.skip,h|.region ..,h|.seq ..,h|.cond ..,h|.block ..,h|.loop ..,h|.rangeFunc ..,h|.exit _,h|.label _,h|.goto _,h|.refuse _,h|.ret,h=>wp_mono h fun e _ _ he=>by
  cases e<;>first|exact he|exact he.elim
def SoundLoop(S:Nat->Option SFunc)(P:Program)(O:Orc):Prop:=
 ∀wl lim rs c s x s',O.loop wl lim rs c s=some (x,s')->∀code n,mCode S P n c code=true->∀(w:World) (G:Ghost) (β:List BxG) (a:Act),FT w G β a s n->(∀b,totT β a s G n b<=1)->
  ∀(Q:Exit->Act->World->Prop),(∀w' G' β' a',Pst n rs (totT β a s G n) w G x s' w' G' β' a'->Q (toExit x) a' w')->LoopWp P code Q a w
theorem FT.clear(h:FT w G β a s n)(l:List Nat):FT w G β a { s with env:=clearE l s.env } n/\∀b,totT β a { s with env:=clearE l s.env } G n b<=totT β a s G n b:=
 FS.forget h fun t=>by
  simp only[getE_clear]
  split
  ·exact .inr rfl
  ·exact .inl rfl
theorem FT.kill(h:FT w G β a s n)(c:Src)(l:List Nat):FT w G β a { s with env:=clearE l (killE s.env c) } n/\∀b,totT β a { s with env:=clearE l (killE s.env c) } G n b<=totT β a s G n b:=
 FS.forget h fun t=>by
  have h1:=getE_kill t [c] s.env
  simp only[List.foldl_cons,List.foldl_nil]at h1
  simp only[getE_clear,h1]
  split
  ·exact .inr rfl
  ·split
   ·exact .inr rfl
   ·exact .inl rfl
theorem Mv.less{A A' A'':Nat->Nat}(h:Mv w G A w' G' A')(hl:∀b,A'' b<=A' b):Mv w G A w' G' A'':=
 h.weaken (fun _=>Nat.le_refl _) (fun b hb=>Nat.le_trans (hl b) (h.cnt b hb)) fun b=>Nat.le_trans (hl b) (h.one b)
theorem stp_drawn(w:World)(G:Ghost)(d:Nat):Stp w G { w with drawn:=d } G:=⟨fun _ _ hi=>⟨rfl,hi⟩,fun _ loc h=>⟨loc,h,Nat.le_refl _,fun _=>rfl⟩⟩
theorem FT.drawn(h:FT w G β a s n)(d:Nat):FT { w with drawn:=d } G β a s n where
 defs:=h.defs
 size:=h.size
 rep:=fun t=>(h.rep t).stp (stp_drawn w G d) fun _ _=>⟨rfl,rfl⟩
 lt:=h.lt
 inv:=inv_keep h.inv (stp_drawn w G d) rfl (fun _ _=>⟨rfl,rfl⟩) h.inv.tips
 box:=repB_keep h.box (stp_drawn w G d) fun _ _=>⟨rfl,rfl⟩
theorem Mv.drawn{A A':Nat->Nat}{d:Nat}(h:Mv { w with drawn:=d } G A w' G' A'):Mv w G A w' G' A':=
 ⟨(stp_drawn w G d).trans h.stp,h.cnt,h.one,fun b hb h0=>h.far b hb h0,h.size,h.os,h.out⟩
theorem frz_ok{t:Nat}{v v':AV}{st':Store}(hs:FT w G β a s n)(h1:∀b,totT β a s G n b<=1)(hv:getE s.env t=.val v)(hf:freezeV wl v s.st=some (v',st')) :
  ∃G',FT w G' β a ⟨setE s.env t (.val v'),s.bx,st'⟩ n/\Mv w G (totT β a s G n) w G' (totT β a ⟨setE s.env t (.val v'),s.bx,st'⟩ G' n):=by
 have htn:t<n:=by
  rcases Nat.lt_or_ge t n with h|h
  ·exact h
  ·rw[hs.lt t h]at hv;cases hv
 have hrt:=hs.rep t
 rw[hv]at hrt
 obtain⟨G',hF,hr,hno⟩:=freezeV_ok (w:=w) hs.inv (fun b=>by have:=h1 b;unfold totT tot at this;omega) hrt hf
 have hcnt:∀b,cntE b (.val v') (tau a t)=0:=fun b=>cnt_noOwn b _ _ hno
 have hst:∀b,0<cntE b (getE s.env t) (tau a t)\/True:=fun _=>.inr trivial
 have hsum:∀b,sumN (fun u=>cntE b (getE (setE s.env t (.val v')) u) (tau a u)) n<=sumN (fun u=>cntE b (getE s.env u) (tau a u)) n:=fun b=>sumN_le fun u _=>by
  rw[getE_set]
  by_cases hu:u=t
  ·subst hu;rw[if_pos rfl,hcnt b];omega
  ·rw[if_neg hu];exact Nat.le_refl _
 have hfar:∀b,0<sumN (fun u=>cntE b (getE s.env u) (tau a u)) n+cntB b β s.bx->Untouched w G w G' b:=fun b hb=>⟨hF.far b (by have:=h1 b;unfold totT tot at this;omega),rfl⟩
 have hle:∀b,totT β a ⟨setE s.env t (.val v'),s.bx,st'⟩ G' n b<=totT β a s G n b:=fun b=>by
  have e1:=hsum b
  have e2:=hF.cnt b
  show sumN (fun u=>cntE b (getE (setE s.env t (.val v')) u) (tau a u)) n+cntB b β s.bx+cntS b G'.ls st'<=sumN (fun u=>cntE b (getE s.env u) (tau a u)) n+cntB b β s.bx+cntS b G.ls s.st
  omega
 refine⟨G',⟨hs.defs,hs.size,fun u=>?_,fun u hu=>?_,hF.inv,repB_keep (bx:=s.bx) hs.box hF.stp fun b hb=>hfar b (by omega)⟩,⟨hF.stp,fun b _=>hle b,fun b=>Nat.le_trans (hle b) (h1 b),fun b hb h0=>?_,Nat.le_refl _,rfl,rfl⟩⟩
 ·show RepE w G' β (getE (setE s.env t (.val v')) u) (tau a u)
  rw[getE_set]
  by_cases hu:u=t
  ·subst hu;rw[if_pos rfl];exact hr
  ·rw[if_neg hu]
   refine(hs.rep u).stp hF.stp fun b hb=>hfar b ?_
   have hun:u<n:=by
    rcases Nat.lt_or_ge u n with h|h
    ·exact h
    ·rw[hs.lt u h]at hb;simp[cntE]at hb
   have:=sumN_get (f:=fun u=>cntE b (getE s.env u) (tau a u)) hun
   omega
 ·show getE (setE s.env t (.val v')) u=.none
  rw[getE_set,if_neg (by omega)]
  exact hs.lt u hu
 ·have:cntS b G.ls s.st=0:=by unfold totT tot at h0;omega
  exact⟨hF.far b this,rfl⟩
theorem freezeV_cell{wl:Nat}{v v':AV}{st st':Store}(h:freezeV wl v st=some (v',st')):v'.isCell=true:=by
 unfold freezeV at h
 split at h
 ·split at h
  ·split at h
   ·split at h
    ·cases h;rfl
    ·cases h
   ·cases h
  ·cases h
 ·cases h;rfl
 ·cases h
theorem BoxAt.put{row:List AV}{g:BxG}{k:Nat}{v:AV}{u:Value}(h:BoxAt w G row g)(hk:k<row.length)(hu:g.vals[k]?=some u)(hr:RepV w G v u)(hc:v.isCell=true):BoxAt w G (paste row k [v]) g:=by
 have hv:RepC w G [v] [u]:=⟨rfl,fun i c x h1 h2=>by
  cases i with
  |zero=>simp at h1 h2;subst h1;subst h2;exact hr
  |succ i=>simp at h1⟩
 have hs:paste g.vals k [u]=g.vals:=by
  have hkv:k<g.vals.length:=(List.getElem?_eq_some_iff.1 hu).1
  have e:=paste_self g.vals k 1 (by omega)
  have e2:(g.vals.drop k).take 1=[u]:=by
   rw[List.drop_eq_getElem_cons hkv]
   simp[(List.getElem?_eq_some_iff.1 hu).2]
  rw[e2]at e
  exact e
 refine⟨?_,allCells_paste h.cel (by simp[AV.allCells,hc]) (by simp;omega),?_⟩
 ·have:=h.rep.paste hv (n:=k) (by simp;omega)
  rwa [hs]at this
 ·rcases h.lies with⟨h1,h2⟩|⟨b,c,e,h1,h2,h3,h4,h5⟩
  ·subst h2;simp at hk
  ·exact .inr ⟨b,c,e,h1,h2,by rw[paste_length];exact h3,h4,h5⟩
theorem frzB_ok{j k:Nat}{row:List AV}{v v':AV}{st':Store}(hs:FT w G β a s n)(h1:∀b,totT β a s G n b<=1)(hr:s.bx[j]?=some row)(hv:row[k]?=some v)(hf:freezeV wl v s.st=some (v',st')) :
  ∃G',FT w G' β a ⟨s.env,s.bx.set j (paste row k [v']),st'⟩ n/\Mv w G (totT β a s G n) w G' (totT β a ⟨s.env,s.bx.set j (paste row k [v']),st'⟩ G' n):=by
 have hjl:=(List.getElem?_eq_some_iff.1 hr).1
 have hkl:=(List.getElem?_eq_some_iff.1 hv).1
 obtain⟨g,hg⟩:∃g,β[j]?=some g:=⟨_,List.getElem?_eq_getElem (by rw[hs.box.len];exact hjl)⟩
 have hbx:=hs.box.box j row g hr hg
 obtain⟨u,hu⟩:∃u,g.vals[k]?=some u:=⟨_,List.getElem?_eq_getElem (by rw[<-hbx.rep.1];exact hkl)⟩
 obtain⟨G',hF,hrep,hno⟩:=freezeV_ok (w:=w) hs.inv (fun b=>by have:=h1 b;unfold totT tot at this;omega) (hbx.rep.2 k v u hv hu) hf
 have hcel:=freezeV_cell hf
 have hfar:∀b,0<sumN (fun u=>cntE b (getE s.env u) (tau a u)) n+cntB b β s.bx->Untouched w G w G' b:=fun b hb=>⟨hF.far b (by have:=h1 b;unfold totT tot at this;omega),rfl⟩
 have hbc:∀b,cntB b β (s.bx.set j (paste row k [v']))<=cntB b β s.bx:=fun b=>by
  have e1:=cntB_set b β s.bx j g row g (paste row k [v']) hg hr
  have e2:β.set j g=β:=by
   obtain⟨hj,e⟩:=List.getElem?_eq_some_iff.1 hg
   rw[<-e];exact List.set_getElem_self _
  have hs':paste g.vals k [u]=g.vals:=by
   have hkv:k<g.vals.length:=(List.getElem?_eq_some_iff.1 hu).1
   have e:=paste_self g.vals k 1 (by omega)
   have e2:(g.vals.drop k).take 1=[u]:=by
    rw[List.drop_eq_getElem_cons hkv]
    simp[(List.getElem?_eq_some_iff.1 hu).2]
   rw[e2]at e
   exact e
  have e3:=cntL_paste b row [v'] g.vals [u] k hbx.rep.1 rfl (by simp;omega)
  rw[hs']at e3
  have e4:cntL b [v'] [u]=0:=by simp only[cntL,cnt_noOwn b v' u hno]
  rw[e2]at e1
  omega
 have hle:∀b,totT β a ⟨s.env,s.bx.set j (paste row k [v']),st'⟩ G' n b<=totT β a s G n b:=fun b=>by
  have e1:=hbc b
  have e2:=hF.cnt b
  show sumN (fun u=>cntE b (getE s.env u) (tau a u)) n+cntB b β (s.bx.set j (paste row k [v']))+cntS b G'.ls st'<=sumN (fun u=>cntE b (getE s.env u) (tau a u)) n+cntB b β s.bx+cntS b G.ls s.st
  omega
 have hB:=repB_keep (bx:=s.bx) hs.box hF.stp fun b hb=>hfar b (by omega)
 refine⟨G',⟨hs.defs,hs.size,fun u=>?_,hs.lt,hF.inv,⟨by simpa using hB.len,fun i r x e1 e2=>?_⟩⟩,⟨hF.stp,fun b _=>hle b,fun b=>Nat.le_trans (hle b) (h1 b),fun b hb h0=>?_,Nat.le_refl _,rfl,rfl⟩⟩
 ·refine(hs.rep u).stp hF.stp fun b hb=>hfar b ?_
  have hun:u<n:=by
   rcases Nat.lt_or_ge u n with h|h
   ·exact h
   ·rw[hs.lt u h]at hb;simp[cntE]at hb
  have:=sumN_get (f:=fun u=>cntE b (getE s.env u) (tau a u)) hun
  omega
 ·simp only[List.getElem?_set]at e1
  by_cases hij:j=i
  ·subst hij
   rw[if_pos rfl,if_pos hjl]at e1
   cases e1
   rw[hg]at e2;cases e2
   exact(hB.box j row g hr hg).put hkl hu hrep hcel
  ·rw[if_neg hij]at e1
   exact hB.box i r x e1 e2
 ·have:cntS b G.ls s.st=0:=by unfold totT tot at h0;omega
  exact⟨hF.far b this,rfl⟩
theorem frzH_frz{wl lim:Nat}{st st1 st2:Store}{id ver i k off:Nat}{v v':AV}{u:Value}(hI:Inv w G st)(hX:∀b,cntS b G.ls st<=1)(hp:RepV w G (.ptr id ver i k) u)
  (hr:readP st (.ptr id ver i (k+off)) 1=some [v])(hf:freezeV wl v st=some (v',st1))(hw:writeP wl lim st1 (.ptr id ver i (k+off)) [v']=some st2):∃G',Frz w G st G' st2:=by
 unfold readP at hr
 simp only at hr
 split at hr
 ·rename_i ve sz rows hst
  split at hr
  ·rename_i hve
   subst hve
   split at hr
   ·rename_i r hrow
    obtain⟨loc,b,o,c,e,xs,hl,hmp,hlv,hra,hpv,hla,hcap,hblk,hheap,hle,hlen,htip,hvi,hrx,hcells⟩:=ptr_row hI hp hst hrow
    obtain⟨hcs,hle2,hl2⟩:=cut_some hr
    have hkr:k+off<r.length:=by omega
    have hv:r[k+off]?=some v:=by
     have:((r.drop (k+off)).take 1)[0]?=some v:=by rw[<-hcs];rfl
     rw[List.getElem?_take,if_pos (by omega),List.getElem?_drop]at this
     exact this
    obtain⟨x,hx⟩:∃x,xs[k+off]?=some x:=⟨_,List.getElem?_eq_getElem (by rw[<-hrx.1];exact hkr)⟩
    obtain⟨G',hF,hrep,hno⟩:=freezeV_ok hI hX (hrx.2 _ _ _ hv hx) hf
    have hcel:=freezeV_cell hf
    have hp':RepV w G' (.ptr id ve i k) u:=hp.noOwn_stp hF.stp rfl
    unfold writeP at hw
    simp only at hw
    split at hw
    ·rename_i ve1 sz1 rows1 hst1
     split at hw
     ·rename_i hve1
      simp only[Bool.and_eq_true,decide_eq_true_eq]at hve1
      obtain⟨rfl,_⟩:=hve1
      split at hw
      ·rename_i r1 hrow1
       split at hw
       ·rename_i hfit
        cases hw
        obtain⟨loc1,b1,o1,c1,e1,xs1,hl1,hmp1,hlv1,hra1,hpv1,hla1,hcap1,hblk1,hheap1,hle1,hlen1,htip1,hvi1,hrx1,hcells1⟩:=ptr_row hF.inv hp' hst1 hrow1
        have hk1:k+off<r1.length:=by simp only[List.length_singleton]at hfit;omega
        obtain⟨x1,hx1⟩:∃x,xs1[k+off]?=some x:=⟨_,List.getElem?_eq_getElem (by rw[<-hrx1.1];exact hk1)⟩
        rw[hpv]at hpv1
        simp only[Value.pointer.injEq,Option.some.injEq,Addr.mk.injEq,and_true]at hpv1
        obtain⟨hb,ho⟩:=hpv1
        have hxx:x1=x:=by
         have a1:=hcells i xs (k+off) x hvi hx
         have a2:=hcells1 i xs1 (k+off) x1 hvi1 hx1
         rw[hb,show o+(i*sz+(k+off))=o1+(i*sz1+(k+off)) by omega,a2]at a1
         cases a1;rfl
        subst hxx
        have hs:paste xs1 (k+off) [x1]=xs1:=by
         have e:=paste_self xs1 (k+off) 1 (by have:=(List.getElem?_eq_some_iff.1 hx1).1;omega)
         have e2:(xs1.drop (k+off)).take 1=[x1]:=by
          rw[List.drop_eq_getElem_cons (List.getElem?_eq_some_iff.1 hx1).1]
          simp[(List.getElem?_eq_some_iff.1 hx1).2]
         rw[e2]at e
         exact e
        have hrep1:RepC w G' (paste r1 (k+off) [v']) xs1:=by
         have hvc:RepC w G' [v'] [x1]:=⟨rfl,fun i c x h1 h2=>by
          cases i with
          |zero=>simp at h1 h2;subst h1;subst h2;exact hrep
          |succ i=>simp at h1⟩
         have:=hrx1.paste hvc (n:=k+off) (by simp;omega)
         rwa [hs]at this
        have hnew:RepO w G' (.rows ve1 sz1 (rows1.set i (paste r1 (k+off) [v']))) loc1:=by
         refine⟨hmp1,hlv1,fits_iff.2 fun r' hr'=>?_,fun r' hr'=>?_,by simp[hra1.len],hra1.size,by simp[hra1.vlen],fun i' r' xs' h1 h2=>?_,.inr ⟨b1,o1,c1,e1,hla1,hcap1,hheap1,hle1,by simpa using hlen1,htip1,hcells1⟩⟩
         ·rcases List.mem_or_eq_of_mem_set hr' with h|h
          ·exact fits_iff.1 hra1.fit r' h
          ·rw[h,paste_length];exact fits_iff.1 hra1.fit r1 (mem_get hrow1)
         ·rcases List.mem_or_eq_of_mem_set hr' with h|h
          ·exact hra1.cel r' h
          ·rw[h];exact allCells_paste (hra1.cel r1 (mem_get hrow1)) (by simp[AV.allCells,hcel]) (by simpa using hfit)
         ·rw[List.getElem?_set]at h1
          by_cases hii:i=i'
          ·subst hii
           rw[if_pos rfl]at h1
           split at h1
           ·cases h1
            rw[hvi1]at h2;cases h2
            exact hrep1
           ·cases h1
          ·rw[if_neg hii]at h1
           exact hra1.reps i' r' xs' h1 h2
        refine⟨G',hF.trans ⟨Stp.refl w G',inv_set hF.inv (Stp.refl w G') (set_self _ _ _ hl1).symm (fun _ _ _ _ _ _ _ _=>⟨rfl,rfl⟩) hnew hF.inv.tips,fun b'=>?_,fun _ _=>rfl⟩⟩
        have h1:=cntS_set b' G'.ls st1 id loc1 _ loc1 (.rows ve1 sz1 (rows1.set i (paste r1 (k+off) [v']))) hl1 hst1
        rw[set_self _ _ _ hl1]at h1
        have h4:=cntLL_set b' rows1 loc1.vals i r1 xs1 (paste r1 (k+off) [v']) xs1 hrow1 hvi1
        rw[set_self _ _ _ hvi1]at h4
        have e3:=cntL_paste b' r1 [v'] xs1 [x1] (k+off) hrx1.1 rfl (by simp;omega)
        rw[hs]at e3
        have e4:cntL b' [v'] [x1]=0:=by simp only[cntL,cnt_noOwn b' v' x1 hno]
        simp only[cntO]at h1
        omega
       ·cases hw
      ·cases hw
     ·cases hw
    ·cases hw
   ·cases hr
  ·cases hr
 ·cases hr
theorem frzH_frz2{wl lim:Nat}{st st1 st2:Store}{id ver i k off:Nat}{v v':AV}{u:Value}(hI:Inv w G st)(hX:∀b,cntS b G.ls st<=1)(hp:RepV w G (.ptr id ver i k) u)
  (hr:readP st (.ptr id ver i (k+off)) 1=some [v])(hf:freezeH wl v st=some (v',st1))(hw:writeP wl lim st1 (.ptr id ver i (k+off)) [v']=some st2):∃G',Frz w G st G' st2:=by
 unfold freezeH at hf
 split at hf
 ·rename_i sz' rows'
  cases hf
  unfold readP at hr
  simp only at hr
  split at hr
  ·rename_i ve sz rows hst
   split at hr
   ·rename_i hve
    subst hve
    split at hr
    ·rename_i r hrow
     obtain⟨hcs,hle2,hl2⟩:=cut_some hr
     have hkr:k+off<r.length:=by omega
     have hv:r[k+off]?=some (.raw sz' rows'):=by
      have:((r.drop (k+off)).take 1)[0]?=some (.raw sz' rows'):=by rw[<-hcs];rfl
      rw[List.getElem?_take,if_pos (by omega),List.getElem?_drop]at this
      exact this
     have hid:id<st.length:=(List.getElem?_eq_some_iff.1 hst).1
     have hst1:(st++[AObj.rows 0 sz' rows'])[id]?=some (.rows ve sz rows):=by rw[List.getElem?_append_left hid];exact hst
     unfold writeP at hw
     simp only[hst1,hrow]at hw
     split at hw
     ·split at hw
      ·cases hw
       exact raw_frz hI hp hst hrow hv
      ·cases hw
     ·cases hw
    ·cases hr
   ·cases hr
  ·cases hr
 ·exact frzH_frz hI hX hp hr hf hw
theorem frzH_ok{wl lim:Nat}{t id ver i k off:Nat}{v v':AV}{st1 st2:Store}(hs:FT w G β a s n)(h1:∀b,totT β a s G n b<=1)(ht:getE s.env t=.val (.ptr id ver i k))
  (hr:readP s.st (.ptr id ver i (k+off)) 1=some [v])(hf:freezeH wl v s.st=some (v',st1))(hw:writeP wl lim st1 (.ptr id ver i (k+off)) [v']=some st2) :
  ∃G',FT w G' β a ⟨s.env,s.bx,st2⟩ n/\Mv w G (totT β a s G n) w G' (totT β a ⟨s.env,s.bx,st2⟩ G' n):=by
 have hrt:RepE w G β (getE s.env t) (tau a t):=hs.rep t
 rw[ht]at hrt
 obtain⟨G',hF⟩:=frzH_frz2 hs.inv (fun b=>by have:=h1 b;unfold totT tot at this;omega) hrt hr hf hw
 have hfar:∀b,0<sumN (fun u=>cntE b (getE s.env u) (tau a u)) n+cntB b β s.bx->Untouched w G w G' b:=fun b hb=>⟨hF.far b (by have:=h1 b;unfold totT tot at this;omega),rfl⟩
 have hle:∀b,totT β a ⟨s.env,s.bx,st2⟩ G' n b<=totT β a s G n b:=fun b=>by
  have e2:=hF.cnt b
  show sumN (fun u=>cntE b (getE s.env u) (tau a u)) n+cntB b β s.bx+cntS b G'.ls st2<=sumN (fun u=>cntE b (getE s.env u) (tau a u)) n+cntB b β s.bx+cntS b G.ls s.st
  omega
 refine⟨G',⟨hs.defs,hs.size,fun u=>?_,hs.lt,hF.inv,repB_keep (bx:=s.bx) hs.box hF.stp fun b hb=>hfar b (by omega)⟩,⟨hF.stp,fun b _=>hle b,fun b=>Nat.le_trans (hle b) (h1 b),fun b hb h0=>?_,Nat.le_refl _,rfl,rfl⟩⟩
 ·refine(hs.rep u).stp hF.stp fun b hb=>hfar b ?_
  have hun:u<n:=by
   rcases Nat.lt_or_ge u n with h|h
   ·exact h
   ·rw[hs.lt u h]at hb;simp[cntE]at hb
  have:=sumN_get (f:=fun u=>cntE b (getE s.env u) (tau a u)) hun
  omega
 ·have:cntS b G.ls s.st=0:=by unfold totT tot at h0;omega
  exact⟨hF.far b this,rfl⟩
end Ax
namespace Ax
open Go
variable {S:Nat->Option SFunc}{P:Program}{O:Orc}{wl lim n:Nat}
theorem noGoto_to{Q:Exit->Act->World->Prop}{x:Ex}{a:Act}{w:World}(h:Q (toExit x) a w):Exit.noGoto Q (toExit x) a w:=by
 cases x<;>exact h
theorem mCode_seq{x y:SCode}{c:Code}(h:mCode S P n (.seq x y) c=true):(∃t,x=.frz t/\mCode S P n y c=true)\/(∃j k,x=.frzB j k/\mCode S P n y c=true)\/(∃j k,x=.frzH j k/\mCode S P n y c=true)\/(∃a b,peel c=.seq a b/\mCode S P n x a=true/\mCode S P n y b=true):=by
 unfold mCode at h
 split at h
 ·exact .inl ⟨_,rfl,h⟩
 ·exact .inr (.inl ⟨_,_,rfl,h⟩)
 ·exact .inr (.inr (.inl ⟨_,_,rfl,h⟩))
 ·split at h
  ·rename_i a b he
   simp only[Bool.and_eq_true]at h
   exact .inr (.inr (.inr ⟨a,b,he,h.1,h.2⟩))
  ·cases h
theorem sem_ok(hO:SoundCall S P O)(hL:SoundLoop S P O)(hP:OPure S O){rs:List SRes}:∀(c:SCode)(code:Code)(s s':St)(x:Ex)(w:World)(G:Ghost)(β:List BxG)(a:Act)(Q:Exit->Act->World->Prop),
  mCode S P n c code=true->FT w G β a s n->(∀b,totT β a s G n b<=1)->sem O wl lim rs c s=some (x,s')->
  (∀w' G' β' a',Pst n rs (totT β a s G n) w G x s' w' G' β' a'->Q (toExit x) a' w')->code.wp P Q a w
 |.skip,code,s,s',x,w,G,β,a,Q,hm,hs,h1,he,hQ=>by
  refine wp_peel ?_
  simp only[sem,Option.some.injEq,Prod.mk.injEq]at he
  obtain⟨rfl,rfl⟩:=he
  unfold mCode at hm
  split at hm
  ·rename_i hp
   rw[hp]
   exact wp_skip (hQ w G β a ⟨s,hs,Mv.refl h1,rfl⟩)
  ·cases hm
 |.region m draw clr,code,s,s',x,w,G,β,a,Q,hm,hs,h1,he,hQ=>by
  refine wp_peel ?_
  unfold mCode at hm
  split at hm
  ·rename_i id ops d hp
   rw[hp]
   unfold sem at he
   cases draw with
   |none=>
    simp only[mRegion,Bool.and_eq_true,Bool.not_eq_true']at hm
    obtain⟨rfl,hm⟩:=hm
    simp only at he
    split at he
    ·rename_i s1 hs1
     cases he
     refine wp_region ?_
     have:=evalOps_ok (Q:=Exit.noGoto Q) hO ops.toList m 0 w G β a s rfl hm hs h1 hs1 fun w' G' β' a' f1 f2=>by
      obtain⟨g1,g2⟩:=f1.clear clr
      exact hQ w' G' β' a' ⟨_,g1,f2.less g2,rfl⟩
     rw[List.range_eq_range']
     simpa using this
    ·cases he
   |some pairs=>
    simp only[mRegion,Bool.and_eq_true]at hm
    obtain⟨rfl,hm⟩:=hm
    simp only at he
    split at he
    ·rename_i s1 hs1
     cases he
     exact evalDraw_ok (Q:=Exit.noGoto Q) hm hO hP hs h1 hs1 (fun d=>⟨hs.drawn d,fun _ _ _ h=>h.drawn⟩) fun w' G' β' a' f1 f2=>by
      obtain⟨g1,g2⟩:=f1.clear clr
      exact hQ w' G' β' a' ⟨_,g1,f2.less g2,rfl⟩
    ·cases he
  ·cases hm
 |.seq c1 c2,code,s,s',x,w,G,β,a,Q,hm,hs,h1,he,hQ=>by
  rcases mCode_seq hm with⟨t,rfl,hm2⟩|⟨j,k,rfl,hm2⟩|⟨t,off,rfl,hm2⟩|⟨a1,b1,hp,hm1,hm2⟩
  ·unfold sem at he
   cases hc:sem O wl lim rs (.frz t) s with
   |none=>rw[hc]at he;cases he
   |some y=>
    obtain⟨x1,s1⟩:=y
    rw[hc]at he
    unfold sem at hc
    cases hv:getE s.env t with
    |none=>rw[hv]at hc;cases hc
    |fp j k=>rw[hv]at hc;cases hc
    |val v=>
     rw[hv]at hc
     simp only at hc
     cases hf:freezeV wl v s.st with
     |none=>rw[hf]at hc;cases hc
     |some y=>
      obtain⟨v',st'⟩:=y
      rw[hf]at hc
      cases hc
      obtain⟨G',f1,f2⟩:=frz_ok hs h1 hv hf
      exact sem_ok hO hL hP c2 code _ s' x w G' β a Q hm2 f1 f2.one he fun w' G2 β2 a2 hp=>hQ w' G2 β2 a2 (hp.trans f2)
  ·unfold sem at he
   cases hc:sem O wl lim rs (.frzB j k) s with
   |none=>rw[hc]at he;cases he
   |some y=>
    obtain⟨x1,s1⟩:=y
    rw[hc]at he
    unfold sem at hc
    cases hb:s.bx[j]? with
    |none=>rw[hb]at hc;cases hc
    |some row=>
     rw[hb]at hc
     simp only at hc
     cases hv:row[k]? with
     |none=>rw[hv]at hc;cases hc
     |some v=>
      rw[hv]at hc
      simp only at hc
      cases hf:freezeV wl v s.st with
      |none=>rw[hf]at hc;cases hc
      |some y=>
       obtain⟨v',st'⟩:=y
       rw[hf]at hc
       cases hc
       obtain⟨G',f1,f2⟩:=frzB_ok hs h1 hb hv hf
       exact sem_ok hO hL hP c2 code _ s' x w G' β a Q hm2 f1 f2.one he fun w' G2 β2 a2 hp=>hQ w' G2 β2 a2 (hp.trans f2)
  ·unfold sem at he
   cases hc:sem O wl lim rs (.frzH t off) s with
   |none=>rw[hc]at he;cases he
   |some y=>
    obtain⟨x1,s1⟩:=y
    rw[hc]at he
    obtain⟨rfl,id,ver,i,k,v,v',st1,st2,g1,g2,g3,g4,rfl⟩:=sem_frzH hc
    simp only at he
    obtain⟨G',f1,f2⟩:=frzH_ok hs h1 g1 g2 g3 g4
    exact sem_ok hO hL hP c2 code _ s' x w G' β a Q hm2 f1 f2.one he fun w' G2 β2 a2 hp=>hQ w' G2 β2 a2 (hp.trans f2)
  ·refine wp_peel ?_
   rw[hp]
   refine wp_seq ?_
   unfold sem at he
   cases hc:sem O wl lim rs c1 s with
   |none=>rw[hc]at he;cases he
   |some y=>
    obtain⟨x1,s1⟩:=y
    rw[hc]at he
    refine sem_ok hO hL hP c1 a1 s s1 x1 w G β a _ hm1 hs h1 hc fun w' G' β' a' hp1=>?_
    cases x1 with
    |normal=>
     obtain⟨sr,g1,g2,g3⟩:=hp1
     simp only at g3
     subst g3
     exact sem_ok hO hL hP c2 b1 s1 s' x w' G' β' a' _ hm2 g1 g2.one he fun w2 G2 β2 a2 hp2=>noGoto_to (hQ w2 G2 β2 a2 (hp2.trans g2))
    |exit id=>cases he;exact hQ w' G' β' a' hp1
    |ret v=>cases he;exact hQ w' G' β' a' hp1
 |.cond t ca c1 cb c2,code,s,s',x,w,G,β,a,Q,hm,hs,h1,he,hQ=>by
  refine wp_peel ?_
  unfold mCode at hm
  split at hm
  ·rename_i u a1 b1 hp
   rw[hp]
   simp only[Bool.and_eq_true]at hm
   obtain⟨⟨hms,hm1⟩,hm2⟩:=hm
   unfold sem at he
   have hev:=(mSrc_ok hs.rep hms).1
   have hb:∀b,rdBool s.env t=some b->a.eval u=.bool b:=fun b hb=>by
    unfold rdBool at hb
    rw[rdE_rdH]at hb
    split at hb
    ·rename_i b' hb'
     cases hb
     rw[hb']at hev
     exact RepV.bool_inv hev
    ·cases hb
   split at he
   ·rename_i hr
    obtain⟨g1,g2⟩:=FT.kill hs t ca
    refine wp_cond_true (hb _ hr) (sem_ok hO hL hP c1 a1 _ s' x w G β a _ hm1 g1 (fun b=>Nat.le_trans (g2 b) (h1 b)) he fun w' G' β' a' hp=>noGoto_to (hQ w' G' β' a' (hp.trans ((Mv.refl h1).less g2))))
   ·rename_i hr
    obtain⟨g1,g2⟩:=FT.kill hs t cb
    refine wp_cond_false (hb _ hr) (sem_ok hO hL hP c2 b1 _ s' x w G β a _ hm2 g1 (fun b=>Nat.le_trans (g2 b) (h1 b)) he fun w' G' β' a' hp=>noGoto_to (hQ w' G' β' a' (hp.trans ((Mv.refl h1).less g2))))
   ·cases he
  ·cases hm
 |.block id c1,code,s,s',x,w,G,β,a,Q,hm,hs,h1,he,hQ=>by
  refine wp_peel ?_
  unfold mCode at hm
  split at hm
  ·rename_i j a1 hp
   rw[hp]
   simp only[Bool.and_eq_true,beq_iff_eq]at hm
   obtain⟨rfl,hm1⟩:=hm
   refine wp_block ?_
   unfold sem at he
   cases hc:sem O wl lim rs c1 s with
   |none=>rw[hc]at he;cases he
   |some y=>
    obtain⟨x1,s1⟩:=y
    rw[hc]at he
    refine sem_ok hO hL hP c1 a1 s s1 x1 w G β a _ hm1 hs h1 hc fun w' G' β' a' hp1=>?_
    cases x1 with
    |normal=>cases he;exact hQ w' G' β' a' hp1
    |exit i=>
     simp only at he
     simp only[toExit,Exit.inBlock]
     split at he
     ·rename_i hi
      cases he
      rw[if_pos hi]
      exact hQ w' G' β' a' hp1
     ·rename_i hi
      cases he
      rw[if_neg hi]
      exact hQ w' G' β' a' hp1
    |ret v=>cases he;exact hQ w' G' β' a' hp1
  ·cases hm
 |.loop c1,code,s,s',x,w,G,β,a,Q,hm,hs,h1,he,hQ=>by
  refine wp_peel ?_
  unfold mCode at hm
  split at hm
  ·rename_i a1 hp
   rw[hp]
   unfold sem at he
   exact loopWp_loop (hL wl lim rs c1 s x s' he a1 n hm w G β a hs h1 _ fun w' G' β' a' hp=>noGoto_to (hQ w' G' β' a' hp))
  ·cases hm
 |.exit id,code,s,s',x,w,G,β,a,Q,hm,hs,h1,he,hQ=>by
  refine wp_peel ?_
  simp only[sem,Option.some.injEq,Prod.mk.injEq]at he
  obtain⟨rfl,rfl⟩:=he
  unfold mCode at hm
  split at hm
  ·rename_i j hp
   rw[hp]
   simp only[beq_iff_eq]at hm
   subst hm
   exact wp_exit (hQ w G β a ⟨s,hs,Mv.refl h1,rfl⟩)
  ·cases hm
 |.ret,code,s,s',x,w,G,β,a,Q,hm,hs,h1,he,hQ=>by
  refine wp_peel ?_
  unfold mCode at hm
  split at hm
  ·rename_i hp
   rw[hp]
   unfold sem at he
   split at he
   ·rename_i v hv
    cases he
    exact wp_ret (hQ w G β a ⟨s,hs,Mv.refl h1,hv,rfl⟩)
   ·cases he
  ·cases hm
 |.frz t,code,s,s',x,w,G,β,a,Q,hm,hs,h1,he,hQ=>by
  simp[mCode]at hm
 |.frzB j k,code,s,s',x,w,G,β,a,Q,hm,hs,h1,he,hQ=>by
  simp[mCode]at hm
 |.frzH t off,code,s,s',x,w,G,β,a,Q,hm,hs,h1,he,hQ=>by
  simp[mCode]at hm
def mFunc(S:Nat->Option SFunc)(P:Program)(sf:SFunc):Bool:=
 match P.funcs[sf.fid]? with
 |some fn=>match fn.body with
  |some code => !(fn.name == "runtime.NumGoroutine") && mCode S P fn.ntmps sf.body code && mRes P fn.results.toList sf.results && nodupB (resT sf.results) && nodupB (resB sf.results) && decide (sf.nparams ≤ fn.ntmps)
  |none=>false
 |none=>false
def MTab(S:Nat->Option SFunc)(P:Program):Prop:=∀f sf,S f=some sf->mFunc S P sf=true/\(f<100000->sf.fid=f)
def argC(b:Nat)(args:List AV)(vs:List Value)(k t:Nat):Nat:=if k<=t then (match args[t-k]?,vs[t-k]? with|some v,some u=>cnt b v u|_,_=>0) else 0
theorem sum_args{w:World}{G:Ghost}(b:Nat):∀(args:List AV)(vs:List Value)(k N:Nat),args.length=vs.length->k+args.length<=N->
  sumN (argC b args vs k) N=cntL b args vs
 |[],[],k,N,_,_=>by
  have:sumN (argC b [] [] k) N=sumN (fun _=>0) N:=sumN_congr fun t _=>by simp[argC]
  rw[this,sumN_zero];rfl
 |v::args,u::vs,k,N,hl,hN=>by
  have ih:=sum_args (w:=w) (G:=G) b args vs (k+1) N (by simpa using hl) (by simp at hN;omega)
  have:=sumN_upd (f:=argC b (v::args) (u::vs) k) (g:=argC b args vs (k+1)) (d:=k) (n:=N) (by simp at hN;omega) fun t ht=>by
    unfold argC
    by_cases hk:k<=t
    ·have h1:k+1<=t:=by omega
     have h2:t-k=(t-(k+1))+1:=by omega
     simp only[hk,h1,if_true,h2,List.getElem?_cons_succ]
    ·have h1:¬k+1<=t:=by omega
     simp only[hk,h1,if_false]
  have e1:argC b (v::args) (u::vs) k k=cnt b v u:=by simp[argC]
  have e2:argC b args vs (k+1) k=0:=by unfold argC;rw[if_neg (by omega)]
  rw[e1,e2,ih]at this
  simp only[cntL]
  omega
 |[],_::_,_,_,h,_=>by simp at h
 |_::_,[],_,_,h,_=>by simp at h
end Ax
namespace Ax
open Go
variable {S:Nat->Option SFunc}{P:Program}{O:Orc}{wl lim n:Nat}
variable {w w':World}{G G':Ghost}{β β':List BxG}{a:Act}{s s':St}
theorem resV_ok{fn:Func}{rs:List SRes}{v:AV}(hs:FT w G β a s n)(hm:mRes P fn.results.toList rs=true)(h1:nodupB (resT rs)=true)(h2:nodupB (resB rs)=true)(hr:resV s rs=some v) :
  ∃u,(results fn a.tmps).run P w=.ok u w/\RepV w G v u/\∀b,cnt b v u+cntS b G.ls s.st<=totT β a s G n b:=by
 unfold resV at hr
 cases hra:resAll s rs with
 |none=>rw[hra]at hr;cases hr
 |some vs=>
  obtain⟨us,k1,k2,k3⟩:=resAll_ok hs _ rs vs hm hra
  have k4:=results_run k1
  rw[hra]at hr
  have hle:∀b,cntL b vs us+cntS b G.ls s.st<=totT β a s G n b:=fun b=>by
   have e1:=k3 b
   have e2:=sumL_le (f:=fun t=>cntE b (getE s.env t) (tau a t)) (n:=n) (fun t ht=>by rw[hs.lt t ht];rfl) _ (nodupB_ok h1)
   have e3:=sumL_le (f:=boxC b β s.bx) (n:=s.bx.length) (fun t ht=>by
    unfold boxC
    rw[List.getElem?_eq_none ht]
    split
    ·rename_i h;cases h
    ·rfl) _ (nodupB_ok h2)
   have e4:=boxC_sum b β s.bx
   unfold totT tot
   omega
  match vs,us,k2,hle,hr,k4 with
  |[v1],[u],k2,hle,hr,k4=>
   cases hr
   refine⟨u,k4,k2.2 0 _ u rfl rfl,fun b=>?_⟩
   have:=hle b
   simp only[cntL]at this
   omega
  |[],us,k2,hle,hr,k4=>
   have:us=[]:=by have:=k2.1;simpa using this.symm
   subst this
   cases hr
   exact⟨_,k4,.tup _ _ rfl fun i c v h=>by simp at h,fun b=>by have:=hle b;simpa [cnt,resU] using this⟩
  |v1::v2::vs,us,k2,hle,hr,k4=>
   cases hr
   match us,k2,hle,k4 with
   |[],k2,_,_=>have:=k2.1;simp at this
   |[_],k2,_,_=>have:=k2.1;simp at this
   |u1::u2::us,k2,hle,k4=>
    exact⟨_,k4,.tup _ _ (by simpa using k2.1) fun i c v h k=>k2.2 i c v h (by simpa using k),fun b=>by have:=hle b;simpa [cnt,resU] using this⟩
  |[_],[],k2,_,_,_=>have:=k2.1;simp at this
  |[_],_::_::_,k2,_,_,_=>have:=k2.1;simp at this
theorem fin_ok{m:Mode}{st st1 st':Store}{v v':AV}{u:Value}{A:Nat->Nat}(hI0:Inv w G st)(hk:Keeps (m.wlOf st.length wl) (m.limOf st.length lim) st st1)(hf:m.fin st v st1=some (v',st'))(hr:RepV w' G' v u)(hI:Inv w' G' st1)
  (hM:Mv w G A w' G' (fun b=>cnt b v u+cntS b G'.ls st1)):∃G2,RepV w' G2 v' u/\Inv w' G2 st'/\Mv w G A w' G2 (fun b=>cnt b v' u+cntS b G2.ls st'):=by
 have hlim:(m=.pure\/m=.scp)->LimOk st.length st1:=fun h=>by
  have hl:m.limOf st.length lim=st.length:=by rcases h with rfl|rfl<;>rfl
  rw[hl]at hk
  exact hk.lim st.length (Nat.le_refl _) (Nat.le_refl _) hI0.limOk
 have cut:v.isPure=true->LimOk st.length st1->∃G2,RepV w' G2 v u/\Inv w' G2 (st1.take st.length)/\Mv w G A w' G2 (fun b=>cnt b v u+cntS b G2.ls (st1.take st.length)):=by
  intro hp hl
  have hc:∀b,cnt b v u+cntS b (G'.cut st.length).ls (st1.take st.length)<=cnt b v u+cntS b G'.ls st1:=fun b=>by
   have:=cntS_take b st.length G'.ls st1
   simp only[Ghost.cut]
   omega
  refine⟨G'.cut st.length,hr.cutG (under_pure _ v hp),hI.cutG hl,?_⟩
  exact⟨stp_cut hM.stp (by rw[hI0.len];exact Nat.le_refl _),fun b hb=>Nat.le_trans (hc b) (hM.cnt b hb),fun b=>Nat.le_trans (hc b) (hM.one b),fun b hb h0=>hM.far b hb h0,hM.size,hM.os,hM.out⟩
 cases m with
 |opn=>
  simp only[Mode.fin,Option.some.injEq,Prod.mk.injEq]at hf
  obtain⟨rfl,rfl⟩:=hf
  exact⟨G',hr,hI,hM⟩
 |pure=>
  simp only[Mode.fin]at hf
  split at hf
  ·rename_i hp
   cases hf
   obtain⟨G2,c1,c2,c3⟩:=cut hp (hlim (.inl rfl))
   have:st1.take st.length=st:=by
    apply List.ext_getElem?
    intro i
    rw[List.getElem?_take]
    split
    ·rename_i hi
     exact hk.low i (by simpa [Mode.wlOf] using hi) hi
    ·rename_i hi;rw[List.getElem?_eq_none (by omega)]
   rw[this]at c2 c3
   exact⟨G2,c1,c2,c3⟩
  ·cases hf
 |scp=>
  simp only[Mode.fin]at hf
  split at hf
  ·rename_i hp
   cases hf
   exact cut hp (hlim (.inr rfl))
  ·cases hf
theorem repB_fresh(w:World)(G:Ghost)(k:Nat):RepB w G (List.replicate k ⟨none,[]⟩) (List.replicate k []) where
 len:=by simp
 box:=fun j row g h1 h2=>by
  rw[List.getElem?_replicate]at h1 h2
  split at h1
  ·rename_i hj
   rw[if_pos hj]at h2
   cases h1;cases h2
   exact⟨⟨rfl,fun i c v h=>by simp at h⟩,rfl,.inl ⟨rfl,rfl⟩⟩
  ·cases h1
theorem cntB_fresh(b:Nat):∀k,cntB b (List.replicate k ⟨none,[]⟩) (List.replicate k [])=0
 |0=>by simp[cntB]
 |k+1=>by simp[List.replicate_succ,cntB,cntB_fresh b k,cntL]
theorem call0_ok(hT:MTab S P)(hO:SoundCall S P O)(hL:SoundLoop S P O)(hP:OPure S O)(hK:OKeeps O){f:Nat}{sf:SFunc}(hf:S f=some sf){args:List AV}{st st':Store}{v:AV}(hc:callBody0 O wl lim sf args st=some (v,st')) :
  FnOk P sf.fid/\(f<100000->sf.fid=f)/\
  ∀(w:World) (G:Ghost) (vs:List Value),RepC w G args vs->Inv w G st->(∀b,cntL b args vs+cntS b G.ls st<=1)->
   Calls P sf.fid vs.toArray w fun e w'=>∃u G',e=.returned u/\RepV w' G' v u/\Inv w' G' st'/\
    Mv w G (fun b=>cntL b args vs+cntS b G.ls st) w' G' (fun b=>cnt b v u+cntS b G'.ls st'):=by
 obtain⟨hm,hfid⟩:=hT f sf hf
 unfold mFunc at hm
 split at hm
 ·rename_i fn hfn
  split at hm
  ·rename_i code hbody
   simp only[Bool.and_eq_true,Bool.not_eq_true',decide_eq_true_eq]at hm
   obtain⟨⟨⟨⟨⟨hname,hcode⟩,hres⟩,hnt⟩,hnb⟩,hnp⟩:=hm
   refine⟨⟨fn,hfn,hname,by rw[hbody];rfl⟩,hfid,fun w G vs hR hI h1=>?_⟩
   unfold callBody0 at hc
   split at hc
   ·rename_i hlen
    split at hc
    ·rename_i x s hsem
     split at hc
     ·rename_i v1 hend
      refine calls_of_wp hfn hbody ?_
      have hvl:vs.length=args.length:=hR.1.symm
      have hsz:(vs.toArray++Array.replicate (fn.ntmps-vs.toArray.size) undef).size=fn.ntmps:=by
       simp only[Array.size_append,List.size_toArray,Array.size_replicate];omega
      let a0:Act:={ tmps:=vs.toArray++Array.replicate (fn.ntmps-vs.toArray.size) undef,defers:=[] }
      have htau:∀t u,vs[t]?=some u->tau a0 t=u:=fun t u hu=>by
       have hlt:=(List.getElem?_eq_some_iff.1 hu).1
       have:a0.tmps[t]?=some u:=by
        show (vs.toArray++Array.replicate (fn.ntmps-vs.toArray.size) undef)[t]?=some u
        rw[Array.getElem?_append]
        simp[hlt,(List.getElem?_eq_some_iff.1 hu).2]
       simp[tau,this]
      have hη:∀t,getE (begS sf args st).env t=if t∈sf.clr then .none else (match args[t]? with|some v=>.val v|none=>.none):=fun t=>by
       simp only[begS,getE_clear,getE_args,Nat.zero_le,if_true,Nat.sub_zero]
       rfl
      have hFT:FT w G (List.replicate sf.nboxes ⟨none,[]⟩) a0 (begS sf args st) fn.ntmps:=by
       refine⟨rfl,by show fn.ntmps<=(vs.toArray++Array.replicate (fn.ntmps-vs.toArray.size) undef).size;omega,fun t=>?_,fun t ht=>?_,hI,repB_fresh w G sf.nboxes⟩
       ·rw[hη]
        split
        ·trivial
        ·split
         ·rename_i v0 hv0
          have hlt:t<vs.length:=by rw[hvl];exact(List.getElem?_eq_some_iff.1 hv0).1
          have hu:=List.getElem?_eq_getElem hlt
          rw[htau t _ hu]
          exact hR.2 t v0 _ hv0 hu
         ·trivial
       ·rw[hη,List.getElem?_eq_none (by omega)]
        simp
      have htot:∀b,totT (List.replicate sf.nboxes ⟨none,[]⟩) a0 (begS sf args st) G fn.ntmps b<=cntL b args vs+cntS b G.ls st:=fun b=>by
       have e1:=sum_args (w:=w) (G:=G) b args vs 0 fn.ntmps hvl.symm (by omega)
       have e2:sumN (fun t=>cntE b (getE (begS sf args st).env t) (tau a0 t)) fn.ntmps<=sumN (argC b args vs 0) fn.ntmps:=sumN_le fun t _=>by
        rw[hη]
        simp only[argC,Nat.zero_le,if_true,Nat.sub_zero]
        split
        ·simp[cntE]
        ·cases hv0:args[t]? with
         |none=>simp[cntE]
         |some v0=>
          have hlt:t<vs.length:=by rw[hvl];exact(List.getElem?_eq_some_iff.1 hv0).1
          have hu:=List.getElem?_eq_getElem hlt
          rw[htau t _ hu,hu]
          exact Nat.le_refl _
       have e3:=cntB_fresh b sf.nboxes
       unfold totT tot
       show sumN (fun t=>cntE b (getE (begS sf args st).env t) (tau a0 t)) fn.ntmps+cntB b (List.replicate sf.nboxes ⟨none,[]⟩) (List.replicate sf.nboxes [])+cntS b G.ls st<=_
       omega
      have h0:∀b,totT (List.replicate sf.nboxes ⟨none,[]⟩) a0 (begS sf args st) G fn.ntmps b<=1:=fun b=>Nat.le_trans (htot b) (h1 b)
      refine sem_ok hO hL hP sf.body code _ s x w G _ a0 _ hcode hFT h0 hsem fun w' G' β' a' hp=>?_
      obtain⟨sr,g1,g2,g3⟩:=hp
      have hkeep:Keeps (sf.mode.wlOf st.length wl) (sf.mode.limOf st.length lim) st s.st:=sem_keeps hK hsem
      have fin:resV sr sf.results=some v1->s.st=sr.st->a'.defers=[]/\∃u,(results fn a'.tmps).run P w'=.ok u w'/\∃u' G',(Ending.returned u)=.returned u'/\RepV w' G' v u'/\Inv w' G' st'/\
        Mv w G (fun b=>cntL b args vs+cntS b G.ls st) w' G' (fun b=>cnt b v u'+cntS b G'.ls st'):=by
       intro hrv hst
       obtain⟨u,r1,r2,r3⟩:=resV_ok g1 hres hnt hnb hrv
       have hMv:Mv w G (fun b=>cntL b args vs+cntS b G.ls st) w' G' (fun b=>cnt b v1 u+cntS b G'.ls s.st):=by
        rw[hst]
        have g3:=g2.less r3
        exact g3.weaken htot (fun b hb=>Nat.le_trans (g3.cnt b hb) (htot b)) g3.one
       have hInv:Inv w' G' s.st:=by rw[hst];exact g1.inv
       obtain⟨G2,c1,c2,c3⟩:=fin_ok hI hkeep hc r2 hInv hMv
       exact⟨g1.defs,u,r1,u,G2,rfl,c1,c2,c3⟩
      cases x with
      |normal=>
       simp only at g3
       subst g3
       exact fin hend rfl
      |exit id=>cases hend
      |ret v2=>
       cases hend
       exact fin g3.1 g3.2
     ·cases hc
    ·cases hc
   ·cases hc
  ·cases hm
 ·cases hm
theorem callBody0_pure{sf:SFunc}{args:List AV}{st st':Store}{v:AV}(h:callBody0 O wl lim sf args st=some (v,st'))(hm:sf.mode=.pure):v.isPure=true/\st'=st:=by
 unfold callBody0 at h
 split at h
 ·split at h
  ·split at h
   ·rw[hm]at h
    simp only[Mode.fin]at h
    split at h
    ·rename_i hp;cases h;exact⟨hp,rfl⟩
    ·cases h
   ·cases h
  ·cases h
 ·cases h
theorem call_ok(hT:MTab S P)(hO:SoundCall S P O)(hL:SoundLoop S P O)(hP:OPure S O)(hK:OKeeps O){f:Nat}{sf:SFunc}(hf:S f=some sf){args:List AV}{st st':Store}{v:AV}(hc:callBody O wl lim sf args st=some (v,st')) :
  FnOk P sf.fid/\(f<100000->sf.fid=f)/\
  ∀(w:World) (G:Ghost) (vs:List Value),RepC w G args vs->Inv w G st->(∀b,cntL b args vs+cntS b G.ls st<=1)->
   Calls P sf.fid vs.toArray w fun e w'=>∃u G',e=.returned u/\RepV w' G' v u/\Inv w' G' st'/\
    Mv w G (fun b=>cntL b args vs+cntS b G.ls st) w' G' (fun b=>cnt b v u+cntS b G'.ls st'):=by
 unfold callBody at hc
 split at hc
 ·rename_i hal
  simp only[alone,Bool.and_eq_true,decide_eq_true_eq]at hal
  obtain⟨hm,hpa⟩:=hal
  simp only[Option.map_eq_some_iff]at hc
  obtain⟨⟨v0,st0⟩,hc0,hx⟩:=hc
  cases hx
  obtain⟨hpv,rfl⟩:=callBody0_pure hc0 hm
  obtain⟨h1,h2,h3⟩:=call0_ok hT hO hL hP hK hf hc0
  refine⟨h1,h2,fun w G vs hR hI hone=>?_⟩
  have hunder:∀(i:Nat) c,args[i]?=some c->c.under 0=true:=fun i c hc=>under_pure 0 c ((allPure_iff args).1 hpa c (mem_get hc))
  have hI0:Inv w (G.cut 0) []:=by
   have:=hI.cutG (n:=0) fun id ob h=>by omega
   simpa using this
  have hc0':∀b,cntS b (G.cut 0).ls []=0:=fun b=>by simp[cntS]
  refine(h3 w (G.cut 0) vs ⟨hR.1,fun i c v e1 e2=>(hR.2 i c v e1 e2).cutG (hunder i c e1)⟩ hI0 fun b=>by rw[hc0' b];have:=hone b;omega).mono fun e w' he=>?_
  obtain⟨u,G',rfl,r1,r2,r3⟩:=he
  have hnil:∀b,cntS b G'.ls []=0:=fun b=>by simp[cntS]
  have hS:Stp w G w' ⟨G.ls,G'.tip⟩:=⟨fun b o hi=>r3.stp.imm b o hi,fun id loc hl=>⟨loc,hl,Nat.le_refl _,fun _=>rfl⟩⟩
  have hfar:∀b,b<w.heap.size->cntL b args vs=0->Untouched w G w' ⟨G.ls,G'.tip⟩ b:=fun b hb h0=>by
   have:=r3.far b hb (by rw[h0,hc0' b])
   exact this
  have hIs:Inv w' ⟨G.ls,G'.tip⟩ st:=inv_keep hI hS rfl (fun b hb=>hfar b (hI.held hb) (by have:=hone b;omega)) r2.tips
  have hrep:RepV w' ⟨G.ls,G'.tip⟩ v0 u:=by
   have h0:=r1.cutG (n:=0) (under_pure 0 v0 hpv)
   exact h0.stp ⟨fun b o hi=>⟨rfl,hi⟩,fun id loc hl=>by simp[Ghost.cut]at hl⟩ fun b _=>⟨rfl,rfl⟩
  refine⟨u,⟨G.ls,G'.tip⟩,rfl,hrep,hIs,hS,fun b hb=>?_,fun b=>?_,fun b hb h0=>hfar b hb (by omega),r3.size,r3.os,r3.out⟩
  ·have:=r3.cnt b hb
   rw[hnil b,hc0' b]at this
   show cnt b v0 u+cntS b G.ls st<=_
   omega
  ·have h4:=r3.one b
   rw[hnil b]at h4
   show cnt b v0 u+cntS b G.ls st<=1
   by_cases hb:b<w.heap.size
   ·have h5:=r3.cnt b hb
    rw[hnil b,hc0' b]at h5
    have:=hone b
    omega
   ·have:cntS b G.ls st=0:=by
     rcases Nat.eq_zero_or_pos (cntS b G.ls st) with h|h
     ·exact h
     ·exact absurd (hI.held h) hb
    omega
 ·exact call0_ok hT hO hL hP hK hf hc
theorem orc_sound(hT:MTab S P):∀n,SoundCall S P (orc S n)/\SoundLoop S P (orc S n)
 |0=>⟨fun wl lim f args st v st' h=>by simp[orc]at h,fun wl lim rs c s x s' h=>by simp[orc]at h⟩
 |n+1=>by
  obtain⟨i1,i2⟩:=orc_sound hT n
  refine⟨fun wl lim f args st v st' h=>?_,fun wl lim rs c s x s' h code m hm w G β a hs h1 Q hQ=>?_⟩
  ·simp only[orc]at h
   split at h
   ·rename_i sf hsf
    exact⟨sf,hsf,call_ok hT i1 i2 (orc_pure S n) (orc_keeps S n) hsf h⟩
   ·cases h
  ·simp only[orc]at h
   refine loopWp_step ?_
   cases hc:sem (orc S n) wl lim rs c s with
   |none=>rw[hc]at h;cases h
   |some y=>
    obtain⟨x1,s1⟩:=y
    rw[hc]at h
    refine sem_ok i1 i2 (orc_pure S n) c code s s1 x1 w G β a _ hm hs h1 hc fun w' G' β' a' hp=>?_
    cases x1 with
    |normal=>
     obtain⟨sr,g1,g2,g3⟩:=hp
     simp only at g3
     subst g3
     exact i2 wl lim rs c s1 x s' h code m hm w' G' β' a' g1 g2.one Q fun w2 G2 β2 a2 hp2=>hQ w2 G2 β2 a2 (hp2.trans g2)
    |exit id=>cases h;exact hQ w' G' β' a' hp
    |ret v=>cases h;exact hQ w' G' β' a' hp
end Ax
namespace Ax
open Go
variable {P:Program}{w w':World}{G G':Ghost}
def plainIn(P:Program)(ts:List TypeId):Bool:=ts.all fun t=>decide (t<P.types.size)&&match P.underlying t with
 |some .bool|some (.int _)|some .string=>true
 |some (.slice e)=>ts.contains e&&decide (0<P.cellsOf e)
 |some (.struct fs)=>fs.toList.all fun f=>ts.contains f.type
 |_=>false
mutual
inductive Ty (P:Program):TypeId->List AV->Prop
 |bool {t:TypeId} (h:P.underlying t=some .bool) (b:Bool):Ty P t [.bool b]
 |int {t:TypeId} {k:IntKind} (h:P.underlying t=some (.int k)) (n:Int) (h1:k.min<=n) (h2:n<=k.max):Ty P t [.int k n]
 |str {t:TypeId} (h:P.underlying t=some .string) (l:List UInt8) (hn:l.length<=maxLen):Ty P t [.str l]
 |nilSl {t e:TypeId} (h:P.underlying t=some (.slice e)):Ty P t [.nilSl]
 |emp {t e:TypeId} (h:P.underlying t=some (.slice e)):Ty P t [.emp]
 |lst {t e:TypeId} (h:P.underlying t=some (.slice e)) (rows:List (List AV)) (hn:rows.length<=maxLen) (hl:∀r∈rows,r.length=P.cellsOf e) (h2:∀r∈rows,Ty P e r):Ty P t [.lst (P.cellsOf e) rows]
 |recd {t:TypeId} {fs:Array Field} (h:P.underlying t=some (.struct fs)) (as:List AV) (h2:TyFs P fs.toList as):Ty P t as
inductive TyFs (P:Program):List Field->List AV->Prop
 |nil:TyFs P [] []
 |cons {f:Field} {fs:List Field} {as bs:List AV} (hl:as.length=P.cellsOf f.type) (h1:Ty P f.type as) (h2:TyFs P fs bs):TyFs P (f::fs) (as++bs)
end
abbrev G0:Ghost:=⟨[],fun _=>none⟩
def Plain(as:List AV):Prop:=AV.noOwnL as=true/\AV.allPure as=true/\AV.allCells as=true
theorem plain_one{a:AV}(h1:a.noOwn=true)(h2:a.isPure=true)(h3:a.isCell=true):Plain [a]:=by
 refine⟨?_,?_,?_⟩<;>simp[AV.noOwnL,AV.allPure,AV.allCells,h1,h2,h3]
theorem plain_append{as bs:List AV}(h:Plain as)(k:Plain bs):Plain (as++bs):=by
 obtain⟨h1,h2,h3⟩:=h
 obtain⟨k1,k2,k3⟩:=k
 refine⟨(noOwnL_iff _).2 fun c hc=>?_,(allPure_iff _).2 fun c hc=>?_,?_⟩
 ·rcases List.mem_append.1 hc with h|h
  ·exact(noOwnL_iff _).1 h1 c h
  ·exact(noOwnL_iff _).1 k1 c h
 ·rcases List.mem_append.1 hc with h|h
  ·exact(allPure_iff _).1 h2 c h
  ·exact(allPure_iff _).1 k2 c h
 ·simp only[AV.allCells,List.all_append,Bool.and_eq_true]at *
  exact⟨h3,k3⟩
theorem repC_one{a:AV}{v:Value}(h:RepV w G a v):RepC w G [a] [v]:=⟨rfl,fun i c u h1 h2=>by
 cases i with
 |zero=>simp at h1 h2;subst h1;subst h2;exact h
 |succ i=>simp at h1⟩
theorem imm_old{b o:Nat}(h:b<w.heap.size):Imm w G0 b o:=⟨h,fun p hp=>by cases hp⟩
section
variable {H:Type}{enc:TypeId×Value->H}{ts:List TypeId}
theorem fields_ty{cs:List Value}:∀(fs:List Field)(o:Nat),(∀(j:Nat) f,fs[j]?=some f->f.offset=o+((fs.take j).map fun f=>P.cellsOf f.type).sum)->cs.length=o+(fs.map fun f=>P.cellsOf f.type).sum->
  (∀f∈fs,∃as,RepC w G0 as ((cs.drop f.offset).take (P.cellsOf f.type))/\Ty P f.type as/\Plain as)->∃as,RepC w G0 as (cs.drop o)/\TyFs P fs as/\Plain as
 |[],o,_,hl,_=>by
  simp at hl
  have:cs.drop o=[]:=List.drop_eq_nil_of_le (by omega)
  rw[this]
  exact⟨[],⟨rfl,fun i c v h=>by simp at h⟩,.nil,rfl,rfl,rfl⟩
 |f::fs,o,ho,hl,hf=>by
  have e0:f.offset=o:=by have:=ho 0 f rfl;simpa using this
  simp only[List.map_cons,List.sum_cons]at hl
  obtain⟨bs,h1,h2,h3⟩:=fields_ty fs (o+P.cellsOf f.type) (fun j g hg=>by
   have:=ho (j+1) g (by simpa using hg)
   simp only[List.take_succ_cons,List.map_cons,List.sum_cons]at this
   omega) (by omega) (fun g hg=>hf g (by simp[hg]))
  obtain⟨as,k1,k2,k3⟩:=hf f (by simp)
  rw[e0]at k1
  have hlen:as.length=P.cellsOf f.type:=by
   rw[k1.1,List.length_take,List.length_drop];omega
  refine⟨as++bs,?_,.cons hlen k2 h2,plain_append k3 h3⟩
  have:cs.drop o=(cs.drop o).take (P.cellsOf f.type)++cs.drop (o+P.cellsOf f.type):=by
   rw[<-List.drop_drop,List.take_append_drop]
  rw[this]
  exact RepC.append k1 h1
theorem trod_ty(hK:Kids P (· < P.types.size))(hp:plainIn P ts=true):∀(n:Nat)(t:TypeId)(cs:List Value)(x:DataW H×List MemPlace),t∈ts->DataW.trod enc P w 0 (fun _=>true) true n t cs=some x->
  ∃as,RepC w G0 as cs/\Ty P t as/\Plain as:=by
 intro n
 induction n with
 |zero=>intro t cs x _ h;simp[DataW.trod]at h
 |succ n ih=>
  intro t cs x ht h
  have hpt:=List.all_eq_true.1 hp t ht
  simp only[Bool.and_eq_true,decide_eq_true_eq]at hpt
  obtain⟨hlt,hpt⟩:=hpt
  split at hpt
  ·rename_i hu
   obtain⟨b,rfl,rfl⟩:=DataW.trod_bool hu h
   exact⟨[.bool b],repC_one (.bool b),.bool hu b,plain_one rfl rfl rfl⟩
  ·rename_i k hu
   obtain⟨m,rfl,rfl,hw⟩:=DataW.trod_int hu h
   simp only[Lit.wf,Bool.and_eq_true,decide_eq_true_eq]at hw
   exact⟨[.int k m],repC_one (.int k m),.int hu m hw.1 hw.2,plain_one rfl rfl rfl⟩
  ·rename_i hu
   obtain⟨s,rfl,rfl,hsl⟩:=DataW.trod_string hu h
   exact⟨[.str s.data.toList],repC_one (.str _ s rfl),.str hu _ (by simpa using hsl),plain_one rfl rfl rfl⟩
  ·rename_i e hu
   simp only[Bool.and_eq_true,List.contains_eq_mem,decide_eq_true_eq]at hpt
   obtain⟨he,hsz⟩:=hpt
   rcases DataW.trod_slice hu h with⟨rfl,rfl⟩|⟨a,len,cap,elems,rest,m,hm,rfl,rfl,_,hlc,hcm,hel,helem,hrest,_⟩
   ·exact⟨[.nilSl],repC_one .nilSl,.nilSl hu,plain_one rfl rfl rfl⟩
   ·cases hm
    by_cases hcap:cap=0
    ·subst hcap
     have:len=0:=by omega
     subst this
     exact⟨[.emp],repC_one (.emp a),.emp hu,plain_one rfl rfl rfl⟩
    ·have hrow:∀i,i<cap->∃cs' y,w.cells? 0 (a.add (i*P.cellsOf e)) (P.cellsOf e)=some cs'/\DataW.trod enc P w 0 (fun _=>true) true n e cs'=some y:=by
      intro i hi
      by_cases hil:i<len
      ·have h1:=helem i hil
       have h2:∃y,elems[i]?=some y:=⟨_,List.getElem?_eq_getElem (by omega)⟩
       obtain⟨y,hy⟩:=h2
       rw[hy,Option.bind_eq_some_iff]at h1
       obtain⟨cs',e1,e2⟩:=h1
       exact⟨cs',y,e1,e2⟩
      ·obtain⟨hrl,hr⟩:=hrest rfl
       have h1:=hr (i-len) (by omega)
       rw[show len+(i-len)=i by omega]at h1
       have h2:∃y,rest[i-len]?=some y:=⟨_,List.getElem?_eq_getElem (by omega)⟩
       obtain⟨y,hy⟩:=h2
       rw[hy,Option.bind_eq_some_iff]at h1
       obtain⟨cs',e1,e2⟩:=h1
       exact⟨cs',y,e1,e2⟩
     have hspot:a.spot=none:=by
      obtain⟨cs',y,e1,_⟩:=hrow 0 (by omega)
      obtain⟨_,g2,g3⟩:=World.cells?_some e1
      have h0:=g3 0 hsz
      have:∃v,cs'[0]?=some v:=⟨_,List.getElem?_eq_getElem (by omega)⟩
      obtain⟨v,hv⟩:=this
      rw[hv]at h0
      have:=World.cell?_spot h0
      simpa [Addr.add] using this
     obtain⟨blk,off,spot⟩:=a
     simp only at hspot
     subst hspot
     have hadd:∀off k,Addr.add ⟨blk,off,none⟩ k=⟨blk,off+k,none⟩:=fun off k=>by
      unfold Addr.add
      split
      ·rename_i h0;subst h0;rfl
      ·rfl
     have hrows:∀i,i<len->∃r,(r.length=P.cellsOf e/\Ty P e r/\Plain r)/\∀(j:Nat) c,r[j]?=some c->∃v,w.cell? ⟨blk,off+(i*P.cellsOf e+j),none⟩=some v/\RepV w G0 c v:=by
      intro i hi
      obtain⟨cs',y,e1,e2⟩:=hrow i (by omega)
      obtain⟨_,g2,g3⟩:=World.cells?_some e1
      obtain⟨r,r1,r2,r3⟩:=ih e cs' y he e2
      have hrl:r.length=P.cellsOf e:=by rw[r1.1,g2]
      refine⟨r,⟨hrl,r2,r3⟩,fun j c hc=>?_⟩
      have hj:j<P.cellsOf e:=by rw[<-hrl];exact(List.getElem?_eq_some_iff.1 hc).1
      have h0:=g3 j hj
      have hv:∃v,cs'[j]?=some v:=⟨_,List.getElem?_eq_getElem (by omega)⟩
      obtain⟨v,hv⟩:=hv
      rw[hv,hadd,hadd]at h0
      refine⟨v,by rw[<-h0];congr 2;omega,r1.2 j c v hc hv⟩
     have key:∀m,m<=len->∃rows:List (List AV),rows.length=m/\∀(i:Nat) r,rows[i]?=some r->(r.length=P.cellsOf e/\Ty P e r/\Plain r)/\∀(j:Nat) c,r[j]?=some c->∃v,w.cell? ⟨blk,off+(i*P.cellsOf e+j),none⟩=some v/\RepV w G0 c v:=by
      intro m
      induction m with
      |zero=>intro _;exact⟨[],rfl,fun i r h=>by simp at h⟩
      |succ m ihm=>
       intro hm
       obtain⟨rows,l1,l2⟩:=ihm (by omega)
       obtain⟨r,hr⟩:=hrows m (by omega)
       refine⟨rows++[r],by simp[l1],fun i r' hi=>?_⟩
       by_cases him:i<m
       ·rw[List.getElem?_append_left (by omega)]at hi
        exact l2 i r' hi
       ·rw[List.getElem?_append_right (by omega)]at hi
        have:i-rows.length=0:=by
         rcases Nat.eq_zero_or_pos (i-rows.length) with h|h
         ·exact h
         ·rw[List.getElem?_eq_none (by simp;omega)]at hi;cases hi
        rw[this]at hi
        simp at hi
        subst hi
        have:i=m:=by omega
        subst this
        exact hr
     obtain⟨rows,l1,l2⟩:=key len (Nat.le_refl _)
     have hmem:∀r∈rows,r.length=P.cellsOf e/\Ty P e r/\Plain r:=fun r hr=>by
      obtain⟨i,hi,rfl⟩:=List.mem_iff_getElem.1 hr
      exact(l2 i _ (List.getElem?_eq_getElem hi)).1
     have hrep:RepV w G0 (.lst (P.cellsOf e) rows) (.slice (some ⟨blk,off,none⟩) rows.length cap):=by
      refine .lst (P.cellsOf e) rows ⟨blk,off,none⟩ cap rfl (by omega) ?_ (fun r hr=>(hmem r hr).2.2.1) (fun r hr=>(hmem r hr).2.2.2.1) (fun r hr=>(hmem r hr).2.2.2.2) (fun i r j c h1 h2=>?_) (fun i r j c v h1 h2 h3=>?_)
      ·simp only[fits,List.all_eq_true,beq_iff_eq]
       exact fun r hr=>(hmem r hr).1
      ·obtain⟨v,e1,_⟩:=(l2 i r h1).2 j c h2
       exact⟨imm_old (World.block_lt_of_cell? w ⟨blk,off+(i*P.cellsOf e+j),none⟩ e1:blk<w.heap.size),v,e1⟩
      ·obtain⟨v',e1,e2⟩:=(l2 i r h1).2 j c h2
       rw[e1]at h3;cases h3
       exact e2
     rw[l1]at hrep
     exact⟨[.lst (P.cellsOf e) rows],repC_one hrep,(.lst hu rows (by omega) (fun r hr=>(hmem r hr).1) (fun r hr=>(hmem r hr).2.1)),plain_one rfl rfl rfl⟩
  ·rename_i fs hu
   simp only[List.all_eq_true,List.contains_eq_mem,decide_eq_true_eq]at hpt
   obtain⟨xs,m,hm,rfl,hl,hlen,hf⟩:=DataW.trod_struct hu h
   cases hm
   obtain⟨_,k2,k3⟩:=hK.struct hlt hu
   obtain⟨as,h1,h2,h3⟩:=fields_ty (P:=P) (w:=w) (cs:=cs) fs.toList 0 (fun j f hf=>by rw[k3 j f hf];omega) (by rw[hl,k2];omega) fun f hfm=>by
    obtain⟨i,hi,rfl⟩:=List.mem_iff_getElem.1 hfm
    have hg:fs.toList[i]?=some fs.toList[i]:=List.getElem?_eq_getElem hi
    have h1:=hf i fs.toList[i] (by simp)
    have hy:∃y,xs[i]?=some y:=⟨_,List.getElem?_eq_getElem (by rw[hlen];simpa using hi)⟩
    obtain⟨y,hy⟩:=hy
    rw[hy]at h1
    exact ih _ _ y (hpt _ hfm) h1
   exact⟨as,by simpa using h1,.recd hu as h2,h3⟩
  ·cases hpt
def TyV(P:Program)(t:TypeId)(a:AV):Prop:=(∃fs as,P.underlying t=some (.struct fs)/\a=.agg as/\Ty P t as)\/((∀fs,P.underlying t≠some (.struct fs))/\Ty P t [a])
def TyVs(P:Program):List TypeId->List AV->Prop
 |[],[]=>True
 |t::ts,a::as=>TyV P t a/\TyVs P ts as
 |_,_=>False
theorem trod_val(hK:Kids P (· < P.types.size))(hp:plainIn P ts=true){r:Reach}{base:Nat}{t:TypeId}{v:Value}{d:DataW H}{ps:List MemPlace}(ht:t∈ts)(hval:Value.okWide P w r base t v)
  (h:DataW.Trod enc P w 0 (fun _=>true) true t v d ps):∃a,RepV w G0 a v/\TyV P t a/\a.noOwn=true:=by
 obtain⟨n,hn⟩:=h
 obtain⟨as,h1,h2,h3⟩:=trod_ty hK hp n t _ _ ht hn
 have one:v.cells = #[v]->(∀fs,P.underlying t≠some (.struct fs))->∃a,RepV w G0 a v/\TyV P t a/\a.noOwn=true:=by
  intro hc hs
  rw[hc]at h1
  obtain⟨e1,e2⟩:=h1
  match as,e1,e2,h2,h3 with
  |[a],_,e2,h2,h3=>exact⟨a,e2 0 a v rfl rfl,.inr ⟨hs,h2⟩,by have:=h3.1;simpa [AV.noOwnL] using this⟩
 have hpt:=List.all_eq_true.1 hp t ht
 simp only[Bool.and_eq_true,decide_eq_true_eq]at hpt
 obtain⟨_,hpt⟩:=hpt
 split at hpt
 ·rename_i hu
  obtain⟨b,rfl⟩:=WideShapes.okWide_bool hu hval
  exact one rfl fun fs h=>by rw[hu]at h;cases h
 ·rename_i k hu
  obtain⟨b,rfl⟩:=WideShapes.okWide_int hu hval
  exact one rfl fun fs h=>by rw[hu]at h;cases h
 ·rename_i hu
  obtain⟨b,rfl⟩:=WideShapes.okWide_string hu hval
  exact one rfl fun fs h=>by rw[hu]at h;cases h
 ·rename_i e hu
  obtain⟨a,l,c,rfl⟩:=WideShapes.okWide_slice hu hval
  exact one rfl fun fs h=>by rw[hu]at h;cases h
 ·rename_i fs hu
  obtain⟨cs,rfl,_⟩:=WideShapes.okWide_struct hu hval
  refine⟨.agg as,.agg as cs (by simpa [Value.cells] using h1.1) fun i c v e1 e2=>h1.2 i c v e1 (by simpa [Value.cells] using e2),.inl ⟨fs,as,hu,rfl,h2⟩,?_⟩
  simp only[AV.noOwn];exact h3.1
 ·cases hpt
theorem trod_vals(hK:Kids P (· < P.types.size))(hp:plainIn P ts=true){r:Reach}{base:Nat}:∀{us:List TypeId}{vs:List Value}{ds:List (DataW H)}{ps:List MemPlace},(∀t∈us,t∈ts)->
  (∀(j:Nat) t v,us[j]?=some t->vs[j]?=some v->Value.okWide P w r base t v)->DataW.TrodAll enc P w 0 (fun _=>true) true us vs ds ps->∃as,RepC w G0 as vs/\TyVs P us as/\AV.noOwnL as=true
 |[],[],[],_,_,_,_=>⟨[],⟨rfl,fun i c v h=>by simp at h⟩,trivial,rfl⟩
 |t::us,v::vs,d::ds,ps,hu,hv,h=>by
  obtain⟨p,q,h1,h2,rfl⟩:=h
  obtain⟨a,a1,a2,a3⟩:=trod_val hK hp (hu t (by simp)) (hv 0 t v rfl rfl) h1
  obtain⟨as,b1,b2,b3⟩:=trod_vals hK hp (fun t ht=>hu t (by simp[ht])) (fun j t v e1 e2=>hv (j+1) t v (by simpa using e1) (by simpa using e2)) h2
  exact⟨a::as,RepC.cons a1 b1,⟨a2,b2⟩,by simp[AV.noOwnL,a3,b3]⟩
 |[],_::_,_,_,_,_,h=>h.elim
 |[],[],_::_,_,_,_,h=>h.elim
 |_::_,[],_,_,_,_,h=>h.elim
 |_::_,_::_,[],_,_,_,h=>h.elim
theorem trodAll_stays(hK:Kids P (· < P.types.size))(hz:∀t e,t<P.types.size->P.underlying t=some (.slice e)->0<P.cellsOf e){sp:Nat->Bool}(hsame:∀b,b<w.heap.size->w'.heap[b]?=w.heap[b]?):∀{us:List TypeId}{vs:List Value}{ds:List (DataW H)}{ps:List MemPlace},(∀t∈us,t<P.types.size)->
  DataW.TrodAll enc P w 0 (fun _=>true) true us vs ds ps->(∀p∈ps,sp p.block=true)->DataW.TrodAll enc P w' 0 sp true us vs ds ps
 |[],[],[],_,_,h,_=>h
 |t::us,v::vs,d::ds,ps,hu,h,hs=>by
  obtain⟨p,q,⟨n,h1⟩,h2,rfl⟩:=h
  refine⟨p,q,⟨n,DataW.trod_stays hK (fun {t e}=>hz t e) (fun h=>by cases h) (hu t (by simp)) h1 (fun x hx=>?_) fun x hx=>hs x (by simp[hx])⟩,trodAll_stays hK hz hsame (fun t ht=>hu t (by simp[ht])) h2 (fun x hx=>hs x (by simp[hx])),rfl⟩
  have hlt:=DataW.trod_lt n t _ _ h1 x hx
  cases x with
  |cell b off=>simp only[World.sameAt,World.cell?,hsame b hlt]
  |map b=>exact hsame b hlt
 |[],_::_,_,_,_,h,_=>h.elim
 |[],[],_::_,_,_,h,_=>h.elim
 |_::_,[],_,_,_,h,_=>h.elim
 |_::_,_::_,[],_,_,h,_=>h.elim
theorem inv_none(w:World):Inv w G0 []:=⟨rfl,fun id ob loc h=>by simp at h,fun b p h=>by cases h⟩
theorem keptBut_same{may:MemPlace->Prop}(h1:w'.os=w.os)(h2:w'.output=w.output)(h3:∀b,b<w.heap.size->w'.heap[b]?=w.heap[b]?):w.keptBut w' may:=by
 refine⟨h1,h2,fun i hi=>?_⟩
 rw[h3 i hi]
 have:=Array.getElem?_eq_getElem hi
 rw[this]
 cases w.heap[i] with
 |cells c t fr=>exact⟨rfl,rfl,rfl,fun _ _=>rfl⟩
 |map es clock=>exact .inr ⟨rfl,rfl⟩
 |_=>rfl
theorem frozen_same(_hsz:w.heap.size<=w'.heap.size)(h3:∀b,b<w.heap.size->w'.heap[b]?=w.heap[b]?)(a:Addr)(ha:a.block<w.heap.size):w'.frozen? a=w.frozen? a:=by
 simp only[World.frozen?,h3 a.block ha]
end
end Ax
namespace Ax
open Go Go.ChangeShapes
variable {P:Program}{w w':World}{G G':Ghost}{H:Type}{enc:TypeId×Value->H}
theorem post_law{f:Func}{s:ChangeSpec}{apart fresh handsOn again:Bool}{W W':World}{args:Array Value}{ds gs:List (DataW H)}{before:List MemPlace}{tb:TypeId}
  (hK:Kids P (· < P.types.size))(hz:∀t e,t<P.types.size->P.underlying t=some (.slice e)->0<P.cellsOf e)(hpar:∀t∈f.params.toList,t<P.types.size)
  (hW:DataW.Whole enc P f.params.toList s.vars apart W args.toList ds gs before) (hv:s.vars=[]) (hrt:f.resultTypes = #[tb]) (htb:P.underlying tb=some .bool)
  (hr:(s.fn H ds).results=[.lit (.bool true)]) (ha:(s.fn H ds).args=ds) (hvs:(s.fn H ds).vars=[])
  (h1:W'.os=W.os) (h2:W'.output=W.output) (h4:W.heap.size<=W'.heap.size) (h3:∀b,b<W.heap.size->W'.heap[b]?=W.heap[b]?) :
  s.post enc P f apart fresh handsOn again W args (.bool true) W':=by
 have hW':=hW
 obtain⟨p,q,hA,hV,rfl,hz',hn⟩:=hW'
 rw[hv]at hV
 cases gs with
 |cons _ _=>exact hV.elim
 |nil=>
  have hq:q=[]:=hV
  subst hq
  simp only[List.append_nil]at hW hz' hn
  have hst:∀sp:Nat->Bool,(∀x∈p,sp x.block=true)->DataW.TrodAll enc P W' 0 sp true f.params.toList args.toList ds p:=fun sp hsp=>trodAll_stays hK hz h3 hpar hA hsp
  have hfr:∀x∈p,x.block<W.heap.size:=DataW.TrodAll.lt hA
  have hold:∀x∈p,(fun b=>decide (b<W.heap.size)) x.block=true:=fun x hx=>by simpa using hfr x hx
  have hrl:(Value.bool true).resultList f.resultTypes.size=[.bool true]:=by rw[hrt];rfl
  have hres:∀(b:Nat) (sp:Nat->Bool) (hd:Bool),DataW.TrodAll enc P W' b sp hd f.resultTypes.toList ((Value.bool true).resultList f.resultTypes.size) (s.fn H (ds++[])).results []:=fun b sp hd=>by
   rw[List.append_nil,hr,hrl,hrt]
   exact⟨[],[],⟨1,by simp[DataW.trod,htb,Value.cells]⟩,rfl,rfl⟩
  refine⟨ds,[],p,[],p,[],hW,hres _ _ _,by rw[List.append_nil,ha];exact hst _ hold,by rw[hv,List.append_nil,hvs];rfl,keptBut_same h1 h2 h3,fun _=>?_⟩
  refine⟨fun j t r e1 e2=>?_,[DataW.lit (.bool true)]++ds,[],p,⟨p,[],?_,(by rw[hv];exact(rfl:DataW.TrodVars enc P W' (fun _=>true) [] [] [])),by simp,?_,?_⟩,?_⟩
  ·rw[hrt]at e1
   rw[hrl]at e2
   cases j with
   |zero=>
    simp at e1 e2
    subst e1;subst e2
    exact RowKit.okWide_bool_mk htb true
   |succ j=>simp at e1
  ·have:=trodAll_append (hst _ (fun _ _=>rfl)) (hres 0 (fun _=>true) true)
   simpa [hr] using this
  ·intro b off hp
   rw[frozen_same h4 h3 _ (hfr _ hp)]
   exact hz' b off hp
  ·exact hn
  ·intro x hx _;exact hx
theorem orcL_sound{S:Nat->Option SFunc}(hT:MTab S P):SoundCall S P (orcL S):=fun wl lim f args st v st' h=>by
 obtain⟨n,hn⟩:=(orcL_sup S).call _ _ _ _ _ _ h
 exact(orc_sound hT n).1 wl lim f args st v st' hn
theorem law_calls{S:Nat->Option SFunc}(hT:MTab S P){f:FuncId}(hf:f<100000){as:List AV}{st':Store}(hc:(orcL S).call 0 0 f as []=some (.bool true,st')){W:World}{args:Array Value}(hR:RepC W G0 as args.toList)(hno:AV.noOwnL as=true) :
  Calls P f args W fun e W'=>e=.returned (.bool true)/\W'.os=W.os/\W'.output=W.output/\W.heap.size<=W'.heap.size/\∀b,b<W.heap.size->W'.heap[b]?=W.heap[b]?:=by
 obtain⟨sf,h1,h2,h3,h4⟩:=orcL_sound hT _ _ _ _ _ _ _ hc
 have hz:∀b,cntL b as args.toList+cntS b G0.ls []=0:=fun b=>by rw[cntL_noOwn b _ _ hno];simp[cntS]
 have:=h4 W G0 args.toList hR (inv_none W) (fun b=>by rw[hz b];omega)
 rw[h3 hf]at this
 refine this.mono fun e W' h=>?_
 obtain⟨u,G',rfl,r1,r2,r3⟩:=h
 refine⟨by rw[RepV.bool_inv r1],r3.os,r3.out,r3.size,fun b hb=>(r3.far b hb (hz b)).2⟩
structure Home (S:Nat->Option SFunc)(C:Checked)(ts:List TypeId):Prop where
 own:ownKnob C.prog.godebug=none
 tab:MTab S C.prog
 kids:Kids C.prog (· < C.prog.types.size)
 full:∀t e,t<C.prog.types.size->C.prog.underlying t=some (.slice e)->0<C.prog.cellsOf e
 plain:plainIn C.prog ts=true
theorem law_lifted{S:Nat->Option SFunc}{C:Checked}{ts:List TypeId}(hh:Home S C ts){os:Os}(started:os.Started){f:FuncId}{fn:Func}{s:ChangeSpec}{conds:List PathCond}{apart fresh handsOn again:Bool}{tb:TypeId}
  (noInit:C.prog.inits.idxOf? f=none)(hfn:C.prog.funcs[f]?=some fn)(hf:f<100000)
  (witness:∃(w:World) (tape:Tape) (i:Input),w.os=os/\(w.forCall tape i).Shaped C.prog/\i.vars=[]/\Input.okWide C.prog (w.forCall tape i) .any w.heap.size f i/\
   s.pre6 enc C.prog fn conds apart (w.forCall tape i).memory i.args/\({}:Assume).holds C.prog (lone (Frame.enter C.prog f i.args .normal) [] (w.forCall tape i)))
  (hpar:(fn.params.toList.all fun t=>ts.contains t&&decide (t<C.prog.types.size))=true) (hv:s.vars=[]) (hrt:fn.resultTypes = #[tb]) (htb:C.prog.underlying tb=some .bool)
  (hspec:∀ds:List (DataW H),ds.length=fn.params.toList.length->(s.fn H ds).results=[.lit (.bool true)]/\(s.fn H ds).args=ds/\(s.fn H ds).vars=[])
  (hcall:∀as,TyVs C.prog fn.params.toList as->∃st',(orcL S).call 0 0 f as []=some (.bool true,st')) :
  ReturnsInHanded {} C os f .any (s.pre6 enc C.prog fn conds apart) (s.post enc C.prog fn apart fresh handsOn again):=by
 refine returnsInHanded_of_change hh.own started noInit hfn witness ?_
 intro W base args ds gs before hval hW _ _
 have hp:∀t∈fn.params.toList,t∈ts/\t<C.prog.types.size:=fun t ht=>by
  have:=List.all_eq_true.1 hpar t ht
  simpa using this
 obtain⟨p,q,hA,hV,hb,_,_⟩:=id hW
 obtain⟨as,a1,a2,a3⟩:=trod_vals hh.kids hh.plain (fun t ht=>(hp t ht).1) (fun j t v e1 e2=>hval j t v (by simpa using e1) (by simpa using e2)) hA
 obtain⟨st',hc⟩:=hcall as a2
 have hlen:∀(us:List TypeId) (vs:List Value) (ds:List (DataW H)) (p:List MemPlace),DataW.TrodAll enc C.prog W 0 (fun _=>true) true us vs ds p->ds.length=us.length:=by
  intro us
  induction us with
  |nil=>intro vs ds p h;cases vs with
   |nil=>cases ds with
    |nil=>rfl
    |cons _ _=>exact h.elim
   |cons _ _=>cases ds<;>exact h.elim
  |cons t us ih=>intro vs ds p h;cases vs with
   |nil=>cases ds<;>exact h.elim
   |cons v vs=>cases ds with
    |nil=>exact h.elim
    |cons d ds=>
     obtain⟨_,_,_,h2,_⟩:=h
     simp[ih vs ds _ h2]
 obtain⟨s1,s2,s3⟩:=hspec ds (hlen _ _ _ _ hA)
 refine(law_calls hh.tab hf hc a1 a3).mono fun e W' h=>?_
 obtain⟨rfl,h1,h2,h3,h4⟩:=h
 exact⟨_,rfl,post_law hh.kids hh.full (fun t ht=>(hp t ht).2) hW hv hrt htb s1 s2 s3 h1 h2 h3 h4⟩
end Ax
namespace Ax
open Go
def tabFrom(S:Nat->Option SFunc)(P:Program):Nat->List (Option SFunc)->Bool
 |_,[]=>true
 |k,none::l=>tabFrom S P (k+1) l
 |k,some sf::l=>mFunc S P sf&&(decide (100000<=k)||sf.fid==k)&&tabFrom S P (k+1) l
theorem tabFrom_ok{S:Nat->Option SFunc}{P:Program}:∀{l:List (Option SFunc)}{k:Nat},tabFrom S P k l=true->∀(i:Nat) sf,l[i]?=some (some sf)->mFunc S P sf=true/\(k+i<100000->sf.fid=k+i)
 |[],_,_,i,sf,h=>by simp at h
 |none::l,k,h,i,sf,hi=>by
  cases i with
  |zero=>simp at hi
  |succ i=>
   have:=tabFrom_ok (l:=l) (k:=k+1) h i sf (by simpa using hi)
   rw[show k+1+i=k+(i+1) by omega]at this
   exact this
 |some s::l,k,h,i,sf,hi=>by
  simp only[tabFrom,Bool.and_eq_true,Bool.or_eq_true,decide_eq_true_eq,beq_iff_eq]at h
  obtain⟨⟨h1,h2⟩,h3⟩:=h
  cases i with
  |zero=>
   simp at hi
   subst hi
   exact⟨h1,fun hk=>by omega⟩
  |succ i=>
   have:=tabFrom_ok (l:=l) (k:=k+1) h3 i sf (by simpa using hi)
   rw[show k+1+i=k+(i+1) by omega]at this
   exact this
theorem mtab_of{tbl vtbl:List (Option SFunc)}{P:Program}(h1:tabFrom (tabS tbl vtbl) P 0 tbl=true)(h2:tabFrom (tabS tbl vtbl) P 100000 vtbl=true):MTab (tabS tbl vtbl) P:=by
 intro f sf hf
 unfold tabS at hf
 split at hf
 ·cases hg:tbl[f]? with
  |none=>rw[hg]at hf;cases hf
  |some x=>
   rw[hg]at hf
   simp only[Option.getD_some]at hf
   subst hf
   have:=tabFrom_ok h1 f sf hg
   exact⟨this.1,fun h=>by have:=this.2 (by omega);omega⟩
 ·rename_i hlt
  cases hg:vtbl[f-100000]? with
  |none=>rw[hg]at hf;cases hf
  |some x=>
   rw[hg]at hf
   simp only[Option.getD_some]at hf
   subst hf
   have:=tabFrom_ok h2 (f-100000) sf hg
   exact⟨this.1,fun h=>absurd h hlt⟩
end Ax
