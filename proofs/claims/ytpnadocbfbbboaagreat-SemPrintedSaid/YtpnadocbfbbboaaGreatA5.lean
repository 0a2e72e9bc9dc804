/- Part of a proof. -/
import Derived.Test.YtpnadocbfbbboaaGreatA4
import Derived.Scope
import Derived.ChangeStays
import Derived.ChangeSame
import Derived.ChangeOld
import Derived.ChangeArms
import Derived.JoinedOf
import Derived.RowKit3
import Derived.ReadAgain
import Derived.Handed

namespace Ax
open Go
variable {S:Nat->Option aD}{P:Program}{O:j4}{wl J:Nat}
theorem B3:∀{m:List aY}{s e:St}{iB:List St},eH O wl J m s=some (e,iB)->
  iB.length=m.length+1/\iB[0]?=some s/\iB[m.length]?=some e/\∀(i:Nat) so,m[i]?=some so->∃x y,iB[i]?=some x/\iB[i+1]?=some y/\gO O wl J so x=some y
 |[],s,e,iB,h=>by
  simp only[eH,Option.some.injEq,Prod.mk.injEq]at h;obtain⟨rfl,rfl⟩:=h;exact⟨rfl,rfl,rfl,λi so h=>by simp at h⟩
 |o::m,s,e,iB,h=>by
  simp only[eH]at h;split at h;rename_i s1 xy;split at h;rename_i e' l' hr;cases h;obtain⟨h1,h2,h3,h4⟩:=B3 hr;refine⟨by simp[h1],rfl,by simpa using h3,λi so hi=>?_⟩;cases i with
  |zero=>simp at hi;subst hi;exact⟨s,s1,rfl,by simpa using h2,xy⟩|succ i=>
   obtain⟨x,y,a1,a2,a3⟩:=h4 i so (by simpa using hi);exact⟨x,y,by simpa using a1,by simpa using a2,a3⟩
  cases h;cases h
structure abL (S:Nat->Option aD)(O:j4)(wl J:Nat)(so:aY)(s t:St):Prop where
 wj:∀u,u ∉ rE so->cK t.env u=cK s.env u
 akS:∀b,so.op.bW≠some b->t.bx[b]?=s.bx[b]?
 XE:t.bx.length=s.bx.length
 abM:so.op.pV S=false->t.st=s.st
 non:mL s.env so.guard=some false->cK t.env=ko (cK s.env) so.dst (.val .undef)/\t.bx=s.bx/\t.st=s.st
 yes:mL s.env so.guard=some true->∃e,tC O wl J so.op (so.args.map (JN s.env)) s.st s.bx=some (e,t.st,t.bx)/\cK t.env=ko (jE (cK s.env) (qw so.args)) so.dst e
 wan:mL s.env so.guard≠none
theorem akT{so:aY}{s t:St}(hO:B2 S O)(h:gO O wl J so s=some t):abL S O wl J so s t:=by
 unfold gO at h;split at h;cases h;rename_i hw;cases h;refine⟨λu hu=>?_,λ_ _=>rfl,rfl,λ_=>rfl,λ_=>⟨j9 _ _ _,rfl,rfl⟩,λh=>(by rw[hw]at h;cases h),(by rw[hw];simp)⟩;simp only[rE,List.mem_append,Option.mem_toList,not_or]at hu;rw[j9];simp only[ko];rw[if_neg hu.1];rename_i hw;split at h;cases h;rename_i e st' fH ha;have mM:t=⟨xZ (so.args.foldl mE s.env) so.dst e,fH,st'⟩->abL S O wl J so s t:=by
  intro ht;subst ht;have he:cK (xZ (so.args.foldl mE s.env) so.dst e)=ko (jE (cK s.env) (qw so.args)) so.dst e:=by rw[j9,uZ]
  have hb:(∀b,so.op.bW≠some b->fH[b]?=s.bx[b]?)/\fH.length=s.bx.length:=by
   obtain⟨yQ,h1,h2,h3,h4,h5,h6⟩:=KA (yQ:=s.bx) rfl (λ_ _=>rfl) ha;exact⟨h6,h2⟩
  refine⟨λu hu=>?_,hb.1,hb.2,λhW=>Om hO hW ha,λh=>(by rw[hw]at h;cases h),λ_=>⟨e,ha,he⟩,(by rw[hw];simp)⟩;simp only[rE,List.mem_append,Option.mem_toList,not_or]at hu;show cK (xZ (so.args.foldl mE s.env) so.dst e) u=_;rw[he];simp only[ko,jE];rw[if_neg hu.1,if_neg hu.2]
 split at h;cases h;exact mM rfl;split at h;cases h;exact mM rfl;cases h
structure Text (S:Nat->Option aD)(O:j4)(wl J:Nat)(m:List aY)(T:Nat->St):Prop where
 one:∀(i:Nat) so,m[i]?=some so->abL S O wl J so (T i) (T (i+1))
def MT(m:List aY)(T:Nat->St)(k:Nat)(t:Nat):Option eO:=match m[k]? with
 |some so=>if t∈rE so then some (cK (T (k+1)).env t) else none
 |none=>none
def MU(m:List aY)(T:Nat->St)(k:Nat)(b:Nat):Option (Option (List AV)):=match m[k]? with
 |some so=>if so.op.bW=some b then some ((T (k+1)).bx[b]?) else none
 |none=>none
def MW(S:Nat->Option aD)(m:List aY)(T:Nat->St)(k:Nat)(_:Unit):Option ai:=match m[k]? with
 |some so=>if so.op.pV S=true then some (T (k+1)).st else none
 |none=>none
abbrev vT(m:List aY)(T:Nat->St)(D:Nat->Bool)(t:Nat):eO:=pI (cK (T 0).env) (MT m T) D m.length t
abbrev vB(m:List aY)(T:Nat->St)(D:Nat->Bool)(b:Nat):Option (List AV):=pI (λb=>(T 0).bx[b]?) (MU m T) D m.length b
abbrev vS(S:Nat->Option aD)(m:List aY)(T:Nat->St)(D:Nat->Bool):ai:=pI (λ_=>(T 0).st) (MW S m T) D m.length ()
section
variable {m:List aY}{T:Nat->St}
theorem S6(h:Text S O wl J m T){j:Nat}(hj:j<=m.length)(t:Nat):vT m T (λk=>decide (k<j)) t=cK (T j).env t:=by
 refine A5 (st:=λk t=>cK (T k).env t) (λ_=>rfl) (λk hk x=>?_) hj t;have hs:m[k]?=some m[k]:=List.getElem?_eq_getElem hk;simp only[MT,hs];split
 rfl
 rename_i hx;exact(h.one k _ hs).wj x hx
theorem S7(h:Text S O wl J m T){j:Nat}(hj:j<=m.length)(b:Nat):vB m T (λk=>decide (k<j)) b=(T j).bx[b]?:=by
 refine A5 (st:=λk b=>(T k).bx[b]?) (λ_=>rfl) (λk hk x=>?_) hj b;have hs:m[k]?=some m[k]:=List.getElem?_eq_getElem hk;simp only[MU,hs];split
 rfl
 rename_i hx;exact(h.one k _ hs).akS x hx
theorem S8(h:Text S O wl J m T){j:Nat}(hj:j<=m.length):vS S m T (λk=>decide (k<j))=(T j).st:=by
 refine A5 (st:=λk (_:Unit)=>(T k).st) (λ_=>rfl) (λk hk x=>?_) hj ();have hs:m[k]?=some m[k]:=List.getElem?_eq_getElem hk;simp only[MW,hs];split
 rfl
 rename_i hx;exact(h.one k _ hs).abM (by simpa using hx)
theorem Ot(D:Nat->Bool):∀(N:Nat),N<=m.length->∃p,p<=N/\pI (λ_=>(T 0).st) (MW S m T) D N ()=(T p).st/\
  (p=0\/∃q so,p=q+1/\m[q]?=some so/\D q=true/\so.op.pV S=true)/\∀(j:Nat) so,p<=j->j<N->m[j]?=some so->so.op.pV S=true->D j=false
 |0,_=>⟨0,Nat.le_refl _,rfl,.inl rfl,λj so h1 h2=>by omega⟩
 |N+1,hN=>by
  obtain⟨p,h1,h2,h3,h4⟩:=Ot D N (by omega);have hs:m[N]?=some m[N]:=List.getElem?_eq_getElem (by omega);by_cases hD:D N=true/\(m[N]).op.pV S=true;refine⟨N+1,Nat.le_refl _,?_,.inr ⟨N,m[N],rfl,hs,hD.1,hD.2⟩,λj so h5 h6=>by omega⟩;simp only[pI,hD.1,MW,hs,if_true,hD.2,Option.getD_some];refine⟨p,by omega,?_,h3,λj so h5 h6 h7 h8=>?_⟩;simp only[pI];cases hDN:D N with
  |false=>simpa using h2|true=>
   have:¬(m[N]).op.pV S=true:=λh=>hD ⟨hDN,h⟩;simp only[MW,hs,if_true];rw[if_neg this];simpa using h2
  by_cases hj:j=N;subst hj;rw[hs]at h7;cases h7;cases hDN:D j with
  |false=>rfl|true=>exact absurd ⟨hDN,h8⟩ hD
  exact h4 j so h5 (by omega) h7 h8
theorem zJ(h:Text S O wl J m T){p:Nat}:∀(d:Nat),p+d<=m.length->(∀(j:Nat) so,p<=j->j<p+d->m[j]?=some so->so.op.pV S=false)->(T (p+d)).st=(T p).st
 |0,_,_=>rfl|d+1,hd,hn=>by
  have hs:m[p+d]?=some m[p+d]:=List.getElem?_eq_getElem (by omega);have e:=(h.one (p+d) _ hs).abM (hn (p+d) _ (by omega) (by omega) hs);rw[show p+(d+1)=p+d+1 by omega,e];exact zJ h d (by omega) λj so h1 h2=>hn j so h1 (by omega)
theorem Ou(S:Nat->Option aD)(m:List aY)(p:Nat):∀(d:Nat),p+d<=m.length->(∀(j:Nat) so,p<=j->j<p+d->m[j]?=some so->so.op.pV S=false)\/
  ∃(w:Nat) (so:aY),p<=w/\w<p+d/\m[w]?=some so/\so.op.pV S=true/\∀(j:Nat) so,p<=j->j<w->m[j]?=some so->so.op.pV S=false
 |0,_=>.inl λj so h1 h2=>by omega|d+1,hd=>by
  rcases Ou S m p d (by omega) with h|⟨w,so,h1,h2,h3,h4,h5⟩;have hs:m[p+d]?=some m[p+d]:=List.getElem?_eq_getElem (by omega);cases hw:(m[p+d]).op.pV S with
  |true=>exact .inr ⟨p+d,_,by omega,by omega,hs,hw,λj so a1 a2=>h j so a1 a2⟩|false=>
   refine .inl λj so a1 a2 a3=>?_;by_cases hj:j=p+d;subst hj;rw[hs]at a3;cases a3;exact hw;exact h j so a1 (by omega) a3
  exact .inr ⟨w,so,h1,by omega,h3,h4,h5⟩
end
end Ax
namespace Ax
open Go
variable {S:Nat->Option aD}{P:Program}{O:j4}{wl J n:Nat}
variable {cN:Array Oper}{m:List aY}{bG:List (Nat×Nat)}{T:Nat->St}{xp:Option (Nat×Nat×ai)}
structure Spc (S:Nat->Option aD)(O:j4)(wl J:Nat)(m:List aY)(bG:List (Nat×Nat))(T:Nat->St)(p q:Nat)(X:ai):Prop where
 lt:p<q
 ql:q<m.length
 mem:(100000+p,q)∈bG
 wp:∀a,m[p]?=some a->a.op.pV S=true/\a.guard=none
 wq:∀a,m[q]?=some a->a.op.pV S=true/\a.guard=none
 gap:∀(j:Nat) o,p<j->j<q->m[j]?=some o->o.op.pV S=false
 un:∀i j,i<100000->(100000+i,j)∈bG->i=p/\j=q
 cl:∀k w,(k,w)∈bG->k<100000->w=p\/w=q->(100000*(k+2)+p,q)∈bG
 x1:∀a,m[q]?=some a->∀e bx fH,tC O wl J a.op (a.args.map (JN (T q).env)) (T q).st bx=some (e,(T (q+1)).st,fH)->tC O wl J a.op (a.args.map (JN (T q).env)) (T p).st bx=some (e,X,fH)
 x2:∀a,m[p]?=some a->∀e bx fH,tC O wl J a.op (a.args.map (JN (T p).env)) (T p).st bx=some (e,(T (p+1)).st,fH)->tC O wl J a.op (a.args.map (JN (T p).env)) X bx=some (e,(T (q+1)).st,fH)
 rd:∀k,(100000*(k+2)+p,q)∈bG->∀o,m[k]?=some o->dV O wl J o (T k) (T (k+1)) X=true
structure Mn (S:Nat->Option aD)(P:Program)(O:j4)(wl J n:Nat)(cN:Array Oper)(m:List aY)(bG:List (Nat×Nat))(T:Nat->St)(xp:Option (Nat×Nat×ai)):Prop where
 dr:aat S P cN n m bG
 tx:Text S O wl J m T
 pr:∀q w,q<100000->(q,w)∈bG->∀o,m[q]?=some o->dV O wl J o (T q) (T (q+1)) (T w).st=true/\dV O wl J o (T q) (T (q+1)) (T (w+1)).st=true
 sn:xp=none->∀i j,i<100000->(100000+i,j) ∉ bG
 sp:∀p q X,xp=some (p,q,X)->Spc S O wl J m bG T p q X
 bo:∀(i:Nat) so j,m[i]?=some so->so.op.b8=some j->pX j (T 0).env=true
 pu:B2 S O
theorem C0{i j:Nat}{a b:aY}(h:kZ S bG i j a b=true):(∀t,t∈rE a->t ∉ yR b/\t ∉ rE b)/\(∀t,t∈rE b->t ∉ yR a):=by
 simp only[kZ,Bool.and_eq_true,List.all_eq_true,Bool.not_eq_true',List.contains_eq_mem,decide_eq_false_iff_not]at h;exact⟨h.1.1.1.1.1.1,h.1.1.1.1.1.2⟩
theorem Ij{i j:Nat}{a b:aY}(h:kZ S bG i j a b=true):(∀x,a.op.bW=some x->b.op.bA≠some x)/\(∀x,b.op.bW=some x->a.op.bA≠some x):=by
 simp only[kZ,Bool.and_eq_true]at h;obtain⟨⟨⟨⟨⟨_,h1⟩,h2⟩,_⟩,_⟩,_⟩:=h;refine⟨λx hx=>?_,λx hx=>?_⟩;rw[hx]at h1;simpa using h1;rw[hx]at h2;simpa using h2
theorem zK{i j:Nat}{a b:aY}(h:kZ S bG i j a b=true):(a.op.pV S=true/\b.op.pV S=true->(100000+i,j)∈bG)/\(a.op.MS=true\/b.op.pV S=false\/a.op.pV S=true\/(i,j)∈bG)/\(b.op.MS=true\/a.op.pV S=false\/b.op.pV S=true\/(j,i)∈bG):=by
 simp only[kZ,Bool.and_eq_true,Bool.or_eq_true,Bool.not_eq_true',Bool.and_eq_false_iff,List.contains_eq_mem,decide_eq_true_eq]at h;obtain⟨⟨⟨_,h3⟩,h4⟩,h5⟩:=h;refine⟨λ⟨x,y⟩=>?_,by rcases h4 with ((h|h)|h)|h<;>simp[h],by rcases h5 with ((h|h)|h)|h<;>simp[h]⟩;rcases h3 with (h|h)|h;rw[x]at h;cases h;rw[y]at h;cases h;exact h
theorem aav{op:ir}{x:Nat}(h:op.bW=some x):op.bA=some x:=by
 cases op<;>simp[ir.bW]at h<;>simp[ir.bA,h]
structure Fv (cN:Array Oper)(m:List aY)(D:Nat->Bool)(k:Nat)(o:Oper)(so:aY):Prop where
 down:S4 cN D
 ho:cN[k]?=some o
 hs:m[k]?=some so
 pre:∀p∈oK o,D p=true
 new:D k=false
theorem Fv.kZ(hR:Mn S P O wl J n cN m bG T xp){D:Nat->Bool}{k:Nat}{o:Oper}{so:aY}(h:Fv cN m D k o so){j:Nat}{b:aY}(hj:m[j]?=some b)(hd:D j≠decide (j<k)) :
  (j<k/\D j=false/\kZ S bG j k b so=true)\/(k<j/\D j=true/\kZ S bG k j so b=true):=by
 rcases Nat.lt_trichotomy j k with h1|h1|h1;have:D j=false:=by rw[decide_eq_true h1]at hd;simpa using hd
 exact .inl ⟨h1,this,hR.dr.apA D h.down k o h.ho h.pre j b so h1 this hj h.hs⟩;subst h1;exact absurd (h.new.trans (by simp)) hd;have:D j=true:=by rw[decide_eq_false (by omega)]at hd;simpa using hd
 exact .inr ⟨h1,this,hR.dr.apB D h.down k j so b h1 h.new this h.hs hj⟩
section
variable {D:Nat->Bool}{k:Nat}{o:Oper}{so:aY}
theorem Fv.lt(h:Fv cN m D k o so):k<m.length:=(List.getElem?_eq_some_iff.1 h.hs).1
theorem Fv.XF(hR:Mn S P O wl J n cN m bG T xp)(h:Fv cN m D k o so){t:Nat}(ht:t∈rE so\/t∈yR so):vT m T D t=cK (T k).env t:=by
 rw[<-S6 hR.tx (Nat.le_of_lt h.lt)];refine nk λj hj hd=>?_;have hb:m[j]?=some m[j]:=List.getElem?_eq_getElem hj;simp only[MT,hb];rw[if_neg];intro hjt;rcases h.kZ hR hb hd with⟨_,_,ha⟩|⟨_,_,ha⟩;have:=(C0 ha).1 t hjt;rcases ht with ht|ht;exact this.2 ht;exact this.1 ht;rcases ht with ht|ht;exact((C0 ha).1 t ht).2 hjt;exact(C0 ha).2 t hjt ht
theorem Fv.box(hR:Mn S P O wl J n cN m bG T xp)(h:Fv cN m D k o so){b:Nat}(hb:so.op.bA=some b):vB m T D b=(T k).bx[b]?:=by
 rw[<-S7 hR.tx (Nat.le_of_lt h.lt)];refine nk λj hj hd=>?_;have hm:m[j]?=some m[j]:=List.getElem?_eq_getElem hj;simp only[MU,hm];rw[if_neg];intro hw;rcases h.kZ hR hm hd with⟨_,_,ha⟩|⟨_,_,ha⟩;exact(Ij ha).1 b hw hb;exact(Ij ha).2 b hw hb
def vX(S:Nat->Option aD)(m:List aY)(T:Nat->St)(xp:Option (Nat×Nat×ai))(D:Nat->Bool):ai:=match xp with
 |some (p,q,X)=>if D q && !D p then X else vS S m T D
 |none=>vS S m T D
theorem rF{D:Nat->Bool}(h:∀p q X,xp=some (p,q,X)->D q=true->D p=true):vX S m T xp D=vS S m T D:=by
 unfold vX;cases xp with
 |none=>rfl|some x=>
  obtain⟨p,q,X⟩:=x;simp only;rw[if_neg];intro hc;simp only[Bool.and_eq_true,Bool.not_eq_true']at hc;rw[h p q X rfl hc.1]at hc;cases hc.2
theorem D4{D:Nat->Bool}{p q:Nat}{X:ai}(hx:xp=some (p,q,X))(h1:D q=true)(h2:D p=false):vX S m T xp D=X:=by
 unfold vX;rw[hx];simp[h1,h2]
theorem Mn.two(hR:Mn S P O wl J n cN m bG T xp){i j:Nat}{a b:aY}(hi:m[i]?=some a)(h:kZ S bG i j a b=true)(ha:a.op.pV S=true)(hb:b.op.pV S=true):∃X,xp=some (i,j,X):=by
 have hm:=(zK h).1 ⟨ha,hb⟩;have qK:i<100000:=Nat.lt_trans (List.getElem?_eq_some_iff.1 hi).1 hR.dr.GB;cases hx:xp with
 |none=>exact absurd hm (hR.sn hx i j qK)|some x=>
  obtain⟨p,q,X⟩:=x;obtain⟨rfl,rfl⟩:=(hR.sp p q X hx).un i j qK hm;exact⟨X,rfl⟩
theorem Fv.Ta(hR:Mn S P O wl J n cN m bG T xp)(h:Fv cN m D k o so)(hw:so.op.pV S=true){j:Nat}{b:aY}(hj:m[j]?=some b)(hb:b.op.pV S=true)(hd:D j≠decide (j<k)) :
  (j<k/\D j=false/\∃X,xp=some (j,k,X))\/(k<j/\D j=true/\∃X,xp=some (k,j,X)):=by
 rcases h.kZ hR hj hd with⟨h1,h2,h3⟩|⟨h1,h2,h3⟩;exact .inl ⟨h1,h2,hR.two hj h3 hb hw⟩;exact .inr ⟨h1,h2,hR.two h.hs h3 hw hb⟩
theorem Mn.at(hR:Mn S P O wl J n cN m bG T xp){D:Nat->Bool}{t:Nat}(ht:t<=m.length)(h:∀(j:Nat) b,m[j]?=some b->b.op.pV S=true->D j=decide (j<t)):vS S m T D=(T t).st:=by
 rw[<-S8 hR.tx ht];refine nk λj hj hd=>?_;have hm:m[j]?=some m[j]:=List.getElem?_eq_getElem hj;simp only[MW,hm];rw[if_neg];intro hjw;exact hd (h j _ hm hjw)
def ot(D:Nat->Bool)(k:Nat):Nat->Bool:=λj=>if j=k then true else D j
theorem qx{j:Nat}(h:j≠k):ot D k j=D j:=by simp[ot,h]
theorem zL:ot D k k=true:=by simp[ot]
theorem Fv.aaw(hR:Mn S P O wl J n cN m bG T xp)(h:Fv cN m D k o so)(hw:so.op.pV S=true) :
  (vX S m T xp D=(T k).st/\vX S m T xp (ot D k)=(T (k+1)).st)\/
  (∃p X,xp=some (p,k,X)/\vX S m T xp D=(T p).st/\vX S m T xp (ot D k)=X)\/
  (∃q X,xp=some (k,q,X)/\vX S m T xp D=X/\vX S m T xp (ot D k)=(T (q+1)).st):=by
 have hk:=h.lt;have plain:(∀(j:Nat) b,m[j]?=some b->b.op.pV S=true->D j=decide (j<k))->vS S m T D=(T k).st/\vS S m T (ot D k)=(T (k+1)).st:=λjG=>by
  refine⟨hR.at (Nat.le_of_lt hk) jG,hR.at hk λj b hj hb=>?_⟩;by_cases zI:j=k;subst zI;rw[zL];simp;rw[qx zI,jG j b hj hb];exact decide_eq_decide.2 ⟨λh=>by omega,λh=>by omega⟩
 cases hx:xp with
 |none=>
  refine .inl ?_;have:=plain λj b hj hb=>Classical.byContradiction λhd=>by
   rcases h.Ta hR hw hj hb hd with⟨_,_,X,e⟩|⟨_,_,X,e⟩<;>rw[hx]at e<;>cases e
  exact this
 |some x=>
  obtain⟨p,q,X⟩:=x;have sp:=hR.sp p q X hx;have RU:q<m.length:=sp.ql;have Mh:p<m.length:=Nat.lt_trans sp.lt RU;have XB:m[p]?=some m[p]:=List.getElem?_eq_getElem Mh;have hqm:m[q]?=some m[q]:=List.getElem?_eq_getElem RU;have hpw:=(sp.wp _ XB).1;have hqw:=(sp.wq _ hqm).1;have Ob:=sp.lt;rw[<-hx];have other:∀(j:Nat) b,m[j]?=some b->b.op.pV S=true->D j≠decide (j<k)->(j=p/\k=q/\D p=false)\/(k=p/\j=q/\D q=true):=λj b hj hb hd=>by
   rcases h.Ta hR hw hj hb hd with⟨_,g,X',e⟩|⟨_,g,X',e⟩;rw[hx]at e;cases e;exact .inl ⟨rfl,rfl,g⟩;rw[hx]at e;cases e;exact .inr ⟨rfl,rfl,g⟩
  by_cases XG:k=q;subst XG;cases hDp:D p with
  |true=>
   refine .inl ?_;have jG:∀(j:Nat) b,m[j]?=some b->b.op.pV S=true->D j=decide (j<k):=λj b hj hb=>Classical.byContradiction λhd=>by
    rcases other j b hj hb hd with⟨_,_,g⟩|⟨g,_,_⟩;rw[hDp]at g;cases g;omega
   rw[rF λp' q' X' e hq=>?_,rF λp' q' X' e hq=>?_];exact plain jG;rw[hx]at e;cases e;rw[qx (by omega)];exact hDp;rw[hx]at e;cases e;exact hDp
  |false=>
   refine .inr (.inl ⟨p,X,hx,?_,?_⟩);rw[rF λp' q' X' e hq=>by rw[hx]at e;cases e;rw[h.new]at hq;cases hq];refine hR.at (by omega) λj b hj hb=>?_;by_cases hjp:j=p;subst hjp;rw[hDp];simp;by_cases zI:j=k;subst zI;rw[h.new];symm;rw[decide_eq_false_iff_not];omega;by_cases KB:p<j/\j<k;have:=sp.gap j b KB.1 KB.2 hj;rw[this]at hb;cases hb;have:D j=decide (j<k):=Classical.byContradiction λhd=>by
    rcases other j b hj hb hd with⟨g,_,_⟩|⟨g,_,_⟩;exact hjp g;omega
   rw[this];exact decide_eq_decide.2 ⟨λh=>by omega,λh=>by omega⟩;exact D4 hx zL (by rw[qx (by omega)];exact hDp)
  by_cases hkp:k=p;subst hkp;cases hDq:D q with
  |false=>
   refine .inl ?_;have jG:∀(j:Nat) b,m[j]?=some b->b.op.pV S=true->D j=decide (j<k):=λj b hj hb=>Classical.byContradiction λhd=>by
    rcases other j b hj hb hd with⟨_,g,_⟩|⟨_,_,g⟩;exact XG g;rw[hDq]at g;cases g
   rw[rF λp' q' X' e hq=>?_,rF λp' q' X' e hq=>?_];exact plain jG;rw[hx]at e;cases e;exact zL;rw[hx]at e;cases e;rw[hDq]at hq;cases hq
  |true=>
   refine .inr (.inr ⟨q,X,hx,D4 hx hDq h.new,?_⟩);rw[rF λp' q' X' e hq=>by rw[hx]at e;cases e;exact zL];refine hR.at sp.ql λj b hj hb=>?_;by_cases zI:j=k;subst zI;rw[zL];symm;rw[decide_eq_true_iff];omega;rw[qx zI];by_cases hjq:j=q;subst hjq;rw[hDq];simp;by_cases KB:k<j/\j<q;have:=sp.gap j b KB.1 KB.2 hj;rw[this]at hb;cases hb;have:D j=decide (j<k):=Classical.byContradiction λhd=>by
    rcases other j b hj hb hd with⟨g,_,_⟩|⟨_,g,_⟩;exact zI g;exact hjq g
   rw[this];exact decide_eq_decide.2 ⟨λh=>by omega,λh=>by omega⟩
  refine .inl ?_;have jG:∀(j:Nat) b,m[j]?=some b->b.op.pV S=true->D j=decide (j<k):=λj b hj hb=>Classical.byContradiction λhd=>by
   rcases other j b hj hb hd with⟨_,g,_⟩|⟨g,_,_⟩;exact XG g;exact hkp g
  have agk:D q=true->D p=true:=λhq=>Classical.byContradiction λhp=>by
   have yu:D p=false:=(by simpa using hp);have g1:=jG p _ XB hpw;have g2:=jG q _ hqm hqw;rw[yu]at g1;rw[hq]at g2;have g1:=of_decide_eq_false g1.symm;have g2:=of_decide_eq_true g2.symm;omega
  rw[rF λp' q' X' e hq=>?_,rF λp' q' X' e hq=>?_];exact plain jG;rw[hx]at e;cases e;rw[qx (λe=>XG e.symm)]at hq;rw[qx (λe=>hkp e.symm)];exact agk hq;rw[hx]at e;cases e;exact agk hq
theorem Fv.still(h:Fv cN m D k o so)(hR:Mn S P O wl J n cN m bG T xp)(hw:so.op.pV S=false):vX S m T xp (ot D k)=vX S m T xp D:=by
 have e:vS S m T (ot D k)=vS S m T D:=by
  refine nk λj hj hd=>?_;by_cases zI:j=k;subst zI;simp[MW,h.hs,hw];rw[qx zI]at hd;exact absurd rfl hd
 cases hx:xp with
 |none=>simp only[vX];exact e|some x=>
  obtain⟨p,q,X⟩:=x;have sp:=hR.sp p q X hx;have h1:p≠k:=λhe=>by subst he;have:=(sp.wp _ h.hs).1;rw[hw]at this;cases this
  have h2:q≠k:=λhe=>by subst he;have:=(sp.wq _ h.hs).1;rw[hw]at this;cases this
  simp only[vX,qx h1,qx h2,e]
theorem Fv.akW(hR:Mn S P O wl J n cN m bG T xp)(h:Fv cN m D k o so)(hn:so.op.MS=false)(hw:so.op.pV S=false) :
  vX S m T xp D=(T k).st\/dV O wl J so (T k) (T (k+1)) (vX S m T xp D)=true:=by
 have tT:k<100000:=Nat.lt_trans h.lt hR.dr.GB;by_cases Wy:∃p q X,xp=some (p,q,X)/\D q=true/\D p=false;obtain⟨p,q,X,hx,hq,hp⟩:=Wy;right;have sp:=hR.sp p q X hx;rw[D4 hx hq hp];refine sp.rd k ?_ so h.hs;have RU:q<m.length:=sp.ql;have Mh:p<m.length:=Nat.lt_trans sp.lt RU;have XB:m[p]?=some m[p]:=List.getElem?_eq_getElem Mh;have hqm:m[q]?=some m[q]:=List.getElem?_eq_getElem RU;rcases Nat.lt_trichotomy k q with XG|XG|XG;have ha:=hR.dr.apB D h.down k q so _ XG h.new hq h.hs hqm;rcases (zK ha).2.1 with e|e|e|e;rw[hn]at e;cases e;rw[(sp.wq _ hqm).1]at e;cases e;rw[hw]at e;cases e;exact sp.cl k q e tT (.inr rfl);subst XG;rw[h.new]at hq;cases hq;have ha:=hR.dr.apA D h.down k o h.ho h.pre p _ so (by have:=sp.lt;omega) hp XB h.hs;rcases (zK ha).2.2 with e|e|e|e;rw[hn]at e;cases e;rw[(sp.wp _ XB).1]at e;cases e;rw[hw]at e;cases e;exact sp.cl k p e tT (.inl rfl);rw[rF λp q X hx hq=>Classical.byContradiction λhp=>Wy ⟨p,q,X,hx,hq,by simpa using hp⟩];obtain⟨p,h1,h2,h3,h4⟩:=Ot (S:=S) (m:=m) (T:=T) D m.length (Nat.le_refl _);have hv:vS S m T D=(T p).st:=h2;have hk:=h.lt;have pair:∀(w:Nat) b,m[w]?=some b->b.op.pV S=true->D w≠decide (w<k)->(k,w)∈bG:=by
  intro w b hb hbw hd;rcases h.kZ hR hb hd with⟨_,_,ha⟩|⟨_,_,ha⟩;rcases (zK ha).2.2 with e|e|e|e;rw[hn]at e;cases e;rw[hbw]at e;cases e;rw[hw]at e;cases e;exact e;rcases (zK ha).2.1 with e|e|e|e;rw[hn]at e;cases e;rw[hbw]at e;cases e;rw[hw]at e;cases e;exact e
 by_cases hpk:p<=k;obtain⟨d,hd⟩:∃d,k=p+d:=⟨k-p,by omega⟩;rcases Ou S m p d (by omega) with hg|⟨w,b,g1,g2,g3,g4,g5⟩;left;rw[hv,hd];exact(zJ hR.tx d (by omega) hg).symm;right;have hDw:=h4 w b g1 (by have:=(List.getElem?_eq_some_iff.1 g3).1;omega) g3 g4;have hp:=pair w b g3 g4 (by rw[hDw,decide_eq_true (by omega)];simp);have e:(T p).st=(T w).st:=by
  obtain⟨d',FM⟩:∃d,w=p+d:=⟨w-p,by omega⟩;rw[FM];exact(zJ hR.tx d' (by have:=(List.getElem?_eq_some_iff.1 g3).1;omega) λj so a1 a2=>g5 j so a1 (by omega)).symm
 rw[hv,e];exact(hR.pr k w tT hp so h.hs).1;right;rcases h3 with h3|⟨q,b,rfl,g1,g2,g3⟩;omega;have hp:=pair q b g1 g3 (by
  by_cases hq:q=k;subst hq;rw[h.new]at g2;cases g2;rw[g2,decide_eq_false (by omega)];simp)
 rw[hv];exact(hR.pr k q tT hp so h.hs).2
theorem Fv.aax(hR:Mn S P O wl J n cN m bG T xp)(h:Fv cN m D k o so)(t:Nat):vT m T (ot D k) t=if t∈rE so then cK (T (k+1)).env t else vT m T D t:=by
 have:=Kx (init:=cK (T 0).env) (zg:=MT m T) (D:=D) (D':=ot D k) (x:=t) (j:=k) h.lt h.new (λj=>rfl) λj h1 h2 h3 h4=>by
  have hb:m[j]?=some m[j]:=List.getElem?_eq_getElem h2;have ha:=hR.dr.apB D h.down k j so _ h1 h.new h3 h.hs hb;simp only[MT,h.hs]at h4;simp only[MT,hb];rw[if_neg];intro hjt;by_cases ht:t∈rE so;exact((C0 ha).1 t ht).2 hjt;rw[if_neg ht]at h4;exact h4 rfl
 refine this.trans ?_;simp only[MT,h.hs];split
 rfl
 rfl
theorem Fv.aay(hR:Mn S P O wl J n cN m bG T xp)(h:Fv cN m D k o so)(b:Nat):vB m T (ot D k) b=if so.op.bW=some b then (T (k+1)).bx[b]? else vB m T D b:=by
 have:=Kx (init:=λb=>(T 0).bx[b]?) (zg:=MU m T) (D:=D) (D':=ot D k) (x:=b) (j:=k) h.lt h.new (λj=>rfl) λj h1 h2 h3 h4=>by
  have hb:m[j]?=some m[j]:=List.getElem?_eq_getElem h2;have ha:=hR.dr.apB D h.down k j so _ h1 h.new h3 h.hs hb;simp only[MU,h.hs]at h4;simp only[MU,hb];rw[if_neg];intro hjt;by_cases ht:so.op.bW=some b;exact(Ij ha).1 b ht (aav hjt);rw[if_neg ht]at h4;exact h4 rfl
 refine this.trans ?_;simp only[MU,h.hs];split
 rfl
 rfl
end
end Ax
namespace Ax
open Go
variable {S:Nat->Option aD}{P:Program}{O:j4}{wl J n:Nat}
variable {cN:Array Oper}{m:List aY}{bG:List (Nat×Nat)}{T:Nat->St}{xp:Option (Nat×Nat×ai)}
variable {w0 w w':World}{G0 G G':aQ}{β gw:List mS}{A0:Nat->Nat}{a:Act}{bx:aX}
structure At (S:Nat->Option aD)(n:Nat)(m:List aY)(T:Nat->St)(xp:Option (Nat×Nat×ai))(w0:World)(G0:aQ)(A0:Nat->Nat)(D:Nat->Bool)(w:World)(G:aQ)(β:List mS)(a:Act)(bx:aX):Prop where
 fs:FS w G β a (vT m T D) bx (vX S m T xp D) n
 mv:Mv w0 G0 A0 w G (vG β a (vT m T D) bx (vX S m T xp D) G n)
 bb:∀b,bx[b]?=vB m T D b
 bl:bx.length=(T 0).bx.length
 fp:∀(i:Nat) so j,m[i]?=some so->so.op.b8=some j->D i=false->∀t,(vT m T D t).pB j=true
theorem Text.XE(h:Text S O wl J m T):∀{j:Nat},j<=m.length->(T j).bx.length=(T 0).bx.length
 |0,_=>rfl|j+1,hj=>by
  have hs:m[j]?=some m[j]:=List.getElem?_eq_getElem (by omega);rw[(h.one j _ hs).XE,h.XE (by omega)]
theorem MX{e f:eO}(h:e.jF f=true):e=f:=by
 cases e<;>cases f<;>simp[eO.jF]at h
 rfl
 rw[HR _ _ h];obtain⟨rfl,rfl⟩:=h;rfl
theorem MY{op:ir}(h:op.MS=false):op.bA=none:=by
 cases op<;>simp[ir.MS,ir.bA]at h ⊢
theorem QH{η:Nat->eO}{j:Nat}(h:∀t,(η t).pB j=true)(s:Src):(AJ η s).pB j=true:=by
 cases s with
 |const a=>rfl|tmp t mv=>
  cases mv with
  |true=>exact h t|false=>
   have:=h t;simp only[AJ];cases he:η t with
   |none=>rfl|val v=>rfl|fp i k=>rw[he]at this;exact this
theorem A6{η RT:Nat->eO}:∀{l:List Src},(∀t∈XA l,η t=RT t)->l.map (AJ η)=l.map (AJ RT)
 |[],_=>rfl|.tmp t mv::l,h=>by
  simp only[List.map_cons];rw[A6 (l:=l) λu hu=>h u (List.mem_cons_of_mem _ hu)];have:=h t List.mem_cons_self;cases mv<;>simp only[AJ,this]
 |.const a::l,h=>by
  simp only[List.map_cons];rw[A6 (l:=l) λu hu=>h u hu]
  rfl
theorem zM{Q:Exit->Act->World->Prop}(hR:Mn S P O wl J n cN m bG T xp)(hO:jP S P O){D:Nat->Bool}{k:Nat}{o:Oper}{so:aY}(h:Fv cN m D k o so)(hA:At S n m T xp w0 G0 A0 D w G β a bx){K:Act->World->Prop}
  (hK:∀w' G' gw a' fH,At S n m T xp w0 G0 A0 (ot D k) w' G' gw a' fH->K a' w'):wpOp P cN Q k K a w:=by
 have one:=hR.tx.one k so h.hs;have hwe:uY (vT m T D) so.guard=mL (T k).env so.guard:=by
  rw[Gw];cases hg:so.guard with
  |none=>rfl|some x=>
   obtain⟨t,b⟩:=x;have:=h.XF hR (t:=t) (.inr (by simp[yR,hg]));simp only[uY,this]
 obtain⟨b,hb⟩:∃b,mL (T k).env so.guard=some b:=by
  cases hw:mL (T k).env so.guard with
  |none=>exact absurd hw one.wan|some b=>exact⟨b,rfl⟩
 refine Ol (wl:=wl) (J:=J) h.ho (hR.dr.get k o so h.ho h.hs) hO hA.fs hA.mv.one (hwe.trans hb) (λhbf a' f1 f2=>?_) (λhbt=>?_);subst hbf;obtain⟨n1,n2,n3⟩:=one.non hb;have e1:ko (vT m T D) so.dst (.val .undef)=vT m T (ot D k):=by
  funext t;rw[h.aax hR];split;rename_i ht;rw[n1];simp only[ko];split
  rfl
  exact h.XF hR (.inl ht);rename_i ht;simp only[rE,List.mem_append,Option.mem_toList,not_or]at ht;simp only[ko];rw[if_neg ht.1]
 have e2:vX S m T xp (ot D k)=vX S m T xp D:=by
  by_cases hw:so.op.pV S=true;rcases h.aaw hR hw with⟨e1,e2⟩|⟨p,X,hx,_⟩|⟨q,X,hx,_⟩;rw[e1,e2,n3];have:=(hR.sp p k X hx).wq so h.hs;rw[this.2]at hb;cases hb;have:=(hR.sp k q X hx).wp so h.hs;rw[this.2]at hb;cases hb;exact h.still hR (by simpa using hw)
 rw[e1,<-e2]at f1;rw[e1,<-e2]at f2;refine hK w G β a' bx ⟨f1,?_,λx=>?_,hA.bl,λi si j hi hj hD t=>?_⟩;rw[e2]at f2 ⊢;exact hA.mv.trans f2;rw[h.aay hR,hA.bb];split;rename_i hx;rw[n2];exact h.box hR (aav hx)
 rfl
 have iR:i≠k/\D i=false:=by
  unfold ot at hD;by_cases MZ:i=k;rw[if_pos MZ]at hD;cases hD;rw[if_neg MZ]at hD;exact⟨MZ,hD⟩
 rw[<-e1];simp only[ko];split
 rfl
 exact hA.fp i si j hi hj iR.2 t;subst hbt;obtain⟨e,ha,y2⟩:=one.yes hb;have yf:so.args.map (JN (T k).env)=so.args.map (AJ (vT m T D)):=by
  rw[List.map_congr_left (g:=AJ (cK (T k).env)) λx _=>CY _ x];exact(A6 λt ht=>h.XF hR (.inr (by simp[yR,ht]))).symm
 rw[yf]at ha;have ha2:tC O wl J so.op (so.args.map (AJ (vT m T D))) (vX S m T xp D) (T k).bx=some (e,vX S m T xp (ot D k),(T (k+1)).bx):=by
  by_cases hw:so.op.pV S=true;rcases h.aaw hR hw with⟨e1,e2⟩|⟨p,X,hx,e1,e2⟩|⟨q,X,hx,e1,e2⟩;rw[e1,e2];exact ha;rw[e1,e2,<-yf];rw[<-yf]at ha;exact(hR.sp p k X hx).x1 so h.hs _ _ _ ha;rw[e1,e2,<-yf];rw[<-yf]at ha;exact(hR.sp k q X hx).x2 so h.hs _ _ _ ha;have GC:so.op.pV S=false:=by simpa using hw
  rw[h.still hR GC];have gi:=one.abM GC;by_cases hn:so.op.MS=true;exact Xy hn _ ha;have hn':so.op.MS=false:=by simpa using hn
  rcases h.akW hR hn' GC with hs|hs;rw[hs];rw[gi]at ha;exact ha;unfold dV at hs;rw[hb]at hs;simp only at hs;rw[yf]at hs;split at hs;rename_i e' st' fH FO;have akX:=Om hR.pu GC FO;subst akX;have Wz:=MY hn';obtain⟨rfl,_⟩:=Ii Wz (T k).bx FO;obtain⟨hbx,_⟩:=Ii Wz (T k).bx ha;rw[hbx];split at hs;rename_i d hd;have:=MX hs;rw[y2]at this;simp only[ko,hd,if_true]at this;subst this;exact FO;cases hs;cases hs
 obtain⟨yQ,b1,b2,b3,b4,b5,_⟩:=KA (yQ:=bx) (by rw[hA.bl,hR.tx.XE (Nat.le_of_lt h.lt)]) (λb hb=>by rw[hA.bb];exact h.box hR hb) ha2;refine⟨e,vX S m T xp (ot D k),yQ,b1,λj hj t _ _=>hA.fp k so j h.hs hj h.new t,λw' G' gw a' f1 f2=>?_⟩;have e1:ko (jE (vT m T D) (qw so.args)) so.dst e=vT m T (ot D k):=by
  funext t;rw[h.aax hR];split;rename_i ht;rw[y2];simp only[ko,jE];split
  rfl
  split
  rfl
  exact h.XF hR (.inl ht);rename_i ht;simp only[rE,List.mem_append,Option.mem_toList,not_or]at ht;simp only[ko,jE];rw[if_neg ht.1,if_neg ht.2]
 rw[e1]at f1 f2;refine hK w' G' gw a' yQ ⟨f1,hA.mv.trans f2,λx=>?_,b3.trans hA.bl,λi si j hi hj hD t=>?_⟩;rw[h.aay hR];split;rename_i hx;exact b4 x hx;rename_i hx;rw[b5 x hx,hA.bb];have iR:i≠k/\D i=false:=by
  unfold ot at hD;by_cases MZ:i=k;rw[if_pos MZ]at hD;cases hD;rw[if_neg MZ]at hD;exact⟨MZ,hD⟩
 rw[<-e1];simp only[ko,jE];split;refine abK b1 (λx hx=>?_) λhn=>?_;obtain⟨s,_,rfl⟩:=List.mem_map.1 hx;exact QH (λt=>hA.fp i si j hi hj iR.2 t) s;rcases Nat.lt_or_gt_of_ne iR.1 with hl|hl;exact hR.dr.aau i k si so j hl hi h.hs hj hn;exact hR.dr.aau k i so si j hl h.hs hi hn hj;split
 rfl
 exact hA.fp i si j hi hj iR.2 t
def iX(ff:Array Bool):Nat->Bool:=λk=>ff.getD k false
theorem Tb{Q:Exit->Act->World->Prop}(hR:Mn S P O wl J n cN m bG T xp)(hO:jP S P O)
  (hQ:∀w' G' gw a' fH D,(∀k,k<m.length->D k=true)->At S n m T xp w0 G0 A0 D w' G' gw a' fH->Q .normal a' w') :
  ∀(eC:Nat) (ff:Array Bool) (a:Act) (w:World) (G:aQ) (β:List mS) (bx:aX),ff.size=cN.size->S4 cN (iX ff)->gq (λk=>if iX ff k then 0 else 1) cN.size<=eC->
   At S n m T xp w0 G0 A0 (iX ff) w G β a bx->wpAny P .any cN Q eC ff a w:=by
 have D5:∀(ff:Array Bool) (a:Act) (w:World) (G:aQ) (β:List mS) (bx:aX),ff.size=cN.size->At S n m T xp w0 G0 A0 (iX ff) w G β a bx->Region.ready .any cN ff=[]->Q .normal a w:=by
  intro ff a w G β bx eI hA hr;refine hQ w G β a bx _ (λk=>?_) hA;induction k using Nat.strongRecOn with
  |_ k ih=>
   intro hk;cases hd:iX ff k with
   |true=>rfl|false=>
    exfalso;rw[hR.dr.len]at hk;have ho:cN[k]?=some cN[k]:=(by simp[hk]);have:k∈Region.ready .any cN ff:=by
     rw[mem_ready];refine⟨?_,cN[k],ho,λe he hb=>?_⟩;have Kc:k<ff.size:=(by omega);simp only[iX,Array.getD,Kc,dif_pos]at hd ⊢;exact hd;have hp:e.on∈oK cN[k]:=by
      unfold oK;exact List.mem_map.2 ⟨e,List.mem_filter.2 ⟨by simpa using he,hb⟩,rfl⟩
     have bw:=hR.dr.lt k cN[k] ho e.on hp;exact ih e.on bw (by rw[hR.dr.len];omega)
    rw[hr]at this;cases this
 intro eC;induction eC with
 |zero=>
  intro ff a w G β bx eI hD hf hA;have jG:∀k,k<cN.size->iX ff k=true:=λk hk=>by
   have:=wB (f:=λk=>if iX ff k then 0 else 1) hk;cases hd:iX ff k with
   |true=>rfl|false=>simp only[hd,Bool.false_eq_true,if_false]at this;omega
  have hr:Region.ready .any cN ff=[]:=by
   rw[List.eq_nil_iff_forall_not_mem];intro j hj;rw[mem_ready]at hj;obtain⟨h1,o,ho,_⟩:=hj;have hk:=(Array.getElem?_eq_some_iff.1 ho).1;have h2:=jG j hk;have Kc:j<ff.size:=(by omega);simp only[iX,Array.getD,Kc,dif_pos]at h1 h2;rw[h1]at h2;cases h2
  exact⟨hr,D5 ff a w G β bx eI hA hr⟩
 |succ eC ih=>
  intro ff a w G β bx eI hD hf hA;refine⟨D5 ff a w G β bx eI hA,λi hi=>?_⟩;rw[mem_ready]at hi;obtain⟨h1,o,ho,h3⟩:=hi;have hk:=(Array.getElem?_eq_some_iff.1 ho).1;have hkm:i<m.length:=by rw[hR.dr.len];exact hk
  have hs:m[i]?=some m[i]:=List.getElem?_eq_getElem hkm;have Kc:i<ff.size:=by omega
  have ua:iX ff i=false:=by
   simp only[iX,Array.getD,Kc,dif_pos]at h1 ⊢;exact h1
  have XH:∀p∈oK o,iX ff p=true:=by
   intro p hp;unfold oK at hp;obtain⟨e,he,rfl⟩:=List.mem_map.1 hp;obtain⟨he1,he2⟩:=List.mem_filter.1 he;exact h3 e (by simpa using he1) he2
  have akY:Fv cN m (iX ff) i o m[i]:=⟨hD,ho,hs,XH,ua⟩;have Ov:iX (ff.setIfInBounds i true)=ot (iX ff) i:=by
   funext j;by_cases hj:j=i;subst hj;simp[iX,ot,Kc];simp[iX,ot,hj,show ¬i=j from λe=>hj e.symm]
  refine zM hR hO akY hA λw' G' gw a' fH Kp=>?_;rw[<-Ov]at Kp;refine ih _ a' w' G' gw fH (by simp[eI]) ?_ ?_ Kp;intro j oj hoj hj p hp;rw[Ov]at hj ⊢;unfold ot at hj ⊢;by_cases hji:j=i;subst hji;rw[ho]at hoj;cases hoj;split
  rfl
  exact XH p hp;rw[if_neg hji]at hj;split
  rfl
  exact hD j oj hoj hj p hp;have h5:=ud (f:=λk=>if iX (ff.setIfInBounds i true) k then 0 else 1) (g:=λk=>if iX ff k then 0 else 1) (d:=i) hk λt ht=>by
   rw[Ov];simp[ot,ht]
  have e1:iX (ff.setIfInBounds i true) i=true:=by rw[Ov];simp[ot]
  simp only[e1,ua,if_true,Bool.false_eq_true,if_false]at h5;omega
theorem M0{wl J:Nat}{st st':ai}{i v x y:Nat}{cs:List AV}(h:fV wl J st (.ptr i v x y) cs=some st'):∃o,st'=st.set i o/\∀(qg:ai),qg[i]?=st[i]?->fV wl J qg (.ptr i v x y) cs=some (qg.set i o):=by
 unfold fV at h;simp only at h;split at h;rename_i v' sz rows gi;split at h;rename_i hc;split at h;rename_i r hr;split at h;rename_i hl;simp only[Option.some.injEq]at h;refine⟨_,h.symm,λqg h2=>?_⟩;unfold fV;simp only[h2,gi,if_pos hc,hr,if_pos hl];cases h;cases h;cases h;cases h
theorem GF{O:j4}{wl J:Nat}{n:Nat}{st st':ai}{bx fH:aX}{i v x y:Nat}{u:AV}{e:eO}(h:tC O wl J (.store n) [.val (.ptr i v x y),.val u] st bx=some (e,st',fH)) :
  ∃o,st'=st.set i o/\fH=bx/\∀(qg:ai) (yQ:aX),qg[i]?=st[i]?->tC O wl J (.store n) [.val (.ptr i v x y),.val u] qg yQ=some (e,qg.set i o,yQ):=by
 simp only[tC,aP]at h;split at h;rename_i hc;split at h;rename_i s1 hw;cases h;obtain⟨o,h1,h2⟩:=M0 hw;refine⟨o,h1,rfl,λqg yQ he=>?_⟩;simp only[tC,aP,if_pos hc,h2 qg he];cases h;cases h
theorem KC{id:Nat}{Q:Exit->Act->World->Prop}{s e:St}(hm:Oq S P cN n m bG=true)(hO:jP S P O)(hP:B2 S O)(_hs:FT w G β a s n)(h1:∀b,gy β a s G n b<=1)(he:fY O wl J m bG s=some e)
  (abO:∀d,FT { w with drawn:=d } G β a s n/\∀w' G' A',Mv { w with drawn:=d } G (gy β a s G n) w' G' A'->Mv w G (gy β a s G n) w' G' A')
  (hQ:∀w' G' gw a',FT w' G' gw a' e n->Mv w G (gy β a s G n) w' G' (gy gw a' e G' n)->Q .normal a' w'):(Code.region id cN true).wp P Q a w:=by
 have hd:=S5 hm;unfold fY at he;split at he;cases he;rename_i e' iB hr;split at he;rename_i hc;cases he;simp only[Bool.and_eq_true,List.all_eq_true]at hc;obtain⟨r1,r2,r3,r4⟩:=B3 hr
 let T:Nat->St:=λk=>(iB[k]?).getD s
 have hT:∀(i:Nat) x,iB[i]?=some x->T i=x:=λi x hx=>by simp only[T,hx,Option.getD_some]
 have tx:Text S O wl J m T:=⟨λi so hi=>by
  obtain⟨x,y,a1,a2,a3⟩:=r4 i so hi;rw[hT i x a1,hT (i+1) y a2];exact akT hP a3⟩
 obtain⟨xp,hsn,oF⟩:∃xp:Option (Nat×Nat×ai),(xp=none->∀i j,i<100000->(100000+i,j) ∉ bG)/\∀p q X,xp=some (p,q,X)->Spc S O wl J m bG T p q X:=by
  by_cases hex:∃p q,p<100000/\(100000+p,q)∈bG;obtain⟨p,q,hp,Ob⟩:=hex;obtain⟨t1,⟨a,b,t2,t3,t4,t5,t6,t7⟩,t8,t9,t10⟩:=hd.xt p q hp Ob;have RU:q<m.length:=(List.getElem?_eq_some_iff.1 t3).1;have hxs:=hc.1 _ Ob;unfold jx at hxs;simp only[show ¬100000+p<100000 by omega,if_false,show (100000+p) % 100000=p by omega]at hxs;cases hX:xSt wl J m iB p q with
  |none=>rw[hX]at hxs;cases hxs|some X=>
   refine⟨some (p,q,X),⟨λh=>(by cases h),λp' q' X' h=>?_⟩⟩;cases h;have KB:(T q).st=(T (p+1)).st:=by
    obtain⟨d,FM⟩:∃d,q=p+1+d:=⟨q-(p+1),by omega⟩;rw[FM];exact zJ tx d (by omega) λj so a1 a2 a3=>t8 j so (by omega) (by omega) a3
   unfold xSt at hX;split at hX;rename_i a' s' b' t' g1 g2 g3 g4;rw[t2]at g1;cases g1;rw[t3]at g3;cases g3;have ME:=hT p s' g2;have ht':=hT q t' g4;subst ME ht';split at hX;rename_i ao av bo bv ma i vi xi yi ui mb j vj xj yj uj k1 k2 k3 k4;split at hX;cases hX;rename_i Cr;split at hX;rename_i e0 X0 b0 Ct;cases hX;have agm:tC O wl J (.store mb) [.val (.ptr j vj xj yj),.val uj] (T p).st []=some (e0,X,b0):=Ct;obtain⟨ob,o1,o2,o3⟩:=GF agm;have ak0:=tx.one p a t2;obtain⟨ep,ap,_⟩:=ak0.yes (by rw[t6];rfl);rw[k1,k2]at ap;obtain⟨oa,p1,p2,p3⟩:=GF ap;have ak1:=tx.one q b t3;obtain⟨eq,aq,_⟩:=ak1.yes (by rw[t7];rfl);rw[k3,k4]at aq;have agn:(T q).st[j]?=(T p).st[j]?:=(by rw[KB,p1,List.getElem?_set_ne Cr]);have q1:(T (q+1)).st=(T q).st.set j ob:=by
    have:=o3 (T q).st (T q).bx agn;rw[this]at aq;simp only[Option.some.injEq,Prod.mk.injEq]at aq;exact aq.2.1.symm
   refine⟨t1,RU,Ob,λa' FO=>?_,λa' FO=>?_,t8,t10,t9,λa' FO e bx fH hh=>?_,λa' FO e bx fH hh=>?_,λk hk o ho=>?_⟩;rw[t2]at FO;cases FO;exact⟨by rw[k1];rfl,t6⟩;rw[t3]at FO;cases FO;exact⟨by rw[k3];rfl,t7⟩;rw[t3]at FO;cases FO;rw[k3,k4]at hh ⊢;rw[o3 (T q).st bx agn]at hh;simp only[Option.some.injEq,Prod.mk.injEq]at hh;rw[o3 (T p).st bx rfl,hh.1,hh.2.2,o1];rw[t2]at FO;cases FO;rw[k1,k2]at hh ⊢;rw[p3 (T p).st bx rfl]at hh;simp only[Option.some.injEq,Prod.mk.injEq]at hh;rw[p3 X bx (by rw[o1,List.getElem?_set_ne (λe=>Cr e.symm)]),hh.1,hh.2.2,q1,KB,p1,o1,List.set_comm _ _ Cr];have:=hc.1 _ hk;unfold jx at this;simp only[show ¬100000*(k+2)+p<100000 by omega,if_false,show (100000*(k+2)+p) % 100000=p by omega,show ¬100000*(k+2)+p<200000 by omega,show (100000*(k+2)+p) / 100000-2=k by omega]at this;have hX2:xSt wl J m iB p q=some X:=by
    unfold xSt;simp only[t2,t3,g2,g4,k1,k2,k3,k4,if_neg Cr,Ct]
   rw[hX2]at this;simp only at this;split at this;rename_i o' x y g5 g6 g7;rw[ho]at g5;cases g5;rw[hT k x g6,hT (k+1) y g7];exact this;cases this;cases hX;cases hX;cases hX
  exact⟨none,⟨λ_ i j hi Cr=>hex ⟨i,j,hi,Cr⟩,λ_ _ _ h=>(by cases h)⟩⟩
 have hR:Mn S P O wl J n cN m bG T xp:=by
  refine⟨hd,tx,λq w RU hqw o ho=>?_,hsn,oF,λi so j hi hj=>?_,hP⟩;have:=hc.1 (q,w) hqw;unfold jx at this;simp only[RU,if_true]at this;split at this;rename_i o' x y x' y' g1 g2 g3 g4 g5;rw[ho]at g1;cases g1;rw[hT q x g2,hT (q+1) y g3,hT w x' g4,hT (w+1) y' g5];simpa only [Bool.and_eq_true] using this;cases this;have:=hc.2 so (cQ hi);unfold bD at this;rw[hj]at this;rw[hT 0 s r2];exact this
 have h0:T 0=s:=hT 0 s r2;have Tc:iX (Array.replicate cN.size false)=λ_=>false:=by
  funext k;simp only[iX,Array.getD,Array.size_replicate,Array.getInternal_eq_getElem,Array.getElem_replicate];split<;>rfl
 have Td:∀{K V:Type} (init:K->V) (zg:Nat->K->Option V) (N:Nat) (x:K),pI init zg (λ_=>false) N x=init x:=by
  intro K V init zg N x;induction N with
  |zero=>rfl|succ N ih=>simp only[pI,ih];rfl
 obtain⟨d1,d2⟩:=abO (w.drawn+1);refine wp_region_any hd.fol (Tb (w0:={ w with drawn:=w.drawn+1 }) (G0:=G) (A0:=gy β a s G n) hR hO (λw' G' gw a' fH D hD hA=>?_) cN.size _ a _ G β s.bx (by simp) ?_ ?_ ?_);have jG:∀{K V:Type} (init:K->V) (zg:Nat->K->Option V) (x:K),pI init zg D m.length x=pI init zg (λk=>decide (k<m.length)) m.length x:=λinit zg x=>nk λk hk iR=>by
  rw[hD k hk,decide_eq_true hk]at iR;exact absurd rfl iR
 have hTe:T m.length=e:=hT _ e r3;have e1:vT m T D=cK e.env:=by
  funext t;rw[<-hTe,<-S6 tx (Nat.le_refl _)];exact jG _ _ t
 have e2:vX S m T xp D=e.st:=by
  rw[rF λp q X hx _=>hD p (by have:=oF p q X hx;have:=this.lt;have:=(oF p q X hx).ql;omega)];rw[<-hTe,<-S8 tx (Nat.le_refl _)];exact jG _ _ ()
 have e3:fH=e.bx:=by
  apply List.ext_getElem?;intro b;rw[hA.bb b,<-hTe,<-S7 tx (Nat.le_refl _)];exact jG _ _ b
 have f1:=hA.fs;have f2:=hA.mv;rw[e1,e2,e3]at f1 f2;exact hQ w' G' gw a' f1 (d2 _ _ _ f2);intro j o _ hj;rw[Tc]at hj;cases hj;rw[Tc];have:∀N,gq (λ_=>1) N=N:=λN=>by induction N with|zero=>rfl|succ N ih=>simp[gq,ih]
 simp[this];rw[Tc];have e1:vT m T (λ_=>false)=cK s.env:=by funext t;rw[<-h0];exact Td _ _ _ t
 have e2:vX S m T xp (λ_=>false)=s.st:=by rw[rF λp q X _ h=>by cases h];rw[<-h0];exact Td _ _ _ ()
 refine⟨?_,?_,λb=>?_,by rw[h0],λi so j hi hj _ t=>?_⟩;rw[e1,e2];exact d1;rw[e1,e2];exact Mv.refl h1;rw[<-h0];exact(Td _ _ _ b).symm;rw[e1,<-h0];exact DT (hR.bo i so j hi hj) t;cases he
end Ax
namespace Ax
open Go
variable {S:Nat->Option aD}{P:Program}{O:j4}{wl J n:Nat}
variable {w w':World}{G G':aQ}{β gw:List mS}{a:Act}{s s':St}
def D6:Code->Code
 |.scope c=>D6 c|c=>c
def Ik(S:Nat->Option aD)(P:Program)(n:Nat)(cN:Array Oper)(draw:Bool)(m:List aY):Option (List (Nat×Nat))->Bool
 |none=>!draw&&rD S P cN n cN.toList m|some bG=>draw&&Oq S P cN n m bG
def jr(S:Nat->Option aD)(P:Program)(n:Nat):bE->Code->Bool
 |.skip,c=>match D6 c with|.skip=>true|_=>false
 |.region m draw _,c=>match D6 c with
  |.region _ cN d=>Ik S P n cN d m draw|_=>false
 |.seq x y,c=>match x with
  |.Qe _=>jr S P n y c|.Dl _ _=>jr S P n y c|.xX _ _=>jr S P n y c|x=>match D6 c with
   |.seq a b=>jr S P n x a&&jr S P n y b|_=>false
 |.cond t _ x _ y,c=>match D6 c with
  |.cond u a b=>Mr u t&&jr S P n x a&&jr S P n y b|_=>false
 |.block i x,c=>match D6 c with
  |.block j a=>i==j&&jr S P n x a|_=>false
 |.loop x,c=>match D6 c with
  |.loop a=>jr S P n x a|_=>false
 |.exit i,c=>match D6 c with
  |.exit j=>i==j|_=>false
 |.ret,c=>match D6 c with
  |.ret=>true|_=>false
 |.Qe _,_=>false|.Dl _ _,_=>false|.xX _ _,_=>false
def D7:Ex->Exit
 |.normal=>.normal|.exit id=>.exit id|.ret _=>.ret
def Pst(n:Nat)(rs:List kD)(A:Nat->Nat)(w:World)(G:aQ)(x:Ex)(s':St)(w':World)(G':aQ)(gw:List mS)(a':Act):Prop:=
 ∃sr,FT w' G' gw a' sr n/\Mv w G A w' G' (gy gw a' sr G' n)/\(match x with|.ret v=>x3 sr rs=some v/\s'.st=sr.st|_=>s'=sr)
theorem Pst.trans{rs:List kD}{A A1:Nat->Nat}{w1:World}{G1:aQ}{x:Ex}{a':Act}(h:Mv w G A w1 G1 A1)(k:Pst n rs A1 w1 G1 x s' w' G' gw a'):Pst n rs A w G x s' w' G' gw a':=by
 obtain⟨sr,h1,h2,h3⟩:=k;exact⟨sr,h1,h.trans h2,h3⟩
def Il(P:Program)(c:Code)(Q:Exit->Act->World->Prop)(a:Act)(w:World):Prop:=
 ∀(b:Frame) (k:List Item) (cs:List Frame),∃e a' w',Q e a' w'/\Arrives P (lone (b.at a (.code c::.inLoop c::k)) cs w) b k cs e a' w'
theorem KD{c:Code}{Q:Exit->Act->World->Prop}{w:World}(h:c.wp P (Exit.then (Il P c Q) Q) a w):Il P c Q a w:=by
 intro b k cs;obtain⟨e,Te,Tf,hq,KE⟩:=h b (.inLoop c::k) cs;cases e with
 |normal=>
  obtain⟨ak3,ak4,ak5,agp,XI⟩:=hq b k cs;exact⟨ak3,ak4,ak5,agp,.of_steps (Steps.trans KE (.one step_inLoop)) XI⟩
 |exit id=>exact⟨_,Te,Tf,hq,.pass (x:=.inLoop c) rfl (λ_ _=>.inl (by simp)) KE⟩|goto l=>exact⟨_,Te,Tf,hq,.pass (x:=.inLoop c) rfl (λ_ _=>.inl (by simp)) KE⟩|ret=>exact⟨_,Te,Tf,hq,.pass (x:=.inLoop c) rfl (λ_ _=>.inl (by simp)) KE⟩|panic ch=>exact⟨_,Te,Tf,hq,.pass (x:=.inLoop c) rfl (λ_ _=>.inl (by simp)) KE⟩|outgrown=>exact⟨_,Te,Tf,hq,.pass (x:=.inLoop c) rfl (λ_ _=>.inl (by simp)) KE⟩
theorem KF{c:Code}{Q:Exit->Act->World->Prop}{w:World}(h:Il P c Q a w):(Code.loop c).wp P Q a w:=by
 intro b k cs;obtain⟨e,a',w',hq,KE⟩:=h b k cs;exact⟨e,a',w',hq,.of_steps (.one step_loop) KE⟩
theorem qy{Q:Exit->Act->World->Prop}{w:World}:∀{c:Code},(D6 c).wp P (Exit.noGoto Q) a w->c.wp P Q a w
 |.scope c,h=>wp_scope_straight (qy (c:=c) (wp_mono h λe _ _ he=>by cases e<;>exact he))|.skip,h|.region ..,h|.seq ..,h|.cond ..,h|.block ..,h|.loop ..,h|.rangeFunc ..,h|.exit _,h|.label _,h|.goto _,h|.refuse _,h|.ret,h=>wp_mono h λe _ _ he=>by
  cases e<;>first|exact he|exact he.elim
def xA(S:Nat->Option aD)(P:Program)(O:j4):Prop:=
 ∀wl J rs c s x s',O.loop wl J rs c s=some (x,s')->∀code n,jr S P n c code=true->∀(w:World) (G:aQ) (β:List mS) (a:Act),FT w G β a s n->(∀b,gy β a s G n b<=1)->
  ∀(Q:Exit->Act->World->Prop),(∀w' G' gw a',Pst n rs (gy β a s G n) w G x s' w' G' gw a'->Q (D7 x) a' w')->Il P code Q a w
theorem FT.clear(h:FT w G β a s n)(l:List Nat):FT w G β a { s with env:=iU l s.env } n/\∀b,gy β a { s with env:=iU l s.env } G n b<=gy β a s G n b:=
 FS.SZ h λt=>by
  simp only[uR];split;exact .inr rfl;exact .inl rfl
theorem FT.agq(h:FT w G β a s n)(c:Src)(l:List Nat):FT w G β a { s with env:=iU l (mE s.env c) } n/\∀b,gy β a { s with env:=iU l (mE s.env c) } G n b<=gy β a s G n b:=
 FS.SZ h λt=>by
  have h1:=uc t [c] s.env;simp only[List.foldl_cons,List.foldl_nil]at h1;simp only[uR,h1];split;exact .inr rfl;split;exact .inr rfl;exact .inl rfl
theorem Mv.u0{A A' A'':Nat->Nat}(h:Mv w G A w' G' A')(hl:∀b,A'' b<=A' b):Mv w G A w' G' A'':=
 h.SU (λ_=>Nat.le_refl _) (λb hb=>Nat.le_trans (hl b) (h.fG b hb)) λb=>Nat.le_trans (hl b) (h.one b)
theorem xB(w:World)(G:aQ)(d:Nat):sK w G { w with drawn:=d } G:=⟨λ_ _ hi=>⟨rfl,hi⟩,λ_ loc h=>⟨loc,h,Nat.le_refl _,λ_=>rfl⟩⟩
theorem FT.drawn(h:FT w G β a s n)(d:Nat):FT { w with drawn:=d } G β a s n where
 Kq:=h.Kq
 size:=h.size
 uD:=λt=>(h.uD t).jj (xB w G d) λ_ _=>⟨rfl,rfl⟩
 lt:=h.lt
 inv:=wo h.inv (xB w G d) rfl (λ_ _=>⟨rfl,rfl⟩) h.inv.mT
 box:=nj h.box (xB w G d) λ_ _=>⟨rfl,rfl⟩
theorem Mv.drawn{A A':Nat->Nat}{d:Nat}(h:Mv { w with drawn:=d } G A w' G' A'):Mv w G A w' G' A':=
 ⟨(xB w G d).trans h.jj,h.fG,h.one,λb hb h0=>h.wj b hb h0,h.size,h.os,h.out⟩
theorem abP{t:Nat}{v v':AV}{st':ai}(hs:FT w G β a s n)(h1:∀b,gy β a s G n b<=1)(hv:cK s.env t=.val v)(hf:iI wl v s.st=some (v',st')) :
  ∃G',FT w G' β a ⟨vN s.env t (.val v'),s.bx,st'⟩ n/\Mv w G (gy β a s G n) w G' (gy β a ⟨vN s.env t (.val v'),s.bx,st'⟩ G' n):=by
 have htn:t<n:=by
  rcases Nat.lt_or_ge t n with h|h;exact h;rw[hs.lt t h]at hv;cases hv
 have FK:=hs.uD t;rw[hv]at FK;obtain⟨G',hF,hr,iz⟩:=yO (w:=w) hs.inv (λb=>by have:=h1 b;unfold gy vG at this;omega) FK hf;have My:∀b,cx b (.val v') (lJ a t)=0:=λb=>eS b _ _ iz;have gi:∀b,0<cx b (cK s.env t) (lJ a t)\/True:=λ_=>.inr trivial;have Ku:∀b,gq (λu=>cx b (cK (vN s.env t (.val v')) u) (lJ a u)) n<=gq (λu=>cx b (cK s.env u) (lJ a u)) n:=λb=>CW λu _=>by
  rw[wA];by_cases hu:u=t;subst hu;rw[if_pos rfl,My b];omega;rw[if_neg hu];exact Nat.le_refl _
 have D8:∀b,0<gq (λu=>cx b (cK s.env u) (lJ a u)) n+fR b β s.bx->dZ w G w G' b:=λb hb=>⟨hF.wj b (by have:=h1 b;unfold gy vG at this;omega),rfl⟩;have hle:∀b,gy β a ⟨vN s.env t (.val v'),s.bx,st'⟩ G' n b<=gy β a s G n b:=λb=>by
  have e1:=Ku b;have e2:=hF.fG b;show gq (λu=>cx b (cK (vN s.env t (.val v')) u) (lJ a u)) n+fR b β s.bx+cj b G'.ls st'<=gq (λu=>cx b (cK s.env u) (lJ a u)) n+fR b β s.bx+cj b G.ls s.st;omega
 refine⟨G',⟨hs.Kq,hs.size,λu=>?_,λu hu=>?_,hF.inv,nj (bx:=s.bx) hs.box hF.jj λb hb=>D8 b (by omega)⟩,⟨hF.jj,λb _=>hle b,λb=>Nat.le_trans (hle b) (h1 b),λb hb h0=>?_,Nat.le_refl _,rfl,rfl⟩⟩;show kF w G' β (cK (vN s.env t (.val v')) u) (lJ a u);rw[wA];by_cases hu:u=t;subst hu;rw[if_pos rfl];exact hr;rw[if_neg hu];refine(hs.uD u).jj hF.jj λb hb=>D8 b ?_;have Ka:u<n:=by
  rcases Nat.lt_or_ge u n with h|h;exact h;rw[hs.lt u h]at hb;simp[cx]at hb
 have:=wB (f:=λu=>cx b (cK s.env u) (lJ a u)) Ka;omega;show cK (vN s.env t (.val v')) u=.none;rw[wA,if_neg (by omega)];exact hs.lt u hu;have:cj b G.ls s.st=0:=by unfold gy vG at h0;omega
 exact⟨hF.wj b this,rfl⟩
theorem zN{wl:Nat}{v v':AV}{st st':ai}(h:iI wl v st=some (v',st')):v'.cL=true:=by
 unfold iI at h;split at h;split at h;split at h;split at h;cases h;rfl;cases h;cases h;cases h;cases h;rfl;cases h
theorem zw.put{aG:List AV}{g:mS}{k:Nat}{v:AV}{u:Value}(h:zw w G aG g)(hk:k<aG.length)(hu:g.vals[k]?=some u)(hr:aS w G v u)(hc:v.cL=true):zw w G (ah aG k [v]) g:=by
 have hv:cn w G [v] [u]:=⟨rfl,λi c x h1 h2=>by
  cases i with
  |zero=>simp at h1 h2;subst h1;subst h2;exact hr|succ i=>simp at h1⟩
 have hs:ah g.vals k [u]=g.vals:=by
  have hkv:k<g.vals.length:=(List.getElem?_eq_some_iff.1 hu).1;have e:=uM g.vals k 1 (by omega);have e2:(g.vals.drop k).take 1=[u]:=by
   rw[List.drop_eq_getElem_cons hkv];simp[(List.getElem?_eq_some_iff.1 hu).2]
  rw[e2]at e;exact e
 refine⟨?_,jN h.CO (by simp[AV.aO,hc]) (by simp;omega),?_⟩;have:=h.uD.ah hv (n:=k) (by simp;omega)
 rwa [hs]at this
 rcases h.p0 with⟨h1,h2⟩|⟨b,c,e,h1,h2,h3,h4,h5⟩;subst h2;simp at hk;exact .inr ⟨b,c,e,h1,h2,by rw[dL];exact h3,h4,h5⟩
theorem XJ{j k:Nat}{aG:List AV}{v v':AV}{st':ai}(hs:FT w G β a s n)(h1:∀b,gy β a s G n b<=1)(hr:s.bx[j]?=some aG)(hv:aG[k]?=some v)(hf:iI wl v s.st=some (v',st')) :
  ∃G',FT w G' β a ⟨s.env,s.bx.set j (ah aG k [v']),st'⟩ n/\Mv w G (gy β a s G n) w G' (gy β a ⟨s.env,s.bx.set j (ah aG k [v']),st'⟩ G' n):=by
 have wF:=(List.getElem?_eq_some_iff.1 hr).1;have j8:=(List.getElem?_eq_some_iff.1 hv).1;obtain⟨g,hg⟩:∃g,β[j]?=some g:=⟨_,List.getElem?_eq_getElem (by rw[hs.box.len];exact wF)⟩;have hbx:=hs.box.box j aG g hr hg;obtain⟨u,hu⟩:∃u,g.vals[k]?=some u:=⟨_,List.getElem?_eq_getElem (by rw[<-hbx.uD.1];exact j8)⟩;obtain⟨G',hF,dG,iz⟩:=yO (w:=w) hs.inv (λb=>by have:=h1 b;unfold gy vG at this;omega) (hbx.uD.2 k v u hv hu) hf;have iV:=zN hf;have D8:∀b,0<gq (λu=>cx b (cK s.env u) (lJ a u)) n+fR b β s.bx->dZ w G w G' b:=λb hb=>⟨hF.wj b (by have:=h1 b;unfold gy vG at this;omega),rfl⟩;have hbc:∀b,fR b β (s.bx.set j (ah aG k [v']))<=fR b β s.bx:=λb=>by
  have e1:=zv b β s.bx j g aG g (ah aG k [v']) hg hr;have e2:β.set j g=β:=by
   obtain⟨hj,e⟩:=List.getElem?_eq_some_iff.1 hg;rw[<-e];exact List.set_getElem_self _
  have ME:ah g.vals k [u]=g.vals:=by
   have hkv:k<g.vals.length:=(List.getElem?_eq_some_iff.1 hu).1;have e:=uM g.vals k 1 (by omega);have e2:(g.vals.drop k).take 1=[u]:=by
    rw[List.drop_eq_getElem_cons hkv];simp[(List.getElem?_eq_some_iff.1 hu).2]
   rw[e2]at e;exact e
  have e3:=rj b aG [v'] g.vals [u] k hbx.uD.1 rfl (by simp;omega);rw[ME]at e3;have e4:bU b [v'] [u]=0:=by simp only[bU,eS b v' u iz]
  rw[e2]at e1;omega
 have hle:∀b,gy β a ⟨s.env,s.bx.set j (ah aG k [v']),st'⟩ G' n b<=gy β a s G n b:=λb=>by
  have e1:=hbc b;have e2:=hF.fG b;show gq (λu=>cx b (cK s.env u) (lJ a u)) n+fR b β (s.bx.set j (ah aG k [v']))+cj b G'.ls st'<=gq (λu=>cx b (cK s.env u) (lJ a u)) n+fR b β s.bx+cj b G.ls s.st;omega
 have hB:=nj (bx:=s.bx) hs.box hF.jj λb hb=>D8 b (by omega);refine⟨G',⟨hs.Kq,hs.size,λu=>?_,hs.lt,hF.inv,⟨by simpa using hB.len,λi r x e1 e2=>?_⟩⟩,⟨hF.jj,λb _=>hle b,λb=>Nat.le_trans (hle b) (h1 b),λb hb h0=>?_,Nat.le_refl _,rfl,rfl⟩⟩;refine(hs.uD u).jj hF.jj λb hb=>D8 b ?_;have Ka:u<n:=by
  rcases Nat.lt_or_ge u n with h|h;exact h;rw[hs.lt u h]at hb;simp[cx]at hb
 have:=wB (f:=λu=>cx b (cK s.env u) (lJ a u)) Ka;omega;simp only[List.getElem?_set]at e1;by_cases Cr:j=i;subst Cr;rw[if_pos rfl,if_pos wF]at e1;cases e1;rw[hg]at e2;cases e2;exact(hB.box j aG g hr hg).put j8 hu dG iV;rw[if_neg Cr]at e1;exact hB.box i r x e1 e2;have:cj b G.ls s.st=0:=by unfold gy vG at h0;omega
 exact⟨hF.wj b this,rfl⟩
theorem Tg{wl J:Nat}{st rf qg:ai}{id b6 i k off:Nat}{v v':AV}{u:Value}(hI:jn w G st)(hX:∀b,cj b G.ls st<=1)(hp:aS w G (.ptr id b6 i k) u)
  (hr:jD st (.ptr id b6 i (k+off)) 1=some [v])(hf:iI wl v st=some (v',rf))(hw:fV wl J rf (.ptr id b6 i (k+off)) [v']=some qg):∃G',JQ w G st G' qg:=by
 unfold jD at hr;simp only at hr;split at hr;rename_i ve sz rows gi;split at hr;rename_i hve;subst hve;split at hr;rename_i r dj;obtain⟨loc,b,o,c,e,xs,hl,BQ,zu,gY,MF,sd,fI,fD,fj,hle,hlen,iC,MG,mo,dF⟩:=zy hI hp gi dj;obtain⟨qv,MK,H9⟩:=rm hr;have Ws:k+off<r.length:=by omega
 have hv:r[k+off]?=some v:=by
  have:((r.drop (k+off)).take 1)[0]?=some v:=by rw[<-qv];rfl
  rw[List.getElem?_take,if_pos (by omega),List.getElem?_drop]at this;exact this
 obtain⟨x,hx⟩:∃x,xs[k+off]?=some x:=⟨_,List.getElem?_eq_getElem (by rw[<-mo.1];exact Ws)⟩;obtain⟨G',hF,dG,iz⟩:=yO hI hX (mo.2 _ _ _ hv hx) hf;have iV:=zN hf;have yu:aS w G' (.ptr id ve i k) u:=hp.AX hF.jj rfl;unfold fV at hw;simp only at hw;split at hw;rename_i ve1 sz1 Th Cs;split at hw;rename_i agr;simp only[Bool.and_eq_true,decide_eq_true_eq]at agr;obtain⟨rfl,_⟩:=agr;split at hw;rename_i r1 Ow;split at hw;rename_i cI;cases hw;obtain⟨XK,b1,o1,c1,e1,WA,Of,ak8,ak9,KG,abQ,ala,ags,aol,abR,alb,agt,agu,XL,SQ,Ox⟩:=zy hF.inv yu Cs Ow;have hk1:k+off<r1.length:=by simp only[List.length_singleton]at cI;omega
 obtain⟨x1,hx1⟩:∃x,WA[k+off]?=some x:=⟨_,List.getElem?_eq_getElem (by rw[<-SQ.1];exact hk1)⟩;rw[MF]at abQ;simp only[Value.pointer.injEq,Option.some.injEq,Addr.mk.injEq,and_true]at abQ;obtain⟨hb,ho⟩:=abQ;have hxx:x1=x:=by
  have a1:=dF i xs (k+off) x MG hx;have a2:=Ox i WA (k+off) x1 XL hx1;rw[hb,show o+(i*sz+(k+off))=o1+(i*sz1+(k+off)) by omega,a2]at a1;cases a1;rfl
 subst hxx;have hs:ah WA (k+off) [x1]=WA:=by
  have e:=uM WA (k+off) 1 (by have:=(List.getElem?_eq_some_iff.1 hx1).1;omega);have e2:(WA.drop (k+off)).take 1=[x1]:=by
   rw[List.drop_eq_getElem_cons (List.getElem?_eq_some_iff.1 hx1).1];simp[(List.getElem?_eq_some_iff.1 hx1).2]
  rw[e2]at e;exact e
 have agv:cn w G' (ah r1 (k+off) [v']) WA:=by
  have FD:cn w G' [v'] [x1]:=⟨rfl,λi c x h1 h2=>by
   cases i with
   |zero=>simp at h1 h2;subst h1;subst h2;exact dG|succ i=>simp at h1⟩
  have:=SQ.ah FD (n:=k+off) (by simp;omega)
  rwa [hs]at this
 have ua:p6 w G' (.rows ve1 sz1 (Th.set i (ah r1 (k+off) [v']))) XK:=by
  refine⟨ak8,ak9,cq.2 λr' x6=>?_,λr' x6=>?_,by simp[KG.len],KG.size,by simp[KG.tE],λi' r' Ml h1 h2=>?_,.inr ⟨b1,o1,c1,e1,ala,ags,abR,alb,by simpa using agt,agu,Ox⟩⟩;rcases List.mem_or_eq_of_mem_set x6 with h|h;exact cq.1 KG.Gg r' h;rw[h,dL];exact cq.1 KG.Gg r1 (cQ Ow);rcases List.mem_or_eq_of_mem_set x6 with h|h;exact KG.CO r' h;rw[h];exact jN (KG.CO r1 (cQ Ow)) (by simp[AV.aO,iV]) (by simpa using cI);rw[List.getElem?_set]at h1;by_cases MI:i=i';subst MI;rw[if_pos rfl]at h1;split at h1;cases h1;rw[XL]at h2;cases h2;exact agv;cases h1;rw[if_neg MI]at h1;exact KG.tX i' r' Ml h1 h2
 refine⟨G',hF.trans ⟨sK.refl w G',CS hF.inv (sK.refl w G') (gT _ _ _ Of).symm (λ_ _ _ _ _ _ _ _=>⟨rfl,rfl⟩) ua hF.inv.mT,λb'=>?_,λ_ _=>rfl⟩⟩;have h1:=wh b' G'.ls rf id XK _ XK (.rows ve1 sz1 (Th.set i (ah r1 (k+off) [v']))) Of Cs;rw[gT _ _ _ Of]at h1;have h4:=tY b' Th XK.vals i r1 WA (ah r1 (k+off) [v']) WA Ow XL;rw[gT _ _ _ XL]at h4;have e3:=rj b' r1 [v'] WA [x1] (k+off) SQ.1 rfl (by simp;omega);rw[hs]at e3;have e4:bU b' [v'] [x1]=0:=by simp only[bU,eS b' v' x1 iz]
 simp only[iJ]at h1;omega;cases hw;cases hw;cases hw;cases hw;cases hr;cases hr;cases hr
theorem QI{wl J:Nat}{st rf qg:ai}{id b6 i k off:Nat}{v v':AV}{u:Value}(hI:jn w G st)(hX:∀b,cj b G.ls st<=1)(hp:aS w G (.ptr id b6 i k) u)
  (hr:jD st (.ptr id b6 i (k+off)) 1=some [v])(hf:qp wl v st=some (v',rf))(hw:fV wl J rf (.ptr id b6 i (k+off)) [v']=some qg):∃G',JQ w G st G' qg:=by
 unfold qp at hf;split at hf;rename_i jw ee;cases hf;unfold jD at hr;simp only at hr;split at hr;rename_i ve sz rows gi;split at hr;rename_i hve;subst hve;split at hr;rename_i r dj;obtain⟨qv,MK,H9⟩:=rm hr;have Ws:k+off<r.length:=by omega
 have hv:r[k+off]?=some (.raw jw ee):=by
  have:((r.drop (k+off)).take 1)[0]?=some (.raw jw ee):=by rw[<-qv];rfl
  rw[List.getElem?_take,if_pos (by omega),List.getElem?_drop]at this;exact this
 have JP:id<st.length:=(List.getElem?_eq_some_iff.1 gi).1;have Cs:(st++[fq.rows 0 jw ee])[id]?=some (.rows ve sz rows):=by rw[List.getElem?_append_left JP];exact gi
 unfold fV at hw;simp only[Cs,dj]at hw;split at hw;split at hw;cases hw;exact Xu hI hp gi dj hv;cases hw;cases hw;cases hr;cases hr;cases hr;exact Tg hI hX hp hr hf hw
theorem XM{wl J:Nat}{t id b6 i k off:Nat}{v v':AV}{rf qg:ai}(hs:FT w G β a s n)(h1:∀b,gy β a s G n b<=1)(ht:cK s.env t=.val (.ptr id b6 i k))
  (hr:jD s.st (.ptr id b6 i (k+off)) 1=some [v])(hf:qp wl v s.st=some (v',rf))(hw:fV wl J rf (.ptr id b6 i (k+off)) [v']=some qg) :
  ∃G',FT w G' β a ⟨s.env,s.bx,qg⟩ n/\Mv w G (gy β a s G n) w G' (gy β a ⟨s.env,s.bx,qg⟩ G' n):=by
 have FK:kF w G β (cK s.env t) (lJ a t):=hs.uD t;rw[ht]at FK;obtain⟨G',hF⟩:=QI hs.inv (λb=>by have:=h1 b;unfold gy vG at this;omega) FK hr hf hw;have D8:∀b,0<gq (λu=>cx b (cK s.env u) (lJ a u)) n+fR b β s.bx->dZ w G w G' b:=λb hb=>⟨hF.wj b (by have:=h1 b;unfold gy vG at this;omega),rfl⟩;have hle:∀b,gy β a ⟨s.env,s.bx,qg⟩ G' n b<=gy β a s G n b:=λb=>by
  have e2:=hF.fG b;show gq (λu=>cx b (cK s.env u) (lJ a u)) n+fR b β s.bx+cj b G'.ls qg<=gq (λu=>cx b (cK s.env u) (lJ a u)) n+fR b β s.bx+cj b G.ls s.st;omega
 refine⟨G',⟨hs.Kq,hs.size,λu=>?_,hs.lt,hF.inv,nj (bx:=s.bx) hs.box hF.jj λb hb=>D8 b (by omega)⟩,⟨hF.jj,λb _=>hle b,λb=>Nat.le_trans (hle b) (h1 b),λb hb h0=>?_,Nat.le_refl _,rfl,rfl⟩⟩;refine(hs.uD u).jj hF.jj λb hb=>D8 b ?_;have Ka:u<n:=by
  rcases Nat.lt_or_ge u n with h|h;exact h;rw[hs.lt u h]at hb;simp[cx]at hb
 have:=wB (f:=λu=>cx b (cK s.env u) (lJ a u)) Ka;omega;have:cj b G.ls s.st=0:=by unfold gy vG at h0;omega
 exact⟨hF.wj b this,rfl⟩
end Ax
namespace Ax
open Go
variable {S:Nat->Option aD}{P:Program}{O:j4}{wl J n:Nat}
theorem xC{Q:Exit->Act->World->Prop}{x:Ex}{a:Act}{w:World}(h:Q (D7 x) a w):Exit.noGoto Q (D7 x) a w:=by
 cases x<;>exact h
theorem QJ{x y:bE}{c:Code}(h:jr S P n (.seq x y) c=true):(∃t,x=.Qe t/\jr S P n y c=true)\/(∃j k,x=.Dl j k/\jr S P n y c=true)\/(∃j k,x=.xX j k/\jr S P n y c=true)\/(∃a b,D6 c=.seq a b/\jr S P n x a=true/\jr S P n y b=true):=by
 unfold jr at h;split at h;exact .inl ⟨_,rfl,h⟩;exact .inr (.inl ⟨_,_,rfl,h⟩);exact .inr (.inr (.inl ⟨_,_,rfl,h⟩));split at h;rename_i a b he;simp only[Bool.and_eq_true]at h;exact .inr (.inr (.inr ⟨a,b,he,h.1,h.2⟩));cases h
theorem tJ(hO:jP S P O)(hL:xA S P O)(hP:B2 S O){rs:List kD}:∀(c:bE)(code:Code)(s s':St)(x:Ex)(w:World)(G:aQ)(β:List mS)(a:Act)(Q:Exit->Act->World->Prop),
  jr S P n c code=true->FT w G β a s n->(∀b,gy β a s G n b<=1)->iu O wl J rs c s=some (x,s')->
  (∀w' G' gw a',Pst n rs (gy β a s G n) w G x s' w' G' gw a'->Q (D7 x) a' w')->code.wp P Q a w
 |.skip,code,s,s',x,w,G,β,a,Q,hm,hs,h1,he,hQ=>by
  refine qy ?_;simp only[iu,Option.some.injEq,Prod.mk.injEq]at he;obtain⟨rfl,rfl⟩:=he;unfold jr at hm;split at hm;rename_i hp;rw[hp];exact wp_skip (hQ w G β a ⟨s,hs,Mv.refl h1,rfl⟩);cases hm
 |.region m draw di,code,s,s',x,w,G,β,a,Q,hm,hs,h1,he,hQ=>by
  refine qy ?_;unfold jr at hm;split at hm;rename_i id cN d hp;rw[hp];unfold iu at he;cases draw with
  |none=>
   simp only[Ik,Bool.and_eq_true,Bool.not_eq_true']at hm;obtain⟨rfl,hm⟩:=hm;simp only at he;split at he;rename_i s1 xy;cases he;refine wp_region ?_;have:=DZ (Q:=Exit.noGoto Q) hO cN.toList m 0 w G β a s rfl hm hs h1 xy λw' G' gw a' f1 f2=>by
    obtain⟨g1,g2⟩:=f1.clear di;exact hQ w' G' gw a' ⟨_,g1,f2.u0 g2,rfl⟩
   rw[List.range_eq_range'];simpa using this;cases he
  |some bG=>
   simp only[Ik,Bool.and_eq_true]at hm;obtain⟨rfl,hm⟩:=hm;simp only at he;split at he;rename_i s1 xy;cases he;exact KC (Q:=Exit.noGoto Q) hm hO hP hs h1 xy (λd=>⟨hs.drawn d,λ_ _ _ h=>h.drawn⟩) λw' G' gw a' f1 f2=>by
    obtain⟨g1,g2⟩:=f1.clear di;exact hQ w' G' gw a' ⟨_,g1,f2.u0 g2,rfl⟩
   cases he
  cases hm
 |.seq c1 c2,code,s,s',x,w,G,β,a,Q,hm,hs,h1,he,hQ=>by
  rcases QJ hm with⟨t,rfl,Oy⟩|⟨j,k,rfl,Oy⟩|⟨t,off,rfl,Oy⟩|⟨a1,b1,hp,hm1,Oy⟩;unfold iu at he;cases hc:iu O wl J rs (.Qe t) s with
  |none=>rw[hc]at he;cases he|some y=>
   obtain⟨x1,s1⟩:=y;rw[hc]at he;unfold iu at hc;cases hv:cK s.env t with
   |none=>rw[hv]at hc;cases hc|fp j k=>rw[hv]at hc;cases hc|val v=>
    rw[hv]at hc;simp only at hc;cases hf:iI wl v s.st with
    |none=>rw[hf]at hc;cases hc|some y=>
     obtain⟨v',st'⟩:=y;rw[hf]at hc;cases hc;obtain⟨G',f1,f2⟩:=abP hs h1 hv hf;exact tJ hO hL hP c2 code _ s' x w G' β a Q Oy f1 f2.one he λw' G2 S1 a2 hp=>hQ w' G2 S1 a2 (hp.trans f2)
  unfold iu at he;cases hc:iu O wl J rs (.Dl j k) s with
  |none=>rw[hc]at he;cases he|some y=>
   obtain⟨x1,s1⟩:=y;rw[hc]at he;unfold iu at hc;cases hb:s.bx[j]? with
   |none=>rw[hb]at hc;cases hc|some aG=>
    rw[hb]at hc;simp only at hc;cases hv:aG[k]? with
    |none=>rw[hv]at hc;cases hc|some v=>
     rw[hv]at hc;simp only at hc;cases hf:iI wl v s.st with
     |none=>rw[hf]at hc;cases hc|some y=>
      obtain⟨v',st'⟩:=y;rw[hf]at hc;cases hc;obtain⟨G',f1,f2⟩:=XJ hs h1 hb hv hf;exact tJ hO hL hP c2 code _ s' x w G' β a Q Oy f1 f2.one he λw' G2 S1 a2 hp=>hQ w' G2 S1 a2 (hp.trans f2)
  unfold iu at he;cases hc:iu O wl J rs (.xX t off) s with
  |none=>rw[hc]at he;cases he|some y=>
   obtain⟨x1,s1⟩:=y;rw[hc]at he;obtain⟨rfl,id,b6,i,k,v,v',rf,qg,g1,g2,g3,g4,rfl⟩:=Dr hc;simp only at he;obtain⟨G',f1,f2⟩:=XM hs h1 g1 g2 g3 g4;exact tJ hO hL hP c2 code _ s' x w G' β a Q Oy f1 f2.one he λw' G2 S1 a2 hp=>hQ w' G2 S1 a2 (hp.trans f2)
  refine qy ?_;rw[hp];refine wp_seq ?_;unfold iu at he;cases hc:iu O wl J rs c1 s with
  |none=>rw[hc]at he;cases he|some y=>
   obtain⟨x1,s1⟩:=y;rw[hc]at he;refine tJ hO hL hP c1 a1 s s1 x1 w G β a _ hm1 hs h1 hc λw' G' gw a' hp1=>?_;cases x1 with
   |normal=>
    obtain⟨sr,g1,g2,g3⟩:=hp1;simp only at g3;subst g3;exact tJ hO hL hP c2 b1 s1 s' x w' G' gw a' _ Oy g1 g2.one he λw2 G2 S1 a2 hp2=>xC (hQ w2 G2 S1 a2 (hp2.trans g2))
   |exit id=>cases he;exact hQ w' G' gw a' hp1|ret v=>cases he;exact hQ w' G' gw a' hp1
 |.cond t ca c1 cb c2,code,s,s',x,w,G,β,a,Q,hm,hs,h1,he,hQ=>by
  refine qy ?_;unfold jr at hm;split at hm;rename_i u a1 b1 hp;rw[hp];simp only[Bool.and_eq_true]at hm;obtain⟨⟨hms,hm1⟩,Oy⟩:=hm;unfold iu at he;have hev:=(Oj hs.uD hms).1;have hb:∀b,qX s.env t=some b->a.eval u=.bool b:=λb hb=>by
   unfold qX at hb;rw[CY]at hb;split at hb;rename_i b' nD;cases hb;rw[nD]at hev;exact aS.jL hev;cases hb
  split at he;rename_i hr;obtain⟨g1,g2⟩:=FT.agq hs t ca;refine wp_cond_true (hb _ hr) (tJ hO hL hP c1 a1 _ s' x w G β a _ hm1 g1 (λb=>Nat.le_trans (g2 b) (h1 b)) he λw' G' gw a' hp=>xC (hQ w' G' gw a' (hp.trans ((Mv.refl h1).u0 g2))));rename_i hr;obtain⟨g1,g2⟩:=FT.agq hs t cb;refine wp_cond_false (hb _ hr) (tJ hO hL hP c2 b1 _ s' x w G β a _ Oy g1 (λb=>Nat.le_trans (g2 b) (h1 b)) he λw' G' gw a' hp=>xC (hQ w' G' gw a' (hp.trans ((Mv.refl h1).u0 g2))));cases he;cases hm
 |.block id c1,code,s,s',x,w,G,β,a,Q,hm,hs,h1,he,hQ=>by
  refine qy ?_;unfold jr at hm;split at hm;rename_i j a1 hp;rw[hp];simp only[Bool.and_eq_true,beq_iff_eq]at hm;obtain⟨rfl,hm1⟩:=hm;refine wp_block ?_;unfold iu at he;cases hc:iu O wl J rs c1 s with
  |none=>rw[hc]at he;cases he|some y=>
   obtain⟨x1,s1⟩:=y;rw[hc]at he;refine tJ hO hL hP c1 a1 s s1 x1 w G β a _ hm1 hs h1 hc λw' G' gw a' hp1=>?_;cases x1 with
   |normal=>cases he;exact hQ w' G' gw a' hp1|exit i=>
    simp only at he;simp only[D7,Exit.inBlock];split at he;rename_i hi;cases he;rw[if_pos hi];exact hQ w' G' gw a' hp1;rename_i hi;cases he;rw[if_neg hi];exact hQ w' G' gw a' hp1
   |ret v=>cases he;exact hQ w' G' gw a' hp1
  cases hm
 |.loop c1,code,s,s',x,w,G,β,a,Q,hm,hs,h1,he,hQ=>by
  refine qy ?_;unfold jr at hm;split at hm;rename_i a1 hp;rw[hp];unfold iu at he;exact KF (hL wl J rs c1 s x s' he a1 n hm w G β a hs h1 _ λw' G' gw a' hp=>xC (hQ w' G' gw a' hp));cases hm
 |.exit id,code,s,s',x,w,G,β,a,Q,hm,hs,h1,he,hQ=>by
  refine qy ?_;simp only[iu,Option.some.injEq,Prod.mk.injEq]at he;obtain⟨rfl,rfl⟩:=he;unfold jr at hm;split at hm;rename_i j hp;rw[hp];simp only[beq_iff_eq]at hm;subst hm;exact wp_exit (hQ w G β a ⟨s,hs,Mv.refl h1,rfl⟩);cases hm
 |.ret,code,s,s',x,w,G,β,a,Q,hm,hs,h1,he,hQ=>by
  refine qy ?_;unfold jr at hm;split at hm;rename_i hp;rw[hp];unfold iu at he;split at he;rename_i v hv;cases he;exact wp_ret (hQ w G β a ⟨s,hs,Mv.refl h1,hv,rfl⟩);cases he;cases hm
 |.Qe t,code,s,s',x,w,G,β,a,Q,hm,hs,h1,he,hQ=>by
  simp[jr]at hm
 |.Dl j k,code,s,s',x,w,G,β,a,Q,hm,hs,h1,he,hQ=>by
  simp[jr]at hm
 |.xX t off,code,s,s',x,w,G,β,a,Q,hm,hs,h1,he,hQ=>by
  simp[jr]at hm
def Oz(S:Nat->Option aD)(P:Program)(sf:aD):Bool:=
 match P.funcs[sf.eZ]? with
 |some fn=>match fn.body with
  |some code => !(fn.name == "runtime.NumGoroutine") && jr S P fn.ntmps sf.body code && yP P fn.results.toList sf.results && wD (p8 sf.results) && wD (D0 sf.results) && decide (sf.aE ≤ fn.ntmps)
  |none=>false
 |none=>false
def KH(S:Nat->Option aD)(P:Program):Prop:=∀f sf,S f=some sf->Oz S P sf=true/\(f<100000->sf.eZ=f)
def Cy(b:Nat)(args:List AV)(vs:List Value)(k t:Nat):Nat:=if k<=t then (match args[t-k]?,vs[t-k]? with|some v,some u=>fG b v u|_,_=>0) else 0
theorem KI{w:World}{G:aQ}(b:Nat):∀(args:List AV)(vs:List Value)(k N:Nat),args.length=vs.length->k+args.length<=N->
  gq (Cy b args vs k) N=bU b args vs
 |[],[],k,N,_,_=>by
  have:gq (Cy b [] [] k) N=gq (λ_=>0) N:=oI λt _=>by simp[Cy]
  rw[this,Gr];rfl
 |v::args,u::vs,k,N,hl,hN=>by
  have ih:=KI (w:=w) (G:=G) b args vs (k+1) N (by simpa using hl) (by simp at hN;omega);have:=ud (f:=Cy b (v::args) (u::vs) k) (g:=Cy b args vs (k+1)) (d:=k) (n:=N) (by simp at hN;omega) λt ht=>by
    unfold Cy;by_cases hk:k<=t;have h1:k+1<=t:=(by omega);have h2:t-k=(t-(k+1))+1:=(by omega);simp only[hk,h1,if_true,h2,List.getElem?_cons_succ];have h1:¬k+1<=t:=(by omega);simp only[hk,h1,if_false]
  have e1:Cy b (v::args) (u::vs) k k=fG b v u:=by simp[Cy]
  have e2:Cy b args vs (k+1) k=0:=by unfold Cy;rw[if_neg (by omega)]
  rw[e1,e2,ih]at this;simp only[bU];omega
 |[],_::_,_,_,h,_=>by simp at h|_::_,[],_,_,h,_=>by simp at h
end Ax
namespace Ax
open Go
variable {S:Nat->Option aD}{P:Program}{O:j4}{wl J n:Nat}
variable {w w':World}{G G':aQ}{β gw:List mS}{a:Act}{s s':St}
theorem XN{fn:Func}{rs:List kD}{v:AV}(hs:FT w G β a s n)(hm:yP P fn.results.toList rs=true)(h1:wD (p8 rs)=true)(h2:wD (D0 rs)=true)(hr:x3 s rs=some v) :
  ∃u,(results fn a.tmps).run P w=.ok u w/\aS w G v u/\∀b,fG b v u+cj b G.ls s.st<=gy β a s G n b:=by
 unfold x3 at hr;cases gY:yG s rs with
 |none=>rw[gY]at hr;cases hr|some vs=>
  obtain⟨us,k1,k2,k3⟩:=GA hs _ rs vs hm gY;have k4:=Kv k1;rw[gY]at hr;have hle:∀b,bU b vs us+cj b G.ls s.st<=gy β a s G n b:=λb=>by
   have e1:=k3 b;have e2:=zE (f:=λt=>cx b (cK s.env t) (lJ a t)) (n:=n) (λt ht=>by rw[hs.lt t ht];rfl) _ (xz h1);have e3:=zE (f:=ue b β s.bx) (n:=s.bx.length) (λt ht=>by
    unfold ue;rw[List.getElem?_eq_none ht];split;rename_i h;cases h
    rfl) _ (xz h2)
   have e4:=Kw b β s.bx;unfold gy vG;omega
  match vs,us,k2,hle,hr,k4 with
  |[v1],[u],k2,hle,hr,k4=>
   cases hr;refine⟨u,k4,k2.2 0 _ u rfl rfl,λb=>?_⟩;have:=hle b;simp only[bU]at this;omega
  |[],us,k2,hle,hr,k4=>
   have:us=[]:=by have:=k2.1;simpa using this.symm
   subst this;cases hr;exact⟨_,k4,.fF _ _ rfl λi c v h=>by simp at h,λb=>by have:=hle b;simpa [fG,QE] using this⟩
  |v1::v2::vs,us,k2,hle,hr,k4=>
   cases hr;match us,k2,hle,k4 with
   |[],k2,_,_=>have:=k2.1;simp at this|[_],k2,_,_=>have:=k2.1;simp at this|u1::u2::us,k2,hle,k4=>
    exact⟨_,k4,.fF _ _ (by simpa using k2.1) λi c v h k=>k2.2 i c v h (by simpa using k),λb=>by have:=hle b;simpa [fG,QE] using this⟩
  |[_],[],k2,_,_,_=>have:=k2.1;simp at this|[_],_::_::_,k2,_,_,_=>have:=k2.1;simp at this
theorem abS{m:Mode}{st rf st':ai}{v v':AV}{u:Value}{A:Nat->Nat}(hI0:jn w G st)(hk:de (m.yH st.length wl) (m.qY st.length J) st rf)(hf:m.mM st v rf=some (v',st'))(hr:aS w' G' v u)(hI:jn w' G' rf)
  (hM:Mv w G A w' G' (λb=>fG b v u+cj b G'.ls rf)):∃G2,aS w' G2 v' u/\jn w' G2 st'/\Mv w G A w' G2 (λb=>fG b v' u+cj b G2.ls st'):=by
 have agx:(m=.pure\/m=.mR)->Gs st.length rf:=λh=>by
  have hl:m.qY st.length J=st.length:=by rcases h with rfl|rfl<;>rfl
  rw[hl]at hk;exact hk.J st.length (Nat.le_refl _) (Nat.le_refl _) hI0.agc
 have cut:v.au=true->Gs st.length rf->∃G2,aS w' G2 v u/\jn w' G2 (rf.take st.length)/\Mv w G A w' G2 (λb=>fG b v u+cj b G2.ls (rf.take st.length)):=by
  intro hp hl;have hc:∀b,fG b v u+cj b (G'.cut st.length).ls (rf.take st.length)<=fG b v u+cj b G'.ls rf:=λb=>by
   have:=Gt b st.length G'.ls rf;simp only[aQ.cut];omega
  refine⟨G'.cut st.length,hr.DU (iW _ v hp),hI.DU hl,?_⟩;exact⟨Xx hM.jj (by rw[hI0.len];exact Nat.le_refl _),λb hb=>Nat.le_trans (hc b) (hM.fG b hb),λb=>Nat.le_trans (hc b) (hM.one b),λb hb h0=>hM.wj b hb h0,hM.size,hM.os,hM.out⟩
 cases m with
 |CN=>
  simp only[Mode.mM,Option.some.injEq,Prod.mk.injEq]at hf;obtain⟨rfl,rfl⟩:=hf;exact⟨G',hr,hI,hM⟩
 |pure=>
  simp only[Mode.mM]at hf;split at hf;rename_i hp;cases hf;obtain⟨G2,c1,c2,c3⟩:=cut hp (agx (.inl rfl));have:rf.take st.length=st:=by
   apply List.ext_getElem?;intro i;rw[List.getElem?_take];split;rename_i hi;exact hk.low i (by simpa [Mode.yH] using hi) hi;rename_i hi;rw[List.getElem?_eq_none (by omega)]
  rw[this]at c2 c3;exact⟨G2,c1,c2,c3⟩;cases hf
 |mR=>
  simp only[Mode.mM]at hf;split at hf;rename_i hp;cases hf;exact cut hp (agx (.inr rfl));cases hf
theorem M1(w:World)(G:aQ)(k:Nat):j5 w G (List.replicate k ⟨none,[]⟩) (List.replicate k []) where
 len:=by simp
 box:=λj aG g h1 h2=>by
  rw[List.getElem?_replicate]at h1 h2;split at h1;rename_i hj;rw[if_pos hj]at h2;cases h1;cases h2;exact⟨⟨rfl,λi c v h=>by simp at h⟩,rfl,.inl ⟨rfl,rfl⟩⟩;cases h1
theorem D9(b:Nat):∀k,fR b (List.replicate k ⟨none,[]⟩) (List.replicate k [])=0
 |0=>by simp[fR]|k+1=>by simp[List.replicate_succ,fR,D9 b k,bU]
theorem KJ(hT:KH S P)(hO:jP S P O)(hL:xA S P O)(hP:B2 S O)(hK:rC O){f:Nat}{sf:aD}(hf:S f=some sf){args:List AV}{st st':ai}{v:AV}(hc:dh O wl J sf args st=some (v,st')) :
  QB P sf.eZ/\(f<100000->sf.eZ=f)/\
  ∀(w:World) (G:aQ) (vs:List Value),cn w G args vs->jn w G st->(∀b,bU b args vs+cj b G.ls st<=1)->
   Calls P sf.eZ vs.toArray w λe w'=>∃u G',e=.returned u/\aS w' G' v u/\jn w' G' st'/\
    Mv w G (λb=>bU b args vs+cj b G.ls st) w' G' (λb=>fG b v u+cj b G'.ls st'):=by
 obtain⟨hm,ale⟩:=hT f sf hf;unfold Oz at hm;split at hm;rename_i fn Mo;split at hm;rename_i code aaA;simp only[Bool.and_eq_true,Bool.not_eq_true',decide_eq_true_eq]at hm;obtain⟨⟨⟨⟨⟨agy,B4⟩,XO⟩,hnt⟩,Wz⟩,hnp⟩:=hm;refine⟨⟨fn,Mo,agy,by rw[aaA];rfl⟩,ale,λw G vs hR hI h1=>?_⟩;unfold dh at hc;split at hc;rename_i hlen;split at hc;rename_i x s agz;split at hc;rename_i v1 D5;refine calls_of_wp Mo aaA ?_;have RR:vs.length=args.length:=hR.1.symm;have eI:(vs.toArray++Array.replicate (fn.ntmps-vs.toArray.size) undef).size=fn.ntmps:=by
  simp only[Array.size_append,List.size_toArray,Array.size_replicate];omega
 let a0:Act:={ tmps:=vs.toArray++Array.replicate (fn.ntmps-vs.toArray.size) undef,defers:=[] }
 have agA:∀t u,vs[t]?=some u->lJ a0 t=u:=λt u hu=>by
  have bw:=(List.getElem?_eq_some_iff.1 hu).1;have:a0.tmps[t]?=some u:=by
   show (vs.toArray++Array.replicate (fn.ntmps-vs.toArray.size) undef)[t]?=some u;rw[Array.getElem?_append];simp[bw,(List.getElem?_eq_some_iff.1 hu).2]
  simp[lJ,this]
 have hη:∀t,cK (qZ sf args st).env t=if t∈sf.di then .none else (match args[t]? with|some v=>.val v|none=>.none):=λt=>by
  simp only[qZ,uR,Gq,Nat.zero_le,if_true,Nat.sub_zero]
  rfl
 have hFT:FT w G (List.replicate sf.aM ⟨none,[]⟩) a0 (qZ sf args st) fn.ntmps:=by
  refine⟨rfl,by show fn.ntmps<=(vs.toArray++Array.replicate (fn.ntmps-vs.toArray.size) undef).size;omega,λt=>?_,λt ht=>?_,hI,M1 w G sf.aM⟩;rw[hη];split
  trivial
  split;rename_i v0 hv0;have bw:t<vs.length:=by rw[RR];exact(List.getElem?_eq_some_iff.1 hv0).1
  have hu:=List.getElem?_eq_getElem bw;rw[agA t _ hu];exact hR.2 t v0 _ hv0 hu
  trivial
  rw[hη,List.getElem?_eq_none (by omega)];simp
 have abT:∀b,gy (List.replicate sf.aM ⟨none,[]⟩) a0 (qZ sf args st) G fn.ntmps b<=bU b args vs+cj b G.ls st:=λb=>by
  have e1:=KI (w:=w) (G:=G) b args vs 0 fn.ntmps RR.symm (by omega);have e2:gq (λt=>cx b (cK (qZ sf args st).env t) (lJ a0 t)) fn.ntmps<=gq (Cy b args vs 0) fn.ntmps:=CW λt _=>by
   rw[hη];simp only[Cy,Nat.zero_le,if_true,Nat.sub_zero];split;simp[cx];cases hv0:args[t]? with
   |none=>simp[cx]|some v0=>
    have bw:t<vs.length:=(by rw[RR];exact(List.getElem?_eq_some_iff.1 hv0).1);have hu:=List.getElem?_eq_getElem bw;rw[agA t _ hu,hu];exact Nat.le_refl _
  have e3:=D9 b sf.aM;unfold gy vG;show gq (λt=>cx b (cK (qZ sf args st).env t) (lJ a0 t)) fn.ntmps+fR b (List.replicate sf.aM ⟨none,[]⟩) (List.replicate sf.aM [])+cj b G.ls st<=_;omega
 have h0:∀b,gy (List.replicate sf.aM ⟨none,[]⟩) a0 (qZ sf args st) G fn.ntmps b<=1:=λb=>Nat.le_trans (abT b) (h1 b);refine tJ hO hL hP sf.body code _ s x w G _ a0 _ B4 hFT h0 agz λw' G' gw a' hp=>?_;obtain⟨sr,g1,g2,g3⟩:=hp;have agB:de (sf.mode.yH st.length wl) (sf.mode.qY st.length J) st s.st:=jO hK agz;have mM:x3 sr sf.results=some v1->s.st=sr.st->a'.defers=[]/\∃u,(results fn a'.tmps).run P w'=.ok u w'/\∃u' G',(Ending.returned u)=.returned u'/\aS w' G' v u'/\jn w' G' st'/\
   Mv w G (λb=>bU b args vs+cj b G.ls st) w' G' (λb=>fG b v u'+cj b G'.ls st'):=by
  intro hrv gi;obtain⟨u,r1,r2,r3⟩:=XN g1 XO hnt Wz hrv;have hMv:Mv w G (λb=>bU b args vs+cj b G.ls st) w' G' (λb=>fG b v1 u+cj b G'.ls s.st):=by
   rw[gi];have g3:=g2.u0 r3;exact g3.SU abT (λb hb=>Nat.le_trans (g3.fG b hb) (abT b)) g3.one
  have alg:jn w' G' s.st:=by rw[gi];exact g1.inv
  obtain⟨G2,c1,c2,c3⟩:=abS hI agB hc r2 alg hMv;exact⟨g1.Kq,u,r1,u,G2,rfl,c1,c2,c3⟩
 cases x with
 |normal=>
  simp only at g3;subst g3;exact mM D5 rfl
 |exit id=>cases D5|ret v2=>
  cases D5;exact mM g3.1 g3.2
 cases hc;cases hc;cases hc;cases hm;cases hm
theorem Ea{sf:aD}{args:List AV}{st st':ai}{v:AV}(h:dh O wl J sf args st=some (v,st'))(hm:sf.mode=.pure):v.au=true/\st'=st:=by
 unfold dh at h;split at h;split at h;split at h;rw[hm]at h;simp only[Mode.mM]at h;split at h;rename_i hp;cases h;exact⟨hp,rfl⟩;cases h;cases h;cases h;cases h
theorem xD(hT:KH S P)(hO:jP S P O)(hL:xA S P O)(hP:B2 S O)(hK:rC O){f:Nat}{sf:aD}(hf:S f=some sf){args:List AV}{st st':ai}{v:AV}(hc:eA O wl J sf args st=some (v,st')) :
  QB P sf.eZ/\(f<100000->sf.eZ=f)/\
  ∀(w:World) (G:aQ) (vs:List Value),cn w G args vs->jn w G st->(∀b,bU b args vs+cj b G.ls st<=1)->
   Calls P sf.eZ vs.toArray w λe w'=>∃u G',e=.returned u/\aS w' G' v u/\jn w' G' st'/\
    Mv w G (λb=>bU b args vs+cj b G.ls st) w' G' (λb=>fG b v u+cj b G'.ls st'):=by
 unfold eA at hc;split at hc;rename_i Mg;simp only[sG,Bool.and_eq_true,decide_eq_true_eq]at Mg;obtain⟨hm,hpa⟩:=Mg;simp only[Option.map_eq_some_iff]at hc;obtain⟨⟨v0,st0⟩,Wv,hx⟩:=hc;cases hx;obtain⟨MF,rfl⟩:=Ea Wv hm;obtain⟨h1,h2,h3⟩:=KJ hT hO hL hP hK hf Wv;refine⟨h1,h2,λw G vs hR hI mz=>?_⟩;have abU:∀(i:Nat) c,args[i]?=some c->c.under 0=true:=λi c hc=>iW 0 c ((gh args).1 hpa c (cQ hc));have hI0:jn w (G.cut 0) []:=by
  have:=hI.DU (n:=0) λid ob h=>by omega
  simpa using this
 have XP:∀b,cj b (G.cut 0).ls []=0:=λb=>by simp[cj]
 refine(h3 w (G.cut 0) vs ⟨hR.1,λi c v e1 e2=>(hR.2 i c v e1 e2).DU (abU i c e1)⟩ hI0 λb=>by rw[XP b];have:=mz b;omega).mono λe w' he=>?_;obtain⟨u,G',rfl,r1,r2,r3⟩:=he;have tG:∀b,cj b G'.ls []=0:=λb=>by simp[cj]
 have hS:sK w G w' ⟨G.ls,G'.mj⟩:=⟨λb o hi=>r3.jj.Sj b o hi,λid loc hl=>⟨loc,hl,Nat.le_refl _,λ_=>rfl⟩⟩;have D8:∀b,b<w.heap.size->bU b args vs=0->dZ w G w' ⟨G.ls,G'.mj⟩ b:=λb hb h0=>by
  have:=r3.wj b hb (by rw[h0,XP b]);exact this
 have hIs:jn w' ⟨G.ls,G'.mj⟩ st:=wo hI hS rfl (λb hb=>D8 b (hI.held hb) (by have:=mz b;omega)) r2.mT;have dG:aS w' ⟨G.ls,G'.mj⟩ v0 u:=by
  have h0:=r1.DU (n:=0) (iW 0 v0 MF);exact h0.jj ⟨λb o hi=>⟨rfl,hi⟩,λid loc hl=>by simp[aQ.cut]at hl⟩ λb _=>⟨rfl,rfl⟩
 refine⟨u,⟨G.ls,G'.mj⟩,rfl,dG,hIs,hS,λb hb=>?_,λb=>?_,λb hb h0=>D8 b hb (by omega),r3.size,r3.os,r3.out⟩;have:=r3.fG b hb;rw[tG b,XP b]at this;show fG b v0 u+cj b G.ls st<=_;omega;have h4:=r3.one b;rw[tG b]at h4;show fG b v0 u+cj b G.ls st<=1;by_cases hb:b<w.heap.size;have h5:=r3.fG b hb;rw[tG b,XP b]at h5;have:=mz b;omega;have:cj b G.ls st=0:=by
  rcases Nat.eq_zero_or_pos (cj b G.ls st) with h|h;exact h;exact absurd (hI.held h) hb
 omega;exact KJ hT hO hL hP hK hf hc
theorem GG(hT:KH S P):∀n,jP S P (pY S n)/\xA S P (pY S n)
 |0=>⟨λwl J f args st v st' h=>by simp[pY]at h,λwl J rs c s x s' h=>by simp[pY]at h⟩
 |n+1=>by
  obtain⟨i1,i2⟩:=GG hT n;refine⟨λwl J f args st v st' h=>?_,λwl J rs c s x s' h code m hm w G β a hs h1 Q hQ=>?_⟩;simp only[pY]at h;split at h;rename_i sf hsf;exact⟨sf,hsf,xD hT i1 i2 (Kz S n) (Gu S n) hsf h⟩;cases h;simp only[pY]at h;refine KD ?_;cases hc:iu (pY S n) wl J rs c s with
  |none=>rw[hc]at h;cases h|some y=>
   obtain⟨x1,s1⟩:=y;rw[hc]at h;refine tJ i1 i2 (Kz S n) c code s s1 x1 w G β a _ hm hs h1 hc λw' G' gw a' hp=>?_;cases x1 with
   |normal=>
    obtain⟨sr,g1,g2,g3⟩:=hp;simp only at g3;subst g3;exact i2 wl J rs c s1 x s' h code m hm w' G' gw a' g1 g2.one Q λw2 G2 S1 a2 hp2=>hQ w2 G2 S1 a2 (hp2.trans g2)
   |exit id=>cases h;exact hQ w' G' gw a' hp|ret v=>cases h;exact hQ w' G' gw a' hp
end Ax
namespace Ax
open Go
variable {P:Program}{w w':World}{G G':aQ}
def C1(P:Program)(ts:List TypeId):Bool:=ts.all λt=>decide (t<P.types.size)&&match P.underlying t with
 |some .bool|some (.int _)|some .string=>true|some (.slice e)=>ts.contains e&&decide (0<P.cellsOf e)|some (.struct fs)=>fs.toList.all λf=>ts.contains f.type|_=>false
mutual
inductive Ty (P:Program):TypeId->List AV->Prop
 |bool {t:TypeId} (h:P.underlying t=some .bool) (b:Bool):Ty P t [.bool b]
 |int {t:TypeId} {k:IntKind} (h:P.underlying t=some (.int k)) (n:Int) (h1:k.min<=n) (h2:n<=k.max):Ty P t [.int k n]
 |str {t:TypeId} (h:P.underlying t=some .string) (l:List UInt8) (hn:l.length<=maxLen):Ty P t [.str l]
 |U {t e:TypeId} (h:P.underlying t=some (.slice e)):Ty P t [.U]
 |lU {t e:TypeId} (h:P.underlying t=some (.slice e)):Ty P t [.lU]
 |dc {t e:TypeId} (h:P.underlying t=some (.slice e)) (rows:List (List AV)) (hn:rows.length<=maxLen) (hl:∀r∈rows,r.length=P.cellsOf e) (h2:∀r∈rows,Ty P e r):Ty P t [.dc (P.cellsOf e) rows]
 |Ti {t:TypeId} {fs:Array Field} (h:P.underlying t=some (.struct fs)) (as:List AV) (h2:Tj P fs.toList as):Ty P t as
inductive Tj (P:Program):List Field->List AV->Prop
 |nil:Tj P [] []
 |cons {f:Field} {fs:List Field} {as bs:List AV} (hl:as.length=P.cellsOf f.type) (h1:Ty P f.type as) (h2:Tj P fs bs):Tj P (f::fs) (as++bs)
end
abbrev G0:aQ:=⟨[],λ_=>none⟩
def yw(as:List AV):Prop:=AV.dN as=true/\AV.af as=true/\AV.aO as=true
theorem qM{a:AV}(h1:a.b9=true)(h2:a.au=true)(h3:a.cL=true):yw [a]:=by
 refine⟨?_,?_,?_⟩<;>simp[AV.dN,AV.af,AV.aO,h1,h2,h3]
theorem Im{as bs:List AV}(h:yw as)(k:yw bs):yw (as++bs):=by
 obtain⟨h1,h2,h3⟩:=h;obtain⟨k1,k2,k3⟩:=k;refine⟨(cA _).2 λc hc=>?_,(gh _).2 λc hc=>?_,?_⟩;rcases List.mem_append.1 hc with h|h;exact(cA _).1 h1 c h;exact(cA _).1 k1 c h;rcases List.mem_append.1 hc with h|h;exact(gh _).1 h2 c h;exact(gh _).1 k2 c h;simp only[AV.aO,List.all_append,Bool.and_eq_true]at *;exact⟨h3,k3⟩
theorem uf{a:AV}{v:Value}(h:aS w G a v):cn w G [a] [v]:=⟨rfl,λi c u h1 h2=>by
 cases i with
 |zero=>simp at h1 h2;subst h1;subst h2;exact h|succ i=>simp at h1⟩
theorem XQ{b o:Nat}(h:b<w.heap.size):Imm w G0 b o:=⟨h,λp hp=>by cases hp⟩
section
variable {H:Type}{enc:TypeId×Value->H}{ts:List TypeId}
theorem GH{cs:List Value}:∀(fs:List Field)(o:Nat),(∀(j:Nat) f,fs[j]?=some f->f.offset=o+((fs.take j).map λf=>P.cellsOf f.type).sum)->cs.length=o+(fs.map λf=>P.cellsOf f.type).sum->
  (∀f∈fs,∃as,cn w G0 as ((cs.drop f.offset).take (P.cellsOf f.type))/\Ty P f.type as/\yw as)->∃as,cn w G0 as (cs.drop o)/\Tj P fs as/\yw as
 |[],o,_,hl,_=>by
  simp at hl;have:cs.drop o=[]:=List.drop_eq_nil_of_le (by omega);rw[this];exact⟨[],⟨rfl,λi c v h=>by simp at h⟩,.nil,rfl,rfl,rfl⟩
 |f::fs,o,ho,hl,hf=>by
  have e0:f.offset=o:=by have:=ho 0 f rfl;simpa using this
  simp only[List.map_cons,List.sum_cons]at hl;obtain⟨bs,h1,h2,h3⟩:=GH fs (o+P.cellsOf f.type) (λj g hg=>by
   have:=ho (j+1) g (by simpa using hg);simp only[List.take_succ_cons,List.map_cons,List.sum_cons]at this;omega) (by omega) (λg hg=>hf g (by simp[hg]))
  obtain⟨as,k1,k2,k3⟩:=hf f (by simp);rw[e0]at k1;have hlen:as.length=P.cellsOf f.type:=by
   rw[k1.1,List.length_take,List.length_drop];omega
  refine⟨as++bs,?_,.cons hlen k2 h2,Im k3 h3⟩;have:cs.drop o=(cs.drop o).take (P.cellsOf f.type)++cs.drop (o+P.cellsOf f.type):=by
   rw[<-List.drop_drop,List.take_append_drop]
  rw[this];exact cn.append k1 h1
theorem XR(hK:Kids P (· < P.types.size))(hp:C1 P ts=true):∀(n:Nat)(t:TypeId)(cs:List Value)(x:DataW H×List MemPlace),t∈ts->DataW.trod enc P w 0 (λ_=>true) true n t cs=some x->
  ∃as,cn w G0 as cs/\Ty P t as/\yw as:=by
 intro n;induction n with
 |zero=>intro t cs x _ h;simp[DataW.trod]at h|succ n ih=>
  intro t cs x ht h;have M3:=List.all_eq_true.1 hp t ht;simp only[Bool.and_eq_true,decide_eq_true_eq]at M3;obtain⟨bw,M3⟩:=M3;split at M3;rename_i hu;obtain⟨b,rfl,rfl⟩:=DataW.trod_bool hu h;exact⟨[.bool b],uf (.bool b),.bool hu b,qM rfl rfl rfl⟩;rename_i k hu;obtain⟨m,rfl,rfl,hw⟩:=DataW.trod_int hu h;simp only[Lit.wf,Bool.and_eq_true,decide_eq_true_eq]at hw;exact⟨[.int k m],uf (.int k m),.int hu m hw.1 hw.2,qM rfl rfl rfl⟩;rename_i hu;obtain⟨s,rfl,rfl,dw⟩:=DataW.trod_string hu h;exact⟨[.str s.data.toList],uf (.str _ s rfl),.str hu _ (by simpa using dw),qM rfl rfl rfl⟩;rename_i e hu;simp only[Bool.and_eq_true,List.contains_eq_mem,decide_eq_true_eq]at M3;obtain⟨he,eI⟩:=M3;rcases DataW.trod_slice hu h with⟨rfl,rfl⟩|⟨a,len,cap,elems,rest,m,hm,rfl,rfl,_,hlc,hcm,tK,agC,SO,_⟩;exact⟨[.U],uf .U,.U hu,qM rfl rfl rfl⟩;cases hm;by_cases fI:cap=0;subst fI;have:len=0:=by omega
  subst this;exact⟨[.lU],uf (.lU a),.lU hu,qM rfl rfl rfl⟩;have dj:∀i,i<cap->∃Tl y,w.cells? 0 (a.add (i*P.cellsOf e)) (P.cellsOf e)=some Tl/\DataW.trod enc P w 0 (λ_=>true) true n e Tl=some y:=by
   intro i hi;by_cases Cz:i<len;have h1:=agC i Cz;have h2:∃y,elems[i]?=some y:=⟨_,List.getElem?_eq_getElem (by omega)⟩;obtain⟨y,hy⟩:=h2;rw[hy,Option.bind_eq_some_iff]at h1;obtain⟨Tl,e1,e2⟩:=h1;exact⟨Tl,y,e1,e2⟩;obtain⟨pE,hr⟩:=SO rfl;have h1:=hr (i-len) (by omega);rw[show len+(i-len)=i by omega]at h1;have h2:∃y,rest[i-len]?=some y:=⟨_,List.getElem?_eq_getElem (by omega)⟩;obtain⟨y,hy⟩:=h2;rw[hy,Option.bind_eq_some_iff]at h1;obtain⟨Tl,e1,e2⟩:=h1;exact⟨Tl,y,e1,e2⟩
  have aaB:a.spot=none:=by
   obtain⟨Tl,y,e1,_⟩:=dj 0 (by omega);obtain⟨_,g2,g3⟩:=World.cells?_some e1;have h0:=g3 0 eI;have:∃v,Tl[0]?=some v:=⟨_,List.getElem?_eq_getElem (by omega)⟩;obtain⟨v,hv⟩:=this;rw[hv]at h0;have:=World.cell?_spot h0;simpa [Addr.add] using this
  obtain⟨jK,off,spot⟩:=a;simp only at aaB;subst aaB;have Ql:∀off k,Addr.add ⟨jK,off,none⟩ k=⟨jK,off+k,none⟩:=λoff k=>by
   unfold Addr.add;split;rename_i h0;subst h0;rfl
   rfl
  have zB:∀i,i<len->∃r,(r.length=P.cellsOf e/\Ty P e r/\yw r)/\∀(j:Nat) c,r[j]?=some c->∃v,w.cell? ⟨jK,off+(i*P.cellsOf e+j),none⟩=some v/\aS w G0 c v:=by
   intro i hi;obtain⟨Tl,y,e1,e2⟩:=dj i (by omega);obtain⟨_,g2,g3⟩:=World.cells?_some e1;obtain⟨r,r1,r2,r3⟩:=ih e Tl y he e2;have pE:r.length=P.cellsOf e:=(by rw[r1.1,g2]);refine⟨r,⟨pE,r2,r3⟩,λj c hc=>?_⟩;have hj:j<P.cellsOf e:=(by rw[<-pE];exact(List.getElem?_eq_some_iff.1 hc).1);have h0:=g3 j hj;have hv:∃v,Tl[j]?=some v:=⟨_,List.getElem?_eq_getElem (by omega)⟩;obtain⟨v,hv⟩:=hv;rw[hv,Ql,Ql]at h0;refine⟨v,by rw[<-h0];congr 2;omega,r1.2 j c v hc hv⟩
  have key:∀m,m<=len->∃rows:List (List AV),rows.length=m/\∀(i:Nat) r,rows[i]?=some r->(r.length=P.cellsOf e/\Ty P e r/\yw r)/\∀(j:Nat) c,r[j]?=some c->∃v,w.cell? ⟨jK,off+(i*P.cellsOf e+j),none⟩=some v/\aS w G0 c v:=by
   intro m;induction m with
   |zero=>intro _;exact⟨[],rfl,λi r h=>by simp at h⟩|succ m ihm=>
    intro hm;obtain⟨rows,l1,l2⟩:=ihm (by omega);obtain⟨r,hr⟩:=zB m (by omega);refine⟨rows++[r],by simp[l1],λi r' hi=>?_⟩;by_cases him:i<m;rw[List.getElem?_append_left (by omega)]at hi;exact l2 i r' hi;rw[List.getElem?_append_right (by omega)]at hi;have:i-rows.length=0:=by
     rcases Nat.eq_zero_or_pos (i-rows.length) with h|h;exact h;rw[List.getElem?_eq_none (by simp;omega)]at hi;cases hi
    rw[this]at hi;simp at hi;subst hi;have:i=m:=by omega
    subst this;exact hr
  obtain⟨rows,l1,l2⟩:=key len (Nat.le_refl _);have AT:∀r∈rows,r.length=P.cellsOf e/\Ty P e r/\yw r:=λr hr=>by
   obtain⟨i,hi,rfl⟩:=List.mem_iff_getElem.1 hr;exact(l2 i _ (List.getElem?_eq_getElem hi)).1
  have dG:aS w G0 (.dc (P.cellsOf e) rows) (.slice (some ⟨jK,off,none⟩) rows.length cap):=by
   refine .dc (P.cellsOf e) rows ⟨jK,off,none⟩ cap rfl (by omega) ?_ (λr hr=>(AT r hr).2.2.1) (λr hr=>(AT r hr).2.2.2.1) (λr hr=>(AT r hr).2.2.2.2) (λi r j c h1 h2=>?_) (λi r j c v h1 h2 h3=>?_);simp only[bV,List.all_eq_true,beq_iff_eq];exact λr hr=>(AT r hr).1;obtain⟨v,e1,_⟩:=(l2 i r h1).2 j c h2;exact⟨XQ (World.block_lt_of_cell? w ⟨jK,off+(i*P.cellsOf e+j),none⟩ e1:jK<w.heap.size),v,e1⟩;obtain⟨v',e1,e2⟩:=(l2 i r h1).2 j c h2;rw[e1]at h3;cases h3;exact e2
  rw[l1]at dG;exact⟨[.dc (P.cellsOf e) rows],uf dG,(.dc hu rows (by omega) (λr hr=>(AT r hr).1) (λr hr=>(AT r hr).2.1)),qM rfl rfl rfl⟩;rename_i fs hu;simp only[List.all_eq_true,List.contains_eq_mem,decide_eq_true_eq]at M3;obtain⟨xs,m,hm,rfl,hl,hlen,hf⟩:=DataW.trod_struct hu h;cases hm;obtain⟨_,k2,k3⟩:=hK.struct bw hu;obtain⟨as,h1,h2,h3⟩:=GH (P:=P) (w:=w) (cs:=cs) fs.toList 0 (λj f hf=>by rw[k3 j f hf];omega) (by rw[hl,k2];omega) λf hfm=>by
   obtain⟨i,hi,rfl⟩:=List.mem_iff_getElem.1 hfm;have hg:fs.toList[i]?=some fs.toList[i]:=List.getElem?_eq_getElem hi;have h1:=hf i fs.toList[i] (by simp);have hy:∃y,xs[i]?=some y:=⟨_,List.getElem?_eq_getElem (by rw[hlen];simpa using hi)⟩;obtain⟨y,hy⟩:=hy;rw[hy]at h1;exact ih _ _ y (M3 _ hfm) h1
  exact⟨as,by simpa using h1,.Ti hu as h2,h3⟩;cases M3
def WD(P:Program)(t:TypeId)(a:AV):Prop:=(∃fs as,P.underlying t=some (.struct fs)/\a=.agg as/\Ty P t as)\/((∀fs,P.underlying t≠some (.struct fs))/\Ty P t [a])
def XS(P:Program):List TypeId->List AV->Prop
 |[],[]=>True|t::ts,a::as=>WD P t a/\XS P ts as|_,_=>False
theorem Tm(hK:Kids P (· < P.types.size))(hp:C1 P ts=true){r:Reach}{base:Nat}{t:TypeId}{v:Value}{d:DataW H}{ps:List MemPlace}(ht:t∈ts)(cG:Value.okWide P w r base t v)
  (h:DataW.Trod enc P w 0 (λ_=>true) true t v d ps):∃a,aS w G0 a v/\WD P t a/\a.b9=true:=by
 obtain⟨n,hn⟩:=h;obtain⟨as,h1,h2,h3⟩:=XR hK hp n t _ _ ht hn;have one:v.cells = #[v]->(∀fs,P.underlying t≠some (.struct fs))->∃a,aS w G0 a v/\WD P t a/\a.b9=true:=by
  intro hc hs;rw[hc]at h1;obtain⟨e1,e2⟩:=h1;match as,e1,e2,h2,h3 with
  |[a],_,e2,h2,h3=>exact⟨a,e2 0 a v rfl rfl,.inr ⟨hs,h2⟩,by have:=h3.1;simpa [AV.dN] using this⟩
 have M3:=List.all_eq_true.1 hp t ht;simp only[Bool.and_eq_true,decide_eq_true_eq]at M3;obtain⟨_,M3⟩:=M3;split at M3;rename_i hu;obtain⟨b,rfl⟩:=WideShapes.okWide_bool hu cG;exact one rfl λfs h=>by rw[hu]at h;cases h
 rename_i k hu;obtain⟨b,rfl⟩:=WideShapes.okWide_int hu cG;exact one rfl λfs h=>by rw[hu]at h;cases h
 rename_i hu;obtain⟨b,rfl⟩:=WideShapes.okWide_string hu cG;exact one rfl λfs h=>by rw[hu]at h;cases h
 rename_i e hu;obtain⟨a,l,c,rfl⟩:=WideShapes.okWide_slice hu cG;exact one rfl λfs h=>by rw[hu]at h;cases h
 rename_i fs hu;obtain⟨cs,rfl,_⟩:=WideShapes.okWide_struct hu cG;refine⟨.agg as,.agg as cs (by simpa [Value.cells] using h1.1) λi c v e1 e2=>h1.2 i c v e1 (by simpa [Value.cells] using e2),.inl ⟨fs,as,hu,rfl,h2⟩,?_⟩;simp only[AV.b9];exact h3.1;cases M3
theorem GI(hK:Kids P (· < P.types.size))(hp:C1 P ts=true){r:Reach}{base:Nat}:∀{us:List TypeId}{vs:List Value}{ds:List (DataW H)}{ps:List MemPlace},(∀t∈us,t∈ts)->
  (∀(j:Nat) t v,us[j]?=some t->vs[j]?=some v->Value.okWide P w r base t v)->DataW.TrodAll enc P w 0 (λ_=>true) true us vs ds ps->∃as,cn w G0 as vs/\XS P us as/\AV.dN as=true
 |[],[],[],_,_,_,_=>⟨[],⟨rfl,λi c v h=>by simp at h⟩,trivial,rfl⟩
 |t::us,v::vs,d::ds,ps,hu,hv,h=>by
  obtain⟨p,q,h1,h2,rfl⟩:=h;obtain⟨a,a1,a2,a3⟩:=Tm hK hp (hu t (by simp)) (hv 0 t v rfl rfl) h1;obtain⟨as,b1,b2,b3⟩:=GI hK hp (λt ht=>hu t (by simp[ht])) (λj t v e1 e2=>hv (j+1) t v (by simpa using e1) (by simpa using e2)) h2;exact⟨a::as,cn.cons a1 b1,⟨a2,b2⟩,by simp[AV.dN,a3,b3]⟩
 |[],_::_,_,_,_,_,h=>h.elim|[],[],_::_,_,_,_,h=>h.elim|_::_,[],_,_,_,_,h=>h.elim|_::_,_::_,[],_,_,_,h=>h.elim
theorem yx(hK:Kids P (· < P.types.size))(hz:∀t e,t<P.types.size->P.underlying t=some (.slice e)->0<P.cellsOf e){sp:Nat->Bool}(Tn:∀b,b<w.heap.size->w'.heap[b]?=w.heap[b]?):∀{us:List TypeId}{vs:List Value}{ds:List (DataW H)}{ps:List MemPlace},(∀t∈us,t<P.types.size)->
  DataW.TrodAll enc P w 0 (λ_=>true) true us vs ds ps->(∀p∈ps,sp p.block=true)->DataW.TrodAll enc P w' 0 sp true us vs ds ps
 |[],[],[],_,_,h,_=>h|t::us,v::vs,d::ds,ps,hu,h,hs=>by
  obtain⟨p,q,⟨n,h1⟩,h2,rfl⟩:=h;refine⟨p,q,⟨n,DataW.trod_stays hK (fun {t e}=>hz t e) (λh=>by cases h) (hu t (by simp)) h1 (λx hx=>?_) λx hx=>hs x (by simp[hx])⟩,yx hK hz Tn (λt ht=>hu t (by simp[ht])) h2 (λx hx=>hs x (by simp[hx])),rfl⟩;have bw:=DataW.trod_lt n t _ _ h1 x hx;cases x with
  |cell b off=>simp only[World.sameAt,World.cell?,Tn b bw]|map b=>exact Tn b bw
 |[],_::_,_,_,_,h,_=>h.elim|[],[],_::_,_,_,h,_=>h.elim|_::_,[],_,_,_,h,_=>h.elim|_::_,_::_,[],_,_,h,_=>h.elim
theorem To(w:World):jn w G0 []:=⟨rfl,λid ob loc h=>by simp at h,λb p h=>by cases h⟩
theorem Io{may:MemPlace->Prop}(h1:w'.os=w.os)(h2:w'.output=w.output)(h3:∀b,b<w.heap.size->w'.heap[b]?=w.heap[b]?):w.keptBut w' may:=by
 refine⟨h1,h2,λi hi=>?_⟩;rw[h3 i hi];have:=Array.getElem?_eq_getElem hi;rw[this];cases w.heap[i] with
 |cells c t fr=>exact⟨rfl,rfl,rfl,λ_ _=>rfl⟩|map es clock=>exact .inr ⟨rfl,rfl⟩|_=>rfl
theorem KK(_hsz:w.heap.size<=w'.heap.size)(h3:∀b,b<w.heap.size->w'.heap[b]?=w.heap[b]?)(a:Addr)(ha:a.block<w.heap.size):w'.frozen? a=w.frozen? a:=by
 simp only[World.frozen?,h3 a.block ha]
end
end Ax
namespace Ax
open Go Go.ChangeShapes
variable {P:Program}{w w':World}{G G':aQ}{H:Type}{enc:TypeId×Value->H}
theorem Tp{f:Func}{s:ChangeSpec}{kZ fresh handsOn vH:Bool}{W W':World}{args:Array Value}{ds gs:List (DataW H)}{before:List MemPlace}{tb:TypeId}
  (hK:Kids P (· < P.types.size))(hz:∀t e,t<P.types.size->P.underlying t=some (.slice e)->0<P.cellsOf e)(Tq:∀t∈f.params.toList,t<P.types.size)
  (hW:DataW.Whole enc P f.params.toList s.vars kZ W args.toList ds gs before) (hv:s.vars=[]) (FK:f.resultTypes = #[tb]) (htb:P.underlying tb=some .bool)
  (hr:(s.fn H ds).results=[.lit (.bool true)]) (ha:(s.fn H ds).args=ds) (Fs:(s.fn H ds).vars=[])
  (h1:W'.os=W.os) (h2:W'.output=W.output) (h4:W.heap.size<=W'.heap.size) (h3:∀b,b<W.heap.size->W'.heap[b]?=W.heap[b]?) :
  s.post enc P f kZ fresh handsOn vH W args (.bool true) W':=by
 have hW':=hW;obtain⟨p,q,hA,hV,rfl,Cq,hn⟩:=hW';rw[hv]at hV;cases gs with
 |cons _ _=>exact hV.elim|nil=>
  have hq:q=[]:=hV;subst hq;simp only[List.append_nil]at hW Cq hn;have gi:∀sp:Nat->Bool,(∀x∈p,sp x.block=true)->DataW.TrodAll enc P W' 0 sp true f.params.toList args.toList ds p:=λsp oF=>yx hK hz h3 Tq hA oF;have hfr:∀x∈p,x.block<W.heap.size:=DataW.TrodAll.lt hA;have hold:∀x∈p,(λb=>decide (b<W.heap.size)) x.block=true:=λx hx=>by simpa using hfr x hx
  have pE:(Value.bool true).resultList f.resultTypes.size=[.bool true]:=by rw[FK];rfl
  have XO:∀(b:Nat) (sp:Nat->Bool) (hd:Bool),DataW.TrodAll enc P W' b sp hd f.resultTypes.toList ((Value.bool true).resultList f.resultTypes.size) (s.fn H (ds++[])).results []:=λb sp hd=>by
   rw[List.append_nil,hr,pE,FK];exact⟨[],[],⟨1,by simp[DataW.trod,htb,Value.cells]⟩,rfl,rfl⟩
  refine⟨ds,[],p,[],p,[],hW,XO _ _ _,by rw[List.append_nil,ha];exact gi _ hold,by rw[hv,List.append_nil,Fs];rfl,Io h1 h2 h3,λ_=>?_⟩;refine⟨λj t r e1 e2=>?_,[DataW.lit (.bool true)]++ds,[],p,⟨p,[],?_,(by rw[hv];exact(rfl:DataW.TrodVars enc P W' (λ_=>true) [] [] [])),by simp,?_,?_⟩,?_⟩;rw[FK]at e1;rw[pE]at e2;cases j with
  |zero=>
   simp at e1 e2;subst e1;subst e2;exact RowKit.okWide_bool_mk htb true
  |succ j=>simp at e1
  have:=trodAll_append (gi _ (λ_ _=>rfl)) (XO 0 (λ_=>true) true);simpa [hr] using this;intro b off hp;rw[KK h4 h3 _ (hfr _ hp)];exact Cq b off hp;exact hn;intro x hx _;exact hx
theorem M4{S:Nat->Option aD}(hT:KH S P):jP S P (aT S):=λwl J f args st v st' h=>by
 obtain⟨n,hn⟩:=(tU S).call _ _ _ _ _ _ h;exact(GG hT n).1 wl J f args st v st' hn
theorem QK{S:Nat->Option aD}(hT:KH S P){f:FuncId}(hf:f<100000){as:List AV}{st':ai}(hc:(aT S).call 0 0 f as []=some (.bool true,st')){W:World}{args:Array Value}(hR:cn W G0 as args.toList)(iz:AV.dN as=true) :
  Calls P f args W λe W'=>e=.returned (.bool true)/\W'.os=W.os/\W'.output=W.output/\W.heap.size<=W'.heap.size/\∀b,b<W.heap.size->W'.heap[b]?=W.heap[b]?:=by
 obtain⟨sf,h1,h2,h3,h4⟩:=M4 hT _ _ _ _ _ _ _ hc;have hz:∀b,bU b as args.toList+cj b G0.ls []=0:=λb=>by rw[dy b _ _ iz];simp[cj]
 have:=h4 W G0 args.toList hR (To W) (λb=>by rw[hz b];omega);rw[h3 hf]at this;refine this.mono λe W' h=>?_;obtain⟨u,G',rfl,r1,r2,r3⟩:=h;refine⟨by rw[aS.jL r1],r3.os,r3.out,r3.size,λb hb=>(r3.wj b hb (hz b)).2⟩
structure agD (S:Nat->Option aD)(C:Checked)(ts:List TypeId):Prop where
 lA:ownKnob C.prog.godebug=none
 tab:KH S C.prog
 ay:Kids C.prog (· < C.prog.types.size)
 alj:∀t e,t<C.prog.types.size->C.prog.underlying t=some (.slice e)->0<C.prog.cellsOf e
 plain:C1 C.prog ts=true
theorem law_lifted{S:Nat->Option aD}{C:Checked}{ts:List TypeId}(hh:agD S C ts){os:Os}(started:os.Started){f:FuncId}{fn:Func}{s:ChangeSpec}{conds:List PathCond}{kZ fresh handsOn vH:Bool}{tb:TypeId}
  (abV:C.prog.inits.idxOf? f=none)(Mo:C.prog.funcs[f]?=some fn)(hf:f<100000)
  (witness:∃(w:World) (tape:Tape) (i:Input),w.os=os/\(w.forCall tape i).Shaped C.prog/\i.vars=[]/\Input.okWide C.prog (w.forCall tape i) .any w.heap.size f i/\
   s.pre6 enc C.prog fn conds kZ (w.forCall tape i).memory i.args/\({}:Assume).holds C.prog (lone (Frame.enter C.prog f i.args .normal) [] (w.forCall tape i)))
  (Tq:(fn.params.toList.all λt=>ts.contains t&&decide (t<C.prog.types.size))=true) (hv:s.vars=[]) (FK:fn.resultTypes = #[tb]) (htb:C.prog.underlying tb=some .bool)
  (agE:∀ds:List (DataW H),ds.length=fn.params.toList.length->(s.fn H ds).results=[.lit (.bool true)]/\(s.fn H ds).args=ds/\(s.fn H ds).vars=[])
  (eF:∀as,XS C.prog fn.params.toList as->∃st',(aT S).call 0 0 f as []=some (.bool true,st')) :
  ReturnsInHanded {} C os f .any (s.pre6 enc C.prog fn conds kZ) (s.post enc C.prog fn kZ fresh handsOn vH):=by
 refine returnsInHanded_of_change hh.lA started abV Mo witness ?_;intro W base args ds gs before cG hW _ _;have hp:∀t∈fn.params.toList,t∈ts/\t<C.prog.types.size:=λt ht=>by
  have:=List.all_eq_true.1 Tq t ht;simpa using this
 obtain⟨p,q,hA,hV,hb,_,_⟩:=id hW;obtain⟨as,a1,a2,a3⟩:=GI hh.ay hh.plain (λt ht=>(hp t ht).1) (λj t v e1 e2=>cG j t v (by simpa using e1) (by simpa using e2)) hA;obtain⟨st',hc⟩:=eF as a2;have hlen:∀(us:List TypeId) (vs:List Value) (ds:List (DataW H)) (p:List MemPlace),DataW.TrodAll enc C.prog W 0 (λ_=>true) true us vs ds p->ds.length=us.length:=by
  intro us;induction us with
  |nil=>intro vs ds p h;cases vs with
   |nil=>cases ds with
    |nil=>rfl|cons _ _=>exact h.elim
   |cons _ _=>cases ds<;>exact h.elim
  |cons t us ih=>intro vs ds p h;cases vs with
   |nil=>cases ds<;>exact h.elim|cons v vs=>cases ds with
    |nil=>exact h.elim|cons d ds=>
     obtain⟨_,_,_,h2,_⟩:=h;simp[ih vs ds _ h2]
 obtain⟨s1,s2,s3⟩:=agE ds (hlen _ _ _ _ hA);refine(QK hh.tab hf hc a1 a3).mono λe W' h=>?_;obtain⟨rfl,h1,h2,h3,h4⟩:=h;exact⟨_,rfl,Tp hh.ay hh.alj (λt ht=>(hp t ht).2) hW hv FK htb s1 s2 s3 h1 h2 h3 h4⟩
end Ax
namespace Ax
open Go
def xE(S:Nat->Option aD)(P:Program):Nat->List (Option aD)->Bool
 |_,[]=>true|k,none::l=>xE S P (k+1) l|k,some sf::l=>Oz S P sf&&(decide (100000<=k)||sf.eZ==k)&&xE S P (k+1) l
theorem u5{S:Nat->Option aD}{P:Program}:∀{l:List (Option aD)}{k:Nat},xE S P k l=true->∀(i:Nat) sf,l[i]?=some (some sf)->Oz S P sf=true/\(k+i<100000->sf.eZ=k+i)
 |[],_,_,i,sf,h=>by simp at h|none::l,k,h,i,sf,hi=>by
  cases i with
  |zero=>simp at hi|succ i=>
   have:=u5 (l:=l) (k:=k+1) h i sf (by simpa using hi);rw[show k+1+i=k+(i+1) by omega]at this;exact this
 |some s::l,k,h,i,sf,hi=>by
  simp only[xE,Bool.and_eq_true,Bool.or_eq_true,decide_eq_true_eq,beq_iff_eq]at h;obtain⟨⟨h1,h2⟩,h3⟩:=h;cases i with
  |zero=>
   simp at hi;subst hi;exact⟨h1,λhk=>by omega⟩
  |succ i=>
   have:=u5 (l:=l) (k:=k+1) h3 i sf (by simpa using hi);rw[show k+1+i=k+(i+1) by omega]at this;exact this
theorem XT{W0 HO:List (Option aD)}{P:Program}(h1:xE (Si W0 HO) P 0 W0=true)(h2:xE (Si W0 HO) P 100000 HO=true):KH (Si W0 HO) P:=by
 intro f sf hf;unfold Si at hf;split at hf;cases hg:W0[f]? with
 |none=>rw[hg]at hf;cases hf|some x=>
  rw[hg]at hf;simp only[Option.getD_some]at hf;subst hf;have:=u5 h1 f sf hg;exact⟨this.1,λh=>by have:=this.2 (by omega);omega⟩
 rename_i bw;cases hg:HO[f-100000]? with
 |none=>rw[hg]at hf;cases hf|some x=>
  rw[hg]at hf;simp only[Option.getD_some]at hf;subst hf;have:=u5 h2 (f-100000) sf hg;exact⟨this.1,λh=>absurd h bw⟩
end Ax
