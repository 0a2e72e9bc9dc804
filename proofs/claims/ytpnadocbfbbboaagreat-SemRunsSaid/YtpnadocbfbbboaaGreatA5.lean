/- Part of a proof. -/
import Derived.Test.YtpnadocbfbbboaaGreatA4
import Derived.Scope
import Derived.ChangeStays
import Derived.ChangeSame
import Derived.ChangeOld
import Derived.ChangeArms
import Derived.JoinedOf
import Derived.RowKit3
import Derived.ReadAgain
import Derived.Handed

open List renaming mem_append->abw,getElem?_eq_getElem->aag,all_eq_true->aaB,contains_eq_mem->aeC,getElem?_eq_some_iff->aad,map_cons->abn,mem_map->ab9,mem_filter->aiO,getElem?_set_ne->aap,ext_getElem?->aeE,drop_eq_getElem_cons->aaz,getElem?_set->abp,getElem?_take->acv,getElem?_drop->adw,mem_or_eq_of_mem_set->acG,getElem?_append_left->aal,getElem?_eq_none->adi,replicate->aak,sum_cons->aje,mem_iff_getElem->abo,append_nil->ac5
open Option renaming mem_toList->agM,getD_some->adB,bind_eq_some_iff->aai
open Nat renaming le_refl->aau,lt_trichotomy->aht,le_of_lt->ag1,lt_trans->ahk,le_trans->ac9,lt_or_ge->agi,eq_zero_or_pos->ae3
open Bool renaming and_eq_true->aac,not_eq_true'->adu,or_eq_true->acJ,false_eq_true->aan
open Array renaming getD->ahs,getElem?_eq_some_iff->abq,replicate->agH,size_replicate->ah0
namespace Ax
open Go
variable {S:Nat->Option aL}{P:Program}{O:kL}{wl aa:Nat}
theorem Cr:∀{m:List aR}{s e:St}{gQ:List St},eG O wl aa m s=some (e,gQ)->
  gQ.length=m.length+1/\gQ[0]?=some s/\gQ[m.length]?=some e/\∀(i:Nat) so,m[i]?=some so->∃x y,gQ[i]?=some x/\gQ[i+1]?=some y/\iX O wl aa so x=some y
 |[],s,e,gQ,h=>by
  simp only[eG,bh,cF]at h;obtain⟨rfl,rfl⟩:=h;exact⟨rfl,rfl,rfl,λi so h=>by simp at h⟩
 |o::m,s,e,gQ,h=>by
  simp only[eG]at h;split at h;rename_i s1 yQ;split at h;rename_i e' l' hr;cases h;obtain⟨h1,h2,h3,h4⟩:=Cr hr;refine⟨by simp[h1],rfl,by simpa using h3,λi so hi=>?_⟩;cases i with
  |zero=>simp at hi;subst hi;exact⟨s,s1,rfl,by simpa using h2,yQ⟩|succ i=>
   obtain⟨x,y,a1,a2,a3⟩:=h4 i so (by simpa using hi);exact⟨x,y,by simpa using a1,by simpa using a2,a3⟩
  cases h;cases h
structure aaE (S:Nat->Option aL)(O:kL)(wl aa:Nat)(so:aR)(s t:St):Prop where
 w8:∀u,u ∉ sF so->dK t.env u=dK s.env u
 ajv:∀b,so.op.bW≠some b->t.bx[b]?=s.bx[b]?
 WA:t.bx.length=s.bx.length
 aaF:so.op.qA S=false->t.st=s.st
 non:nt s.env so.guard=some false->dK t.env=kU (dK s.env) so.dst (.val .undef)/\t.bx=s.bx/\t.st=s.st
 yes:nt s.env so.guard=some true->∃e,ud O wl aa so.op (so.args.map (Ju s.env)) s.st s.bx=some (e,t.st,t.bx)/\dK t.env=kU (kj (dK s.env) (q7 so.args)) so.dst e
 wan:nt s.env so.guard≠none
theorem ajw{so:aR}{s t:St}(hO:Cq S O)(h:iX O wl aa so s=some t):aaE S O wl aa so s t:=by
 unfold iX at h;split at h;cases h;rename_i hw;cases h;refine⟨λu hu=>?_,λ_ _=>rfl,rfl,λ_=>rfl,λ_=>⟨kQ _ _ _,rfl,rfl⟩,λh=>(by rw[hw]at h;cases h),(by rw[hw];simp)⟩;simp only[sF,abw,agM,not_or]at hu;rw[kQ];simp only[kU];rw[U hu.1];rename_i hw;split at h;cases h;rename_i e st' gX ha;have nu:t=⟨yL (so.args.foldl nc s.env) so.dst e,gX,st'⟩->aaE S O wl aa so s t:=by
  intro ht;subst ht;have he:dK (yL (so.args.foldl nc s.env) so.dst e)=kU (kj (dK s.env) (q7 so.args)) so.dst e:=by rw[kQ,vI]
  have hb:(∀b,so.op.bW≠some b->gX[b]?=s.bx[b]?)/\gX.length=s.bx.length:=by
   obtain⟨zx,h1,h2,h3,h4,h5,h6⟩:=Kj (zx:=s.bx) rfl (λ_ _=>rfl) ha;exact⟨h6,h2⟩
  refine⟨λu hu=>?_,hb.1,hb.2,λhW=>Ob hO hW ha,λh=>(by rw[hw]at h;cases h),λ_=>⟨e,ha,he⟩,(by rw[hw];simp)⟩;simp only[sF,abw,agM,not_or]at hu;show dK (yL (so.args.foldl nc s.env) so.dst e) u=_;rw[he];simp only[kU,kj];rw[U hu.1,U hu.2]
 split at h;cases h;exact nu rfl;split at h;cases h;exact nu rfl;cases h
structure Text (S:Nat->Option aL)(O:kL)(wl aa:Nat)(m:List aR)(T:Nat->St):Prop where
 one:∀(i:Nat) so,m[i]?=some so->aaE S O wl aa so (T i) (T (i+1))
def Mo(m:List aR)(T:Nat->St)(k:Nat)(t:Nat):Option fL:=match m[k]? with
 |some so=>if t∈sF so then some (dK (T (k+1)).env t) else none
 |none=>none
def Mp(m:List aR)(T:Nat->St)(k:Nat)(b:Nat):Option (Option (List AV)):=match m[k]? with
 |some so=>if so.op.bW=some b then some ((T (k+1)).bx[b]?) else none
 |none=>none
def Mq(S:Nat->Option aL)(m:List aR)(T:Nat->St)(k:Nat)(_:Unit):Option ay:=match m[k]? with
 |some so=>if so.op.qA S=true then some (T (k+1)).st else none
 |none=>none
abbrev vT(m:List aR)(T:Nat->St)(D:Nat->Bool)(t:Nat):fL:=qo (dK (T 0).env) (Mo m T) D m.length t
abbrev vB(m:List aR)(T:Nat->St)(D:Nat->Bool)(b:Nat):Option (List AV):=qo (λb=>(T 0).bx[b]?) (Mp m T) D m.length b
abbrev vS(S:Nat->Option aL)(m:List aR)(T:Nat->St)(D:Nat->Bool):ay:=qo (λ_=>(T 0).st) (Mq S m T) D m.length ()
section
variable {m:List aR}{T:Nat->St}
theorem Sr(h:Text S O wl aa m T){j:Nat}(hj:j<=m.length)(t:Nat):vT m T (λk=>decide (k<j)) t=dK (T j).env t:=by
 refine BF (st:=λk t=>dK (T k).env t) (λ_=>rfl) (λk hk x=>?_) hj t;have hs:m[k]?=some m[k]:=aag hk;simp only[Mo,hs];split
 rfl
 rename_i hx;exact(h.one k _ hs).w8 x hx
theorem Ss(h:Text S O wl aa m T){j:Nat}(hj:j<=m.length)(b:Nat):vB m T (λk=>decide (k<j)) b=(T j).bx[b]?:=by
 refine BF (st:=λk b=>(T k).bx[b]?) (λ_=>rfl) (λk hk x=>?_) hj b;have hs:m[k]?=some m[k]:=aag hk;simp only[Mp,hs];split
 rfl
 rename_i hx;exact(h.one k _ hs).ajv x hx
theorem Su(h:Text S O wl aa m T){j:Nat}(hj:j<=m.length):vS S m T (λk=>decide (k<j))=(T j).st:=by
 refine BF (st:=λk (_:Unit)=>(T k).st) (λ_=>rfl) (λk hk x=>?_) hj ();have hs:m[k]?=some m[k]:=aag hk;simp only[Mq,hs];split
 rfl
 rename_i hx;exact(h.one k _ hs).aaF (by simpa using hx)
theorem Oe(D:Nat->Bool):∀(N:Nat),N<=m.length->∃p,p<=N/\qo (λ_=>(T 0).st) (Mq S m T) D N ()=(T p).st/\
  (p=0\/∃q so,p=q+1/\m[q]?=some so/\D q=true/\so.op.qA S=true)/\∀(j:Nat) so,p<=j->j<N->m[j]?=some so->so.op.qA S=true->D j=false
 |0,_=>⟨0,aau _,rfl,.inl rfl,λj so h1 h2=>by omega⟩
 |N+1,hN=>by
  obtain⟨p,h1,h2,h3,h4⟩:=Oe D N (by omega);have hs:m[N]?=some m[N]:=aag (by omega);by_cases hD:D N=true/\(m[N]).op.qA S=true;refine⟨N+1,aau _,?_,.inr ⟨N,m[N],rfl,hs,hD.1,hD.2⟩,λj so h5 h6=>by omega⟩;simp only[qo,hD.1,Mq,hs,aQ,hD.2,adB];refine⟨p,by omega,?_,h3,λj so h5 h6 h7 h8=>?_⟩;simp only[qo];cases hDN:D N with
  |false=>simpa using h2|true=>
   have:¬(m[N]).op.qA S=true:=λh=>hD ⟨hDN,h⟩;simp only[Mq,hs,aQ];rw[U this];simpa using h2
  by_cases hj:j=N;subst hj;rw[hs]at h7;cases h7;cases hDN:D j with
  |false=>rfl|true=>exact aU ⟨hDN,h8⟩ hD
  exact h4 j so h5 (by omega) h7 h8
theorem Ao(h:Text S O wl aa m T){p:Nat}:∀(d:Nat),p+d<=m.length->(∀(j:Nat) so,p<=j->j<p+d->m[j]?=some so->so.op.qA S=false)->(T (p+d)).st=(T p).st
 |0,_,_=>rfl|d+1,hd,hn=>by
  have hs:m[p+d]?=some m[p+d]:=aag (by omega);have e:=(h.one (p+d) _ hs).aaF (hn (p+d) _ (by omega) (by omega) hs);rw[show p+(d+1)=p+d+1 by omega,e];exact Ao h d (by omega) λj so h1 h2=>hn j so h1 (by omega)
theorem Of(S:Nat->Option aL)(m:List aR)(p:Nat):∀(d:Nat),p+d<=m.length->(∀(j:Nat) so,p<=j->j<p+d->m[j]?=some so->so.op.qA S=false)\/
  ∃(w:Nat) (so:aR),p<=w/\w<p+d/\m[w]?=some so/\so.op.qA S=true/\∀(j:Nat) so,p<=j->j<w->m[j]?=some so->so.op.qA S=false
 |0,_=>.inl λj so h1 h2=>by omega|d+1,hd=>by
  rcases Of S m p d (by omega) with h|⟨w,so,h1,h2,h3,h4,h5⟩;have hs:m[p+d]?=some m[p+d]:=aag (by omega);cases hw:(m[p+d]).op.qA S with
  |true=>exact .inr ⟨p+d,_,by omega,by omega,hs,hw,λj so a1 a2=>h j so a1 a2⟩|false=>
   refine .inl λj so a1 a2 a3=>?_;by_cases hj:j=p+d;subst hj;rw[hs]at a3;cases a3;exact hw;exact h j so a1 (by omega) a3
  exact .inr ⟨w,so,h1,by omega,h3,h4,h5⟩
end
end Ax
namespace Ax
open Go
variable {S:Nat->Option aL}{P:Program}{O:kL}{wl aa n:Nat}
variable {dO:Array Oper}{m:List aR}{cw:List (Nat×Nat)}{T:Nat->St}{xp:Option (Nat×Nat×ay)}
structure Spc (S:Nat->Option aL)(O:kL)(wl aa:Nat)(m:List aR)(cw:List (Nat×Nat))(T:Nat->St)(p q:Nat)(X:ay):Prop where
 lt:p<q
 ql:q<m.length
 mem:(100000+p,q)∈cw
 wp:∀a,m[p]?=some a->a.op.qA S=true/\a.guard=none
 wq:∀a,m[q]?=some a->a.op.qA S=true/\a.guard=none
 gap:∀(j:Nat) o,p<j->j<q->m[j]?=some o->o.op.qA S=false
 un:∀i j,i<100000->(100000+i,j)∈cw->i=p/\j=q
 cl:∀k w,(k,w)∈cw->k<100000->w=p\/w=q->(100000*(k+2)+p,q)∈cw
 x1:∀a,m[q]?=some a->∀e bx gX,ud O wl aa a.op (a.args.map (Ju (T q).env)) (T q).st bx=some (e,(T (q+1)).st,gX)->ud O wl aa a.op (a.args.map (Ju (T q).env)) (T p).st bx=some (e,X,gX)
 x2:∀a,m[p]?=some a->∀e bx gX,ud O wl aa a.op (a.args.map (Ju (T p).env)) (T p).st bx=some (e,(T (p+1)).st,gX)->ud O wl aa a.op (a.args.map (Ju (T p).env)) X bx=some (e,(T (q+1)).st,gX)
 rd:∀k,(100000*(k+2)+p,q)∈cw->∀o,m[k]?=some o->dH O wl aa o (T k) (T (k+1)) X=true
structure LN (S:Nat->Option aL)(P:Program)(O:kL)(wl aa n:Nat)(dO:Array Oper)(m:List aR)(cw:List (Nat×Nat))(T:Nat->St)(xp:Option (Nat×Nat×ay)):Prop where
 dr:Zs S P dO n m cw
 tx:Text S O wl aa m T
 pr:∀q w,q<100000->(q,w)∈cw->∀o,m[q]?=some o->dH O wl aa o (T q) (T (q+1)) (T w).st=true/\dH O wl aa o (T q) (T (q+1)) (T (w+1)).st=true
 sn:xp=none->∀i j,i<100000->(100000+i,j) ∉ cw
 sp:∀p q X,xp=some (p,q,X)->Spc S O wl aa m cw T p q X
 bo:∀(i:Nat) so j,m[i]?=some so->so.op.bV=some j->mF j (T 0).env=true
 pu:Cq S O
variable{j:Nat}{b:aR}
theorem Dp{i:Nat}{a:aR}(h:lP S cw i j a b=true):(∀t,t∈sF a->t ∉ zy b/\t ∉ sF b)/\(∀t,t∈sF b->t ∉ zy a):=by
 simp only[lP,aac,aaB,adu,aeC,decide_eq_false_iff_not]at h;exact⟨h.1.1.1.1.1.1,h.1.1.1.1.1.2⟩
theorem Io{i:Nat}{a:aR}(h:lP S cw i j a b=true):(∀x,a.op.bW=some x->b.op.bA≠some x)/\(∀x,b.op.bW=some x->a.op.bA≠some x):=by
 simp only[lP,aac]at h;obtain⟨⟨⟨⟨⟨_,h1⟩,h2⟩,_⟩,_⟩,_⟩:=h;refine⟨λx hx=>?_,λx hx=>?_⟩;rw[hx]at h1;simpa using h1;rw[hx]at h2;simpa using h2
theorem Ap{i:Nat}{a:aR}(h:lP S cw i j a b=true):(a.op.qA S=true/\b.op.qA S=true->(100000+i,j)∈cw)/\(a.op.Mn=true\/b.op.qA S=false\/a.op.qA S=true\/(i,j)∈cw)/\(b.op.Mn=true\/a.op.qA S=false\/b.op.qA S=true\/(j,i)∈cw):=by
 simp only[lP,aac,acJ,adu,Bool.and_eq_false_iff,aeC,aK]at h;obtain⟨⟨⟨_,h3⟩,h4⟩,h5⟩:=h;refine⟨λ⟨x,y⟩=>?_,by rcases h4 with ((h|h)|h)|h<;>simp[h],by rcases h5 with ((h|h)|h)|h<;>simp[h]⟩;rcases h3 with (h|h)|h;rw[x]at h;cases h;rw[y]at h;cases h;exact h
theorem Zu{op:gq}{x:Nat}(h:op.bW=some x):op.bA=some x:=by
 cases op<;>simp[gq.bW]at h<;>simp[gq.bA,h]
structure F8 (dO:Array Oper)(m:List aR)(D:Nat->Bool)(k:Nat)(o:Oper)(so:aR):Prop where
 down:So dO D
 ho:dO[k]?=some o
 hs:m[k]?=some so
 pre:∀p∈pe o,D p=true
 new:D k=false
theorem F8.lP(hR:LN S P O wl aa n dO m cw T xp){D:Nat->Bool}{k:Nat}{o:Oper}{so:aR}(h:F8 dO m D k o so)(hj:m[j]?=some b)(hd:D j≠decide (j<k)) :
  (j<k/\D j=false/\lP S cw j k b so=true)\/(k<j/\D j=true/\lP S cw k j so b=true):=by
 rcases aht j k with h1|h1|h1;have:D j=false:=by rw[bM h1]at hd;simpa using hd
 exact .inl ⟨h1,this,hR.dr.apA D h.down k o h.ho h.pre j b so h1 this hj h.hs⟩;subst h1;exact aU (h.new.trans (by simp)) hd;have:D j=true:=by rw[cu (by omega)]at hd;simpa using hd
 exact .inr ⟨h1,this,hR.dr.apB D h.down k j so b h1 h.new this h.hs hj⟩
section
variable {D:Nat->Bool}{k:Nat}{o:Oper}{so:aR}
theorem F8.lt(h:F8 dO m D k o so):k<m.length:=(aad.1 h.hs).1
theorem F8.WD(hR:LN S P O wl aa n dO m cw T xp)(h:F8 dO m D k o so){t:Nat}(ht:t∈sF so\/t∈zy so):vT m T D t=dK (T k).env t:=by
 rw[<-Sr hR.tx (ag1 h.lt)];refine nO λj hj hd=>?_;have hb:m[j]?=some m[j]:=aag hj;simp only[Mo,hb];rw[U];intro PY;rcases h.lP hR hb hd with⟨_,_,ha⟩|⟨_,_,ha⟩;have:=(Dp ha).1 t PY;rcases ht with ht|ht;exact this.2 ht;exact this.1 ht;rcases ht with ht|ht;exact((Dp ha).1 t ht).2 PY;exact(Dp ha).2 t PY ht
theorem F8.box(hR:LN S P O wl aa n dO m cw T xp)(h:F8 dO m D k o so){b:Nat}(hb:so.op.bA=some b):vB m T D b=(T k).bx[b]?:=by
 rw[<-Ss hR.tx (ag1 h.lt)];refine nO λj hj hd=>?_;have hm:m[j]?=some m[j]:=aag hj;simp only[Mp,hm];rw[U];intro hw;rcases h.lP hR hm hd with⟨_,_,ha⟩|⟨_,_,ha⟩;exact(Io ha).1 b hw hb;exact(Io ha).2 b hw hb
def vX(S:Nat->Option aL)(m:List aR)(T:Nat->St)(xp:Option (Nat×Nat×ay))(D:Nat->Bool):ay:=match xp with
 |some (p,q,X)=>if D q && !D p then X else vS S m T D
 |none=>vS S m T D
theorem sG{D:Nat->Bool}(h:∀p q X,xp=some (p,q,X)->D q=true->D p=true):vX S m T xp D=vS S m T D:=by
 unfold vX;cases xp with
 |none=>rfl|some x=>
  obtain⟨p,q,X⟩:=x;simp only;rw[U];intro hc;simp only[aac,adu]at hc;rw[h p q X rfl hc.1]at hc;cases hc.2
theorem Eu{D:Nat->Bool}{p q:Nat}{X:ay}(hx:xp=some (p,q,X))(h1:D q=true)(h2:D p=false):vX S m T xp D=X:=by
 unfold vX;rw[hx];simp[h1,h2]
theorem LN.two(hR:LN S P O wl aa n dO m cw T xp){i j:Nat}{a b:aR}(hi:m[i]?=some a)(h:lP S cw i j a b=true)(ha:a.op.qA S=true)(hb:b.op.qA S=true):∃X,xp=some (i,j,X):=by
 have hm:=(Ap h).1 ⟨ha,hb⟩;have rN:i<100000:=ahk (aad.1 hi).1 hR.dr.G8;cases hx:xp with
 |none=>exact aU hm (hR.sn hx i j rN)|some x=>
  obtain⟨p,q,X⟩:=x;obtain⟨rfl,rfl⟩:=(hR.sp p q X hx).un i j rN hm;exact⟨X,rfl⟩
theorem F8.Sv(hR:LN S P O wl aa n dO m cw T xp)(h:F8 dO m D k o so)(hw:so.op.qA S=true){j:Nat}{b:aR}(hj:m[j]?=some b)(hb:b.op.qA S=true)(hd:D j≠decide (j<k)) :
  (j<k/\D j=false/\∃X,xp=some (j,k,X))\/(k<j/\D j=true/\∃X,xp=some (k,j,X)):=by
 rcases h.lP hR hj hd with⟨h1,h2,h3⟩|⟨h1,h2,h3⟩;exact .inl ⟨h1,h2,hR.two hj h3 hb hw⟩;exact .inr ⟨h1,h2,hR.two h.hs h3 hw hb⟩
theorem LN.at(hR:LN S P O wl aa n dO m cw T xp){D:Nat->Bool}{t:Nat}(ht:t<=m.length)(h:∀(j:Nat) b,m[j]?=some b->b.op.qA S=true->D j=decide (j<t)):vS S m T D=(T t).st:=by
 rw[<-Su hR.tx ht];refine nO λj hj hd=>?_;have hm:m[j]?=some m[j]:=aag hj;simp only[Mq,hm];rw[U];intro hjw;exact hd (h j _ hm hjw)
def oM(D:Nat->Bool)(k:Nat):Nat->Bool:=λj=>if j=k then true else D j
theorem q8{j:Nat}(h:j≠k):oM D k j=D j:=by simp[oM,h]
theorem Aq:oM D k k=true:=by simp[oM]
theorem F8.Zv(hR:LN S P O wl aa n dO m cw T xp)(h:F8 dO m D k o so)(hw:so.op.qA S=true) :
  (vX S m T xp D=(T k).st/\vX S m T xp (oM D k)=(T (k+1)).st)\/
  (∃p X,xp=some (p,k,X)/\vX S m T xp D=(T p).st/\vX S m T xp (oM D k)=X)\/
  (∃q X,xp=some (k,q,X)/\vX S m T xp D=X/\vX S m T xp (oM D k)=(T (q+1)).st):=by
 have hk:=h.lt;have plain:(∀(j:Nat) b,m[j]?=some b->b.op.qA S=true->D j=decide (j<k))->vS S m T D=(T k).st/\vS S m T (oM D k)=(T (k+1)).st:=λko=>by
  refine⟨hR.at (ag1 hk) ko,hR.at hk λj b hj hb=>?_⟩;by_cases wF:j=k;subst wF;rw[Aq];simp;rw[q8 wF,ko j b hj hb];exact decide_eq_decide.2 ⟨λh=>by omega,λh=>by omega⟩
 cases hx:xp with
 |none=>
  refine .inl ?_;have:=plain λj b hj hb=>Classical.byContradiction λhd=>by
   rcases h.Sv hR hw hj hb hd with⟨_,_,X,e⟩|⟨_,_,X,e⟩<;>rw[hx]at e<;>cases e
  exact this
 |some x=>
  obtain⟨p,q,X⟩:=x;have sp:=hR.sp p q X hx;have JA:q<m.length:=sp.ql;have GH:p<m.length:=ahk sp.lt JA;have Wz:m[p]?=some m[p]:=aag GH;have hqm:m[q]?=some m[q]:=aag JA;have hpw:=(sp.wp _ Wz).1;have hqw:=(sp.wq _ hqm).1;have F3:=sp.lt;rw[<-hx];have other:∀(j:Nat) b,m[j]?=some b->b.op.qA S=true->D j≠decide (j<k)->(j=p/\k=q/\D p=false)\/(k=p/\j=q/\D q=true):=λj b hj hb hd=>by
   rcases h.Sv hR hw hj hb hd with⟨_,g,X',e⟩|⟨_,g,X',e⟩;rw[hx]at e;cases e;exact .inl ⟨rfl,rfl,g⟩;rw[hx]at e;cases e;exact .inr ⟨rfl,rfl,g⟩
  by_cases WG:k=q;subst WG;cases hDp:D p with
  |true=>
   refine .inl ?_;have ko:∀(j:Nat) b,m[j]?=some b->b.op.qA S=true->D j=decide (j<k):=λj b hj hb=>Classical.byContradiction λhd=>by
    rcases other j b hj hb hd with⟨_,_,g⟩|⟨g,_,_⟩;rw[hDp]at g;cases g;omega
   rw[sG λp' q' X' e hq=>?_,sG λp' q' X' e hq=>?_];exact plain ko;rw[hx]at e;cases e;rw[q8 (by omega)];exact hDp;rw[hx]at e;cases e;exact hDp
  |false=>
   refine .inr (.inl ⟨p,X,hx,?_,?_⟩);rw[sG λp' q' X' e hq=>by rw[hx]at e;cases e;rw[h.new]at hq;cases hq];refine hR.at (by omega) λj b hj hb=>?_;by_cases hjp:j=p;subst hjp;rw[hDp];simp;by_cases wF:j=k;subst wF;rw[h.new];symm;rw[decide_eq_false_iff_not];omega;by_cases Kk:p<j/\j<k;have:=sp.gap j b Kk.1 Kk.2 hj;rw[this]at hb;cases hb;have:D j=decide (j<k):=Classical.byContradiction λhd=>by
    rcases other j b hj hb hd with⟨g,_,_⟩|⟨g,_,_⟩;exact hjp g;omega
   rw[this];exact decide_eq_decide.2 ⟨λh=>by omega,λh=>by omega⟩;exact Eu hx Aq (by rw[q8 (by omega)];exact hDp)
  by_cases hkp:k=p;subst hkp;cases hDq:D q with
  |false=>
   refine .inl ?_;have ko:∀(j:Nat) b,m[j]?=some b->b.op.qA S=true->D j=decide (j<k):=λj b hj hb=>Classical.byContradiction λhd=>by
    rcases other j b hj hb hd with⟨_,g,_⟩|⟨_,_,g⟩;exact WG g;rw[hDq]at g;cases g
   rw[sG λp' q' X' e hq=>?_,sG λp' q' X' e hq=>?_];exact plain ko;rw[hx]at e;cases e;exact Aq;rw[hx]at e;cases e;rw[hDq]at hq;cases hq
  |true=>
   refine .inr (.inr ⟨q,X,hx,Eu hx hDq h.new,?_⟩);rw[sG λp' q' X' e hq=>by rw[hx]at e;cases e;exact Aq];refine hR.at sp.ql λj b hj hb=>?_;by_cases wF:j=k;subst wF;rw[Aq];symm;rw[decide_eq_true_iff];omega;rw[q8 wF];by_cases hjq:j=q;subst hjq;rw[hDq];simp;by_cases Kk:k<j/\j<q;have:=sp.gap j b Kk.1 Kk.2 hj;rw[this]at hb;cases hb;have:D j=decide (j<k):=Classical.byContradiction λhd=>by
    rcases other j b hj hb hd with⟨g,_,_⟩|⟨_,g,_⟩;exact wF g;exact hjq g
   rw[this];exact decide_eq_decide.2 ⟨λh=>by omega,λh=>by omega⟩
  refine .inl ?_;have ko:∀(j:Nat) b,m[j]?=some b->b.op.qA S=true->D j=decide (j<k):=λj b hj hb=>Classical.byContradiction λhd=>by
   rcases other j b hj hb hd with⟨_,g,_⟩|⟨g,_,_⟩;exact WG g;exact hkp g
  have afd:D q=true->D p=true:=λhq=>Classical.byContradiction λhp=>by
   have Ev:D p=false:=(by simpa using hp);have g1:=ko p _ Wz hpw;have g2:=ko q _ hqm hqw;rw[Ev]at g1;rw[hq]at g2;have g1:=of_decide_eq_false g1.symm;have g2:=of_decide_eq_true g2.symm;omega
  rw[sG λp' q' X' e hq=>?_,sG λp' q' X' e hq=>?_];exact plain ko;rw[hx]at e;cases e;rw[q8 (λe=>WG e.symm)]at hq;rw[q8 (λe=>hkp e.symm)];exact afd hq;rw[hx]at e;cases e;exact afd hq
theorem F8.still(h:F8 dO m D k o so)(hR:LN S P O wl aa n dO m cw T xp)(hw:so.op.qA S=false):vX S m T xp (oM D k)=vX S m T xp D:=by
 have e:vS S m T (oM D k)=vS S m T D:=by
  refine nO λj hj hd=>?_;by_cases wF:j=k;subst wF;simp[Mq,h.hs,hw];rw[q8 wF]at hd;exact aU rfl hd
 cases hx:xp with
 |none=>simp only[vX];exact e|some x=>
  obtain⟨p,q,X⟩:=x;have sp:=hR.sp p q X hx;have h1:p≠k:=λhe=>by subst he;have:=(sp.wp _ h.hs).1;rw[hw]at this;cases this
  have h2:q≠k:=λhe=>by subst he;have:=(sp.wq _ h.hs).1;rw[hw]at this;cases this
  simp only[vX,q8 h1,q8 h2,e]
theorem F8.ajz(hR:LN S P O wl aa n dO m cw T xp)(h:F8 dO m D k o so)(hn:so.op.Mn=false)(hw:so.op.qA S=false) :
  vX S m T xp D=(T k).st\/dH O wl aa so (T k) (T (k+1)) (vX S m T xp D)=true:=by
 have vJ:k<100000:=ahk h.lt hR.dr.G8;by_cases VI:∃p q X,xp=some (p,q,X)/\D q=true/\D p=false;obtain⟨p,q,X,hx,hq,hp⟩:=VI;right;have sp:=hR.sp p q X hx;rw[Eu hx hq hp];refine sp.rd k ?_ so h.hs;have JA:q<m.length:=sp.ql;have GH:p<m.length:=ahk sp.lt JA;have Wz:m[p]?=some m[p]:=aag GH;have hqm:m[q]?=some m[q]:=aag JA;rcases aht k q with WG|WG|WG;have ha:=hR.dr.apB D h.down k q so _ WG h.new hq h.hs hqm;rcases (Ap ha).2.1 with e|e|e|e;rw[hn]at e;cases e;rw[(sp.wq _ hqm).1]at e;cases e;rw[hw]at e;cases e;exact sp.cl k q e vJ (.inr rfl);subst WG;rw[h.new]at hq;cases hq;have ha:=hR.dr.apA D h.down k o h.ho h.pre p _ so (by have:=sp.lt;omega) hp Wz h.hs;rcases (Ap ha).2.2 with e|e|e|e;rw[hn]at e;cases e;rw[(sp.wp _ Wz).1]at e;cases e;rw[hw]at e;cases e;exact sp.cl k p e vJ (.inl rfl);rw[sG λp q X hx hq=>Classical.byContradiction λhp=>VI ⟨p,q,X,hx,hq,by simpa using hp⟩];obtain⟨p,h1,h2,h3,h4⟩:=Oe (S:=S) (m:=m) (T:=T) D m.length (aau _);have hv:vS S m T D=(T p).st:=h2;have hk:=h.lt;have pair:∀(w:Nat) b,m[w]?=some b->b.op.qA S=true->D w≠decide (w<k)->(k,w)∈cw:=by
  intro w b hb hbw hd;rcases h.lP hR hb hd with⟨_,_,ha⟩|⟨_,_,ha⟩;rcases (Ap ha).2.2 with e|e|e|e;rw[hn]at e;cases e;rw[hbw]at e;cases e;rw[hw]at e;cases e;exact e;rcases (Ap ha).2.1 with e|e|e|e;rw[hn]at e;cases e;rw[hbw]at e;cases e;rw[hw]at e;cases e;exact e
 by_cases hpk:p<=k;obtain⟨d,hd⟩:∃d,k=p+d:=⟨k-p,by omega⟩;rcases Of S m p d (by omega) with hg|⟨w,b,g1,g2,g3,g4,g5⟩;left;rw[hv,hd];exact(Ao hR.tx d (by omega) hg).symm;right;have hDw:=h4 w b g1 (by have:=(aad.1 g3).1;omega) g3 g4;have hp:=pair w b g3 g4 (by rw[hDw,bM (by omega)];simp);have e:(T p).st=(T w).st:=by
  obtain⟨d',Ew⟩:∃d,w=p+d:=⟨w-p,by omega⟩;rw[Ew];exact(Ao hR.tx d' (by have:=(aad.1 g3).1;omega) λj so a1 a2=>g5 j so a1 (by omega)).symm
 rw[hv,e];exact(hR.pr k w vJ hp so h.hs).1;right;rcases h3 with h3|⟨q,b,rfl,g1,g2,g3⟩;omega;have hp:=pair q b g1 g3 (by
  by_cases hq:q=k;subst hq;rw[h.new]at g2;cases g2;rw[g2,cu (by omega)];simp)
 rw[hv];exact(hR.pr k q vJ hp so h.hs).2
theorem F8.Zw(hR:LN S P O wl aa n dO m cw T xp)(h:F8 dO m D k o so)(t:Nat):vT m T (oM D k) t=if t∈sF so then dK (T (k+1)).env t else vT m T D t:=by
 have:=Kg (init:=dK (T 0).env) (zZ:=Mo m T) (D:=D) (D':=oM D k) (x:=t) (j:=k) h.lt h.new (λj=>rfl) λj h1 h2 h3 h4=>by
  have hb:m[j]?=some m[j]:=aag h2;have ha:=hR.dr.apB D h.down k j so _ h1 h.new h3 h.hs hb;simp only[Mo,h.hs]at h4;simp only[Mo,hb];rw[U];intro PY;by_cases ht:t∈sF so;exact((Dp ha).1 t ht).2 PY;rw[U ht]at h4;exact h4 rfl
 refine this.trans ?_;simp only[Mo,h.hs];split
 rfl
 rfl
theorem F8.Zx(hR:LN S P O wl aa n dO m cw T xp)(h:F8 dO m D k o so)(b:Nat):vB m T (oM D k) b=if so.op.bW=some b then (T (k+1)).bx[b]? else vB m T D b:=by
 have:=Kg (init:=λb=>(T 0).bx[b]?) (zZ:=Mp m T) (D:=D) (D':=oM D k) (x:=b) (j:=k) h.lt h.new (λj=>rfl) λj h1 h2 h3 h4=>by
  have hb:m[j]?=some m[j]:=aag h2;have ha:=hR.dr.apB D h.down k j so _ h1 h.new h3 h.hs hb;simp only[Mp,h.hs]at h4;simp only[Mp,hb];rw[U];intro PY;by_cases ht:so.op.bW=some b;exact(Io ha).1 b ht (Zu PY);rw[U ht]at h4;exact h4 rfl
 refine this.trans ?_;simp only[Mp,h.hs];split
 rfl
 rfl
end
end Ax
namespace Ax
open Go
variable {S:Nat->Option aL}{P:Program}{O:kL}{wl aa n:Nat}
variable {dO:Array Oper}{m:List aR}{cw:List (Nat×Nat)}{T:Nat->St}{xp:Option (Nat×Nat×ay)}
variable {w0 w w':World}{G0 G G':bD}{β iM:List nD}{A0:Nat->Nat}{a:Act}{bx:bG}
structure At (S:Nat->Option aL)(n:Nat)(m:List aR)(T:Nat->St)(xp:Option (Nat×Nat×ay))(w0:World)(G0:bD)(A0:Nat->Nat)(D:Nat->Bool)(w:World)(G:bD)(β:List nD)(a:Act)(bx:bG):Prop where
 fs:FS w G β a (vT m T D) bx (vX S m T xp D) n
 mv:Mv w0 G0 A0 w G (wE β a (vT m T D) bx (vX S m T xp D) G n)
 bb:∀b,bx[b]?=vB m T D b
 bl:bx.length=(T 0).bx.length
 fp:∀(i:Nat) so j,m[i]?=some so->so.op.bV=some j->D i=false->∀t,(vT m T D t).qa j=true
theorem Text.WA(h:Text S O wl aa m T):∀{j:Nat},j<=m.length->(T j).bx.length=(T 0).bx.length
 |0,_=>rfl|j+1,hj=>by
  have hs:m[j]?=some m[j]:=aag (by omega);rw[(h.one j _ hs).WA,h.WA (by omega)]
theorem Mr{e f:fL}(h:e.gi f=true):e=f:=by
 cases e<;>cases f<;>simp[fL.gi]at h
 rfl
 rw[HX _ _ h];obtain⟨rfl,rfl⟩:=h;rfl
theorem Ms{op:gq}(h:op.Mn=false):op.bA=none:=by
 cases op<;>simp[gq.Mn,gq.bA]at h ⊢
theorem PZ{η:Nat->fL}{j:Nat}(h:∀t,(η t).qa j=true)(s:Src):(Bp η s).qa j=true:=by
 cases s with
 |const a=>rfl|tmp t mv=>
  cases mv with
  |true=>exact h t|false=>
   have:=h t;simp only[Bp];cases he:η t with
   |none=>rfl|val v=>rfl|fp i k=>rw[he]at this;exact this
theorem BG{η Q8:Nat->fL}:∀{l:List Src},(∀t∈Wy l,η t=Q8 t)->l.map (Bp η)=l.map (Bp Q8)
 |[],_=>rfl|.tmp t mv::l,h=>by
  simp only[abn];rw[BG (l:=l) λu hu=>h u (List.mem_cons_of_mem _ hu)];have:=h t List.mem_cons_self;cases mv<;>simp only[Bp,this]
 |.const a::l,h=>by
  simp only[abn];rw[BG (l:=l) λu hu=>h u hu]
  rfl
variable{Q:Exit->Act->World->Prop}
theorem mH(hR:LN S P O wl aa n dO m cw T xp)(hO:kE S P O){D:Nat->Bool}{k:Nat}{o:Oper}{so:aR}(h:F8 dO m D k o so)(hA:At S n m T xp w0 G0 A0 D w G β a bx){K:Act->World->Prop}
  (hK:∀w' G' iM a' gX,At S n m T xp w0 G0 A0 (oM D k) w' G' iM a' gX->K a' w'):wpOp P dO Q k K a w:=by
 have one:=hR.tx.one k so h.hs;have hwe:vH (vT m T D) so.guard=nt (T k).env so.guard:=by
  rw[GZ];cases hg:so.guard with
  |none=>rfl|some x=>
   obtain⟨t,b⟩:=x;have:=h.WD hR (t:=t) (.inr (by simp[zy,hg]));simp only[vH,this]
 obtain⟨b,hb⟩:∃b,nt (T k).env so.guard=some b:=by
  cases hw:nt (T k).env so.guard with
  |none=>exact aU hw one.wan|some b=>exact⟨b,rfl⟩
 refine Oa (wl:=wl) (aa:=aa) h.ho (hR.dr.get k o so h.ho h.hs) hO hA.fs hA.mv.one (hwe.trans hb) (λhbf a' f1 f2=>?_) (λhbt=>?_);subst hbf;obtain⟨n1,n2,n3⟩:=one.non hb;have e1:kU (vT m T D) so.dst (.val .undef)=vT m T (oM D k):=by
  funext t;rw[h.Zw hR];split;rename_i ht;rw[n1];simp only[kU];split
  rfl
  exact h.WD hR (.inl ht);rename_i ht;simp only[sF,abw,agM,not_or]at ht;simp only[kU];rw[U ht.1]
 have e2:vX S m T xp (oM D k)=vX S m T xp D:=by
  by_cases hw:so.op.qA S=true;rcases h.Zv hR hw with⟨e1,e2⟩|⟨p,X,hx,_⟩|⟨q,X,hx,_⟩;rw[e1,e2,n3];have:=(hR.sp p k X hx).wq so h.hs;rw[this.2]at hb;cases hb;have:=(hR.sp k q X hx).wp so h.hs;rw[this.2]at hb;cases hb;exact h.still hR (by simpa using hw)
 rw[e1,<-e2]at f1;rw[e1,<-e2]at f2;refine hK w G β a' bx ⟨f1,?_,λx=>?_,hA.bl,λi si j hi hj hD t=>?_⟩;rw[e2]at f2 ⊢;exact hA.mv.trans f2;rw[h.Zx hR,hA.bb];split;rename_i hx;rw[n2];exact h.box hR (Zu hx)
 rfl
 have fy:i≠k/\D i=false:=by
  unfold oM at hD;by_cases Sw:i=k;rw[ah Sw]at hD;cases hD;rw[U Sw]at hD;exact⟨Sw,hD⟩
 rw[<-e1];simp only[kU];split
 rfl
 exact hA.fp i si j hi hj fy.2 t;subst hbt;obtain⟨e,ha,y2⟩:=one.yes hb;have yW:so.args.map (Ju (T k).env)=so.args.map (Bp (vT m T D)):=by
  rw[List.map_congr_left (g:=Bp (dK (T k).env)) λx _=>Dl _ x];exact(BG λt ht=>h.WD hR (.inr (by simp[zy,ht]))).symm
 rw[yW]at ha;have ha2:ud O wl aa so.op (so.args.map (Bp (vT m T D))) (vX S m T xp D) (T k).bx=some (e,vX S m T xp (oM D k),(T (k+1)).bx):=by
  by_cases hw:so.op.qA S=true;rcases h.Zv hR hw with⟨e1,e2⟩|⟨p,X,hx,e1,e2⟩|⟨q,X,hx,e1,e2⟩;rw[e1,e2];exact ha;rw[e1,e2,<-yW];rw[<-yW]at ha;exact(hR.sp p k X hx).x1 so h.hs _ _ _ ha;rw[e1,e2,<-yW];rw[<-yW]at ha;exact(hR.sp k q X hx).x2 so h.hs _ _ _ ha;have G9:so.op.qA S=false:=by simpa using hw
  rw[h.still hR G9];have ja:=one.aaF G9;by_cases hn:so.op.Mn=true;exact Ww hn _ ha;have hn':so.op.Mn=false:=by simpa using hn
  rcases h.ajz hR hn' G9 with hs|hs;rw[hs];rw[ja]at ha;exact ha;unfold dH at hs;rw[hb]at hs;simp only at hs;rw[yW]at hs;split at hs;rename_i e' st' gX Gs;have ajA:=Ob hR.pu G9 Gs;subst ajA;have Si:=Ms hn';obtain⟨rfl,_⟩:=Im Si (T k).bx Gs;obtain⟨hbx,_⟩:=Im Si (T k).bx ha;rw[hbx];split at hs;rename_i d hd;have:=Mr hs;rw[y2]at this;simp only[kU,hd,aQ]at this;subst this;exact Gs;cases hs;cases hs
 obtain⟨zx,b1,b2,b3,b4,b5,_⟩:=Kj (zx:=bx) (by rw[hA.bl,hR.tx.WA (ag1 h.lt)]) (λb hb=>by rw[hA.bb];exact h.box hR hb) ha2;refine⟨e,vX S m T xp (oM D k),zx,b1,λj hj t _ _=>hA.fp k so j h.hs hj h.new t,λw' G' iM a' f1 f2=>?_⟩;have e1:kU (kj (vT m T D) (q7 so.args)) so.dst e=vT m T (oM D k):=by
  funext t;rw[h.Zw hR];split;rename_i ht;rw[y2];simp only[kU,kj];split
  rfl
  split
  rfl
  exact h.WD hR (.inl ht);rename_i ht;simp only[sF,abw,agM,not_or]at ht;simp only[kU,kj];rw[U ht.1,U ht.2]
 rw[e1]at f1 f2;refine hK w' G' iM a' zx ⟨f1,hA.mv.trans f2,λx=>?_,b3.trans hA.bl,λi si j hi hj hD t=>?_⟩;rw[h.Zx hR];split;rename_i hx;exact b4 x hx;rename_i hx;rw[b5 x hx,hA.bb];have fy:i≠k/\D i=false:=by
  unfold oM at hD;by_cases Sw:i=k;rw[ah Sw]at hD;cases hD;rw[U Sw]at hD;exact⟨Sw,hD⟩
 rw[<-e1];simp only[kU,kj];split;refine aaD b1 (λx hx=>?_) λhn=>?_;obtain⟨s,_,rfl⟩:=ab9.1 hx;exact PZ (λt=>hA.fp i si j hi hj fy.2 t) s;rcases Nat.lt_or_gt_of_ne fy.1 with hl|hl;exact hR.dr.Zt i k si so j hl hi h.hs hj hn;exact hR.dr.Zt k i so si j hl h.hs hi hn hj;split
 rfl
 exact hA.fp i si j hi hj fy.2 t
def jE(gj:Array Bool):Nat->Bool:=λk=>gj.getD k false
theorem Sx(hR:LN S P O wl aa n dO m cw T xp)(hO:kE S P O)
  (hQ:∀w' G' iM a' gX D,(∀k,k<m.length->D k=true)->At S n m T xp w0 G0 A0 D w' G' iM a' gX->Q .normal a' w') :
  ∀(fuel:Nat) (gj:Array Bool) (a:Act) (w:World) (G:bD) (β:List nD) (bx:bG),gj.size=dO.size->So dO (jE gj)->iK (λk=>if jE gj k then 0 else 1) dO.size<=fuel->
   At S n m T xp w0 G0 A0 (jE gj) w G β a bx->wpAny P .any dO Q fuel gj a w:=by
 have P0:∀(gj:Array Bool) (a:Act) (w:World) (G:bD) (β:List nD) (bx:bG),gj.size=dO.size->At S n m T xp w0 G0 A0 (jE gj) w G β a bx->Region.ready .any dO gj=[]->Q .normal a w:=by
  intro gj a w G β bx dM hA hr;refine hQ w G β a bx _ (λk=>?_) hA;induction k using Nat.strongRecOn with
  |_ k ih=>
   intro hk;cases hd:jE gj k with
   |true=>rfl|false=>
    exfalso;rw[hR.dr.len]at hk;have ho:dO[k]?=some dO[k]:=(by simp[hk]);have:k∈Region.ready .any dO gj:=by
     rw[mem_ready];refine⟨?_,dO[k],ho,λe he hb=>?_⟩;have JW:k<gj.size:=(by omega);simp only[jE,ahs,JW,dif_pos]at hd ⊢;exact hd;have hp:e.on∈pe dO[k]:=by
      unfold pe;exact ab9.2 ⟨e,aiO.2 ⟨by simpa using he,hb⟩,rfl⟩
     have bC:=hR.dr.lt k dO[k] ho e.on hp;exact ih e.on bC (by rw[hR.dr.len];omega)
    rw[hr]at this;cases this
 intro fuel;induction fuel with
 |zero=>
  intro gj a w G β bx dM hD hf hA;have ko:∀k,k<dO.size->jE gj k=true:=λk hk=>by
   have:=xz (f:=λk=>if jE gj k then 0 else 1) hk;cases hd:jE gj k with
   |true=>rfl|false=>simp only[hd,aan,aS]at this;omega
  have hr:Region.ready .any dO gj=[]:=by
   rw[List.eq_nil_iff_forall_not_mem];intro j hj;rw[mem_ready]at hj;obtain⟨h1,o,ho,_⟩:=hj;have hk:=(abq.1 ho).1;have h2:=ko j hk;have JW:j<gj.size:=(by omega);simp only[jE,ahs,JW,dif_pos]at h1 h2;rw[h1]at h2;cases h2
  exact⟨hr,P0 gj a w G β bx dM hA hr⟩
 |succ fuel ih=>
  intro gj a w G β bx dM hD hf hA;refine⟨P0 gj a w G β bx dM hA,λi hi=>?_⟩;rw[mem_ready]at hi;obtain⟨h1,o,ho,h3⟩:=hi;have hk:=(abq.1 ho).1;have hkm:i<m.length:=by rw[hR.dr.len];exact hk
  have hs:m[i]?=some m[i]:=aag hkm;have JW:i<gj.size:=by omega
  have uM:jE gj i=false:=by
   simp only[jE,ahs,JW,dif_pos]at h1 ⊢;exact h1
  have aff:∀p∈pe o,jE gj p=true:=by
   intro p hp;unfold pe at hp;obtain⟨e,he,rfl⟩:=ab9.1 hp;obtain⟨he1,Mt⟩:=aiO.1 he;exact h3 e (by simpa using he1) Mt
  have ajB:F8 dO m (jE gj) i o m[i]:=⟨hD,ho,hs,aff,uM⟩;have Og:jE (gj.setIfInBounds i true)=oM (jE gj) i:=by
   funext j;by_cases hj:j=i;subst hj;simp[jE,oM,JW];simp[jE,oM,hj,show ¬i=j from λe=>hj e.symm]
  refine mH hR hO ajB hA λw' G' iM a' gX J9=>?_;rw[<-Og]at J9;refine ih _ a' w' G' iM gX (by simp[dM]) ?_ ?_ J9;intro j oj Q9 hj p hp;rw[Og]at hj ⊢;unfold oM at hj ⊢;by_cases hji:j=i;subst hji;rw[ho]at Q9;cases Q9;split
  rfl
  exact aff p hp;rw[U hji]at hj;split
  rfl
  exact hD j oj Q9 hj p hp;have h5:=uP (f:=λk=>if jE (gj.setIfInBounds i true) k then 0 else 1) (g:=λk=>if jE gj k then 0 else 1) (d:=i) hk λt ht=>by
   rw[Og];simp[oM,ht]
  have e1:jE (gj.setIfInBounds i true) i=true:=by rw[Og];simp[oM]
  simp only[e1,uM,aQ,aan,aS]at h5;omega
theorem Mu{wl aa:Nat}{st st':ay}{i v x y:Nat}{cs:List AV}(h:fo wl aa st (.ptr i v x y) cs=some st'):∃o,st'=st.set i o/\∀(qb:ay),qb[i]?=st[i]?->fo wl aa qb (.ptr i v x y) cs=some (qb.set i o):=by
 unfold fo at h;simp only at h;split at h;rename_i v' sz rows ja;split at h;rename_i hc;split at h;rename_i r hr;split at h;rename_i hl;simp only[bh]at h;refine⟨_,h.symm,λqb h2=>?_⟩;unfold fo;simp only[h2,ja,ah hc,hr,ah hl];cases h;cases h;cases h;cases h
theorem He{O:kL}{wl aa:Nat}{n:Nat}{st st':ay}{bx gX:bG}{i v x y:Nat}{u:AV}{e:fL}(h:ud O wl aa (.store n) [.val (.ptr i v x y),.val u] st bx=some (e,st',gX)) :
  ∃o,st'=st.set i o/\gX=bx/\∀(qb:ay) (zx:bG),qb[i]?=st[i]?->ud O wl aa (.store n) [.val (.ptr i v x y),.val u] qb zx=some (e,qb.set i o,zx):=by
 simp only[ud,bn]at h;split at h;rename_i hc;split at h;rename_i s1 hw;cases h;obtain⟨o,h1,h2⟩:=Mu hw;refine⟨o,h1,rfl,λqb zx he=>?_⟩;simp only[ud,bn,ah hc,h2 qb he];cases h;cases h
theorem Kl{id:Nat}{s e:St}(hm:Od S P dO n m cw=true)(hO:kE S P O)(hP:Cq S O)(_hs:FT w G β a s n)(h1:∀b,iO β a s G n b<=1)(he:iw O wl aa m cw s=some e)
  (aaG:∀d,FT { w with drawn:=d } G β a s n/\∀w' G' A',Mv { w with drawn:=d } G (iO β a s G n) w' G' A'->Mv w G (iO β a s G n) w' G' A')
  (hQ:∀w' G' iM a',FT w' G' iM a' e n->Mv w G (iO β a s G n) w' G' (iO iM a' e G' n)->Q .normal a' w'):(Code.region id dO true).wp P Q a w:=by
 have hd:=Sp hm;unfold iw at he;split at he;cases he;rename_i e' gQ hr;split at he;rename_i hc;cases he;simp only[aac,aaB]at hc;obtain⟨r1,r2,r3,r4⟩:=Cr hr
 let T:Nat->St:=λk=>(gQ[k]?).getD s
 have hT:∀(i:Nat) x,gQ[i]?=some x->T i=x:=λi x hx=>by simp only[T,hx,adB]
 have tx:Text S O wl aa m T:=⟨λi so hi=>by
  obtain⟨x,y,a1,a2,a3⟩:=r4 i so hi;rw[hT i x a1,hT (i+1) y a2];exact ajw hP a3⟩
 obtain⟨xp,hsn,lI⟩:∃xp:Option (Nat×Nat×ay),(xp=none->∀i j,i<100000->(100000+i,j) ∉ cw)/\∀p q X,xp=some (p,q,X)->Spc S O wl aa m cw T p q X:=by
  by_cases hex:∃p q,p<100000/\(100000+p,q)∈cw;obtain⟨p,q,hp,F3⟩:=hex;obtain⟨t1,⟨a,b,t2,t3,t4,t5,t6,t7⟩,t8,t9,t10⟩:=hd.xt p q hp F3;have JA:q<m.length:=(aad.1 t3).1;have hxs:=hc.1 _ F3;unfold iG at hxs;simp only[show ¬100000+p<100000 by omega,aS,show (100000+p) % 100000=p by omega]at hxs;cases hX:xSt wl aa m gQ p q with
  |none=>rw[hX]at hxs;cases hxs|some X=>
   refine⟨some (p,q,X),⟨λh=>(by cases h),λp' q' X' h=>?_⟩⟩;cases h;have Kk:(T q).st=(T (p+1)).st:=by
    obtain⟨d,Ew⟩:∃d,q=p+1+d:=⟨q-(p+1),by omega⟩;rw[Ew];exact Ao tx d (by omega) λj so a1 a2 a3=>t8 j so (by omega) (by omega) a3
   unfold xSt at hX;split at hX;rename_i a' s' b' t' g1 g2 g3 g4;rw[t2]at g1;cases g1;rw[t3]at g3;cases g3;have Ma:=hT p s' g2;have ht':=hT q t' g4;subst Ma ht';split at hX;rename_i ao av bo bv ma i vi xi yi ui mb j vj xj yj uj k1 k2 k3 k4;split at hX;cases hX;rename_i CT;split at hX;rename_i e0 X0 b0 CX;cases hX;have afg:ud O wl aa (.store mb) [.val (.ptr j vj xj yj),.val uj] (T p).st []=some (e0,X,b0):=CX;obtain⟨ob,o1,o2,o3⟩:=He afg;have ajC:=tx.one p a t2;obtain⟨ep,ap,_⟩:=ajC.yes (by rw[t6];rfl);rw[k1,k2]at ap;obtain⟨oa,p1,p2,p3⟩:=He ap;have ajD:=tx.one q b t3;obtain⟨eq,aq,_⟩:=ajD.yes (by rw[t7];rfl);rw[k3,k4]at aq;have afh:(T q).st[j]?=(T p).st[j]?:=(by rw[Kk,p1,aap CT]);have q1:(T (q+1)).st=(T q).st.set j ob:=by
    have:=o3 (T q).st (T q).bx afh;rw[this]at aq;simp only[bh,cF]at aq;exact aq.2.1.symm
   refine⟨t1,JA,F3,λa' Gs=>?_,λa' Gs=>?_,t8,t10,t9,λa' Gs e bx gX hh=>?_,λa' Gs e bx gX hh=>?_,λk hk o ho=>?_⟩;rw[t2]at Gs;cases Gs;exact⟨by rw[k1];rfl,t6⟩;rw[t3]at Gs;cases Gs;exact⟨by rw[k3];rfl,t7⟩;rw[t3]at Gs;cases Gs;rw[k3,k4]at hh ⊢;rw[o3 (T q).st bx afh]at hh;simp only[bh,cF]at hh;rw[o3 (T p).st bx rfl,hh.1,hh.2.2,o1];rw[t2]at Gs;cases Gs;rw[k1,k2]at hh ⊢;rw[p3 (T p).st bx rfl]at hh;simp only[bh,cF]at hh;rw[p3 X bx (by rw[o1,aap (λe=>CT e.symm)]),hh.1,hh.2.2,q1,Kk,p1,o1,List.set_comm _ _ CT];have:=hc.1 _ hk;unfold iG at this;simp only[show ¬100000*(k+2)+p<100000 by omega,aS,show (100000*(k+2)+p) % 100000=p by omega,show ¬100000*(k+2)+p<200000 by omega,show (100000*(k+2)+p) / 100000-2=k by omega]at this;have hX2:xSt wl aa m gQ p q=some X:=by
    unfold xSt;simp only[t2,t3,g2,g4,k1,k2,k3,k4,U CT,CX]
   rw[hX2]at this;simp only at this;split at this;rename_i o' x y g5 g6 g7;rw[ho]at g5;cases g5;rw[hT k x g6,hT (k+1) y g7];exact this;cases this;cases hX;cases hX;cases hX
  exact⟨none,⟨λ_ i j hi CT=>hex ⟨i,j,hi,CT⟩,λ_ _ _ h=>(by cases h)⟩⟩
 have hR:LN S P O wl aa n dO m cw T xp:=by
  refine⟨hd,tx,λq w JA hqw o ho=>?_,hsn,lI,λi so j hi hj=>?_,hP⟩;have:=hc.1 (q,w) hqw;unfold iG at this;simp only[JA,aQ]at this;split at this;rename_i o' x y x' y' g1 g2 g3 g4 g5;rw[ho]at g1;cases g1;rw[hT q x g2,hT (q+1) y g3,hT w x' g4,hT (w+1) y' g5];simpa only [aac] using this;cases this;have:=hc.2 so (dR hi);unfold bO at this;rw[hj]at this;rw[hT 0 s r2];exact this
 have h0:T 0=s:=hT 0 s r2;have Sy:jE (agH dO.size false)=λ_=>false:=by
  funext k;simp only[jE,ahs,ah0,Array.getInternal_eq_getElem,Array.getElem_replicate];split<;>rfl
 have Sz:∀{K V:Type} (init:K->V) (zZ:Nat->K->Option V) (N:Nat) (x:K),qo init zZ (λ_=>false) N x=init x:=by
  intro K V init zZ N x;induction N with
  |zero=>rfl|succ N ih=>simp only[qo,ih];rfl
 obtain⟨d1,d2⟩:=aaG (w.drawn+1);refine wp_region_any hd.fol (Sx (w0:={ w with drawn:=w.drawn+1 }) (G0:=G) (A0:=iO β a s G n) hR hO (λw' G' iM a' gX D hD hA=>?_) dO.size _ a _ G β s.bx (by simp) ?_ ?_ ?_);have ko:∀{K V:Type} (init:K->V) (zZ:Nat->K->Option V) (x:K),qo init zZ D m.length x=qo init zZ (λk=>decide (k<m.length)) m.length x:=λinit zZ x=>nO λk hk fy=>by
  rw[hD k hk,bM hk]at fy;exact aU rfl fy
 have hTe:T m.length=e:=hT _ e r3;have e1:vT m T D=dK e.env:=by
  funext t;rw[<-hTe,<-Sr tx (aau _)];exact ko _ _ t
 have e2:vX S m T xp D=e.st:=by
  rw[sG λp q X hx _=>hD p (by have:=lI p q X hx;have:=this.lt;have:=(lI p q X hx).ql;omega)];rw[<-hTe,<-Su tx (aau _)];exact ko _ _ ()
 have e3:gX=e.bx:=by
  apply aeE;intro b;rw[hA.bb b,<-hTe,<-Ss tx (aau _)];exact ko _ _ b
 have f1:=hA.fs;have f2:=hA.mv;rw[e1,e2,e3]at f1 f2;exact hQ w' G' iM a' f1 (d2 _ _ _ f2);intro j o _ hj;rw[Sy]at hj;cases hj;rw[Sy];have:∀N,iK (λ_=>1) N=N:=λN=>by induction N with|zero=>rfl|succ N ih=>simp[iK,ih]
 simp[this];rw[Sy];have e1:vT m T (λ_=>false)=dK s.env:=by funext t;rw[<-h0];exact Sz _ _ _ t
 have e2:vX S m T xp (λ_=>false)=s.st:=by rw[sG λp q X _ h=>by cases h];rw[<-h0];exact Sz _ _ _ ()
 refine⟨?_,?_,λb=>?_,by rw[h0],λi so j hi hj _ t=>?_⟩;rw[e1,e2];exact d1;rw[e1,e2];exact Mv.refl h1;rw[<-h0];exact(Sz _ _ _ b).symm;rw[e1,<-h0];exact Eg (hR.bo i so j hi hj) t;cases he
end Ax
namespace Ax
open Go
variable {S:Nat->Option aL}{P:Program}{O:kL}{wl aa n:Nat}
variable {w w':World}{G G':bD}{β iM:List nD}{a:Act}{s s':St}
def EA:Code->Code
 |.scope c=>EA c|c=>c
def Ip(S:Nat->Option aL)(P:Program)(n:Nat)(dO:Array Oper)(draw:Bool)(m:List aR):Option (List (Nat×Nat))->Bool
 |none=>!draw&&sE S P dO n dO.toList m|some cw=>draw&&Od S P dO n m cw
def j4(S:Nat->Option aL)(P:Program)(n:Nat):bN->Code->Bool
 |.skip,c=>match EA c with|.skip=>true|_=>false
 |.region m draw _,c=>match EA c with
  |.region _ dO d=>Ip S P n dO d m draw|_=>false
 |.seq x y,c=>match x with
  |.Pn _=>j4 S P n y c|.DJ _ _=>j4 S P n y c|.uE _ _=>j4 S P n y c|x=>match EA c with
   |.seq a b=>j4 S P n x a&&j4 S P n y b|_=>false
 |.cond t _ x _ y,c=>match EA c with
  |.cond u a b=>LY u t&&j4 S P n x a&&j4 S P n y b|_=>false
 |.block i x,c=>match EA c with
  |.block j a=>i==j&&j4 S P n x a|_=>false
 |.loop x,c=>match EA c with
  |.loop a=>j4 S P n x a|_=>false
 |.exit i,c=>match EA c with
  |.exit j=>i==j|_=>false
 |.ret,c=>match EA c with
  |.ret=>true|_=>false
 |.Pn _,_=>false|.DJ _ _,_=>false|.uE _ _,_=>false
def EB:Ex->Exit
 |.normal=>.normal|.exit id=>.exit id|.ret _=>.ret
def Pst(n:Nat)(rs:List iW)(A:Nat->Nat)(w:World)(G:bD)(x:Ex)(s':St)(w':World)(G':bD)(iM:List nD)(a':Act):Prop:=
 ∃sr,FT w' G' iM a' sr n/\Mv w G A w' G' (iO iM a' sr G' n)/\(match x with|.ret v=>yM sr rs=some v/\s'.st=sr.st|_=>s'=sr)
theorem Pst.trans{rs:List iW}{A A1:Nat->Nat}{w1:World}{G1:bD}{x:Ex}{a':Act}(h:Mv w G A w1 G1 A1)(k:Pst n rs A1 w1 G1 x s' w' G' iM a'):Pst n rs A w G x s' w' G' iM a':=by
 obtain⟨sr,h1,h2,h3⟩:=k;exact⟨sr,h1,h.trans h2,h3⟩
def Iq(P:Program)(c:Code)(Q:Exit->Act->World->Prop)(a:Act)(w:World):Prop:=
 ∀(b:Frame) (k:List Item) (cs:List Frame),∃e a' w',Q e a' w'/\Arrives P (lone (b.at a (.code c::.inLoop c::k)) cs w) b k cs e a' w'
variable{c:Code}{Q:Exit->Act->World->Prop}{v v':AV}{st':ay}{aF:List AV}{u:Value}
theorem Km{w:World}(h:c.wp P (Exit.then (Iq P c Q) Q) a w):Iq P c Q a w:=by
 intro b k cs;obtain⟨e,SA,SB,hq,Kn⟩:=h b (.inLoop c::k) cs;cases e with
 |normal=>
  obtain⟨ajF,ajG,ajH,afj,WH⟩:=hq b k cs;exact⟨ajF,ajG,ajH,afj,.of_steps (Steps.trans Kn (.one step_inLoop)) WH⟩
 |exit id=>exact⟨_,SA,SB,hq,.pass (x:=.inLoop c) rfl (λ_ _=>.inl (by simp)) Kn⟩|goto l=>exact⟨_,SA,SB,hq,.pass (x:=.inLoop c) rfl (λ_ _=>.inl (by simp)) Kn⟩|ret=>exact⟨_,SA,SB,hq,.pass (x:=.inLoop c) rfl (λ_ _=>.inl (by simp)) Kn⟩|panic ch=>exact⟨_,SA,SB,hq,.pass (x:=.inLoop c) rfl (λ_ _=>.inl (by simp)) Kn⟩|outgrown=>exact⟨_,SA,SB,hq,.pass (x:=.inLoop c) rfl (λ_ _=>.inl (by simp)) Kn⟩
theorem Ko{w:World}(h:Iq P c Q a w):(Code.loop c).wp P Q a w:=by
 intro b k cs;obtain⟨e,a',w',hq,Kn⟩:=h b k cs;exact⟨e,a',w',hq,.of_steps (.one step_loop) Kn⟩
theorem q9{Q:Exit->Act->World->Prop}{w:World}:∀{c:Code},(EA c).wp P (Exit.noGoto Q) a w->c.wp P Q a w
 |.scope c,h=>wp_scope_straight (q9 (c:=c) (wp_mono h λe _ _ he=>by cases e<;>exact he))|.skip,h|.region ..,h|.seq ..,h|.cond ..,h|.block ..,h|.loop ..,h|.rangeFunc ..,h|.exit _,h|.label _,h|.goto _,h|.refuse _,h|.ret,h=>wp_mono h λe _ _ he=>by
  cases e<;>first|exact he|exact he.elim
def yg(S:Nat->Option aL)(P:Program)(O:kL):Prop:=
 ∀wl aa rs c s x s',O.loop wl aa rs c s=some (x,s')->∀code n,j4 S P n c code=true->∀(w:World) (G:bD) (β:List nD) (a:Act),FT w G β a s n->(∀b,iO β a s G n b<=1)->
  ∀(Q:Exit->Act->World->Prop),(∀w' G' iM a',Pst n rs (iO β a s G n) w G x s' w' G' iM a'->Q (EB x) a' w')->Iq P code Q a w
theorem FT.clear(h:FT w G β a s n)(l:List Nat):FT w G β a { s with env:=jA l s.env } n/\∀b,iO β a { s with env:=jA l s.env } G n b<=iO β a s G n b:=
 FS.Sj h λt=>by
  simp only[vE];split;exact .inr rfl;exact .inl rfl
theorem FT.afk(h:FT w G β a s n)(c:Src)(l:List Nat):FT w G β a { s with env:=jA l (nc s.env c) } n/\∀b,iO β a { s with env:=jA l (nc s.env c) } G n b<=iO β a s G n b:=
 FS.Sj h λt=>by
  have h1:=uN t [c] s.env;simp only[List.foldl_cons,List.foldl_nil]at h1;simp only[vE,h1];split;exact .inr rfl;split;exact .inr rfl;exact .inl rfl
theorem Mv.qG{A A' A'':Nat->Nat}(h:Mv w G A w' G' A')(hl:∀b,A'' b<=A' b):Mv w G A w' G' A'':=
 h.Sc (λ_=>aau _) (λb hb=>ac9 (hl b) (h.gT b hb)) λb=>ac9 (hl b) (h.one b)
theorem yh(w:World)(G:bD)(d:Nat):tG w G { w with drawn:=d } G:=⟨λ_ _ hi=>⟨rfl,hi⟩,λ_ loc h=>⟨loc,h,aau _,λ_=>rfl⟩⟩
theorem FT.drawn(h:FT w G β a s n)(d:Nat):FT { w with drawn:=d } G β a s n where
 Ka:=h.Ka
 size:=h.size
 vm:=λt=>(h.vm t).jT (yh w G d) λ_ _=>⟨rfl,rfl⟩
 lt:=h.lt
 inv:=xd h.inv (yh w G d) rfl (λ_ _=>⟨rfl,rfl⟩) h.inv.nE
 box:=nN h.box (yh w G d) λ_ _=>⟨rfl,rfl⟩
theorem Mv.drawn{A A':Nat->Nat}{d:Nat}(h:Mv { w with drawn:=d } G A w' G' A'):Mv w G A w' G' A':=
 ⟨(yh w G d).trans h.jT,h.gT,h.one,λb hb h0=>h.w8 b hb h0,h.size,h.os,h.out⟩
theorem aaH{t:Nat}(hs:FT w G β a s n)(h1:∀b,iO β a s G n b<=1)(hv:dK s.env t=.val v)(hf:iy wl v s.st=some (v',st')) :
  ∃G',FT w G' β a ⟨wK s.env t (.val v'),s.bx,st'⟩ n/\Mv w G (iO β a s G n) w G' (iO β a ⟨wK s.env t (.val v'),s.bx,st'⟩ G' n):=by
 have htn:t<n:=by
  rcases agi t n with h|h;exact h;rw[hs.lt t h]at hv;cases hv
 have Gr:=hs.vm t;rw[hv]at Gr;obtain⟨G',hF,hr,iI⟩:=zv (w:=w) hs.inv (λb=>by have:=h1 b;unfold iO wE at this;omega) Gr hf;have L5:∀b,dg b (.val v') (mm a t)=0:=λb=>fV b _ _ iI;have ja:∀b,0<dg b (dK s.env t) (mm a t)\/True:=λ_=>.inr trivial;have En:∀b,iK (λu=>dg b (dK (wK s.env t (.val v')) u) (mm a u)) n<=iK (λu=>dg b (dK s.env u) (mm a u)) n:=λb=>Dj λu _=>by
  rw[xy];by_cases hu:u=t;subst hu;rw[ah rfl,L5 b];omega;rw[U hu];exact aau _
 have EC:∀b,0<iK (λu=>dg b (dK s.env u) (mm a u)) n+ir b β s.bx->fG w G w G' b:=λb hb=>⟨hF.w8 b (by have:=h1 b;unfold iO wE at this;omega),rfl⟩;have hle:∀b,iO β a ⟨wK s.env t (.val v'),s.bx,st'⟩ G' n b<=iO β a s G n b:=λb=>by
  have e1:=En b;have e2:=hF.gT b;show iK (λu=>dg b (dK (wK s.env t (.val v')) u) (mm a u)) n+ir b β s.bx+cR b G'.ls st'<=iK (λu=>dg b (dK s.env u) (mm a u)) n+ir b β s.bx+cR b G.ls s.st;omega
 refine⟨G',⟨hs.Ka,hs.size,λu=>?_,λu hu=>?_,hF.inv,nN (bx:=s.bx) hs.box hF.jT λb hb=>EC b (by omega)⟩,⟨hF.jT,λb _=>hle b,λb=>ac9 (hle b) (h1 b),λb hb h0=>?_,aau _,rfl,rfl⟩⟩;show lf w G' β (dK (wK s.env t (.val v')) u) (mm a u);rw[xy];by_cases hu:u=t;subst hu;rw[ah rfl];exact hr;rw[U hu];refine(hs.vm u).jT hF.jT λb hb=>EC b ?_;have JV:u<n:=by
  rcases agi u n with h|h;exact h;rw[hs.lt u h]at hb;simp[dg]at hb
 have:=xz (f:=λu=>dg b (dK s.env u) (mm a u)) JV;omega;show dK (wK s.env t (.val v')) u=.none;rw[xy,U (by omega)];exact hs.lt u hu;have:cR b G.ls s.st=0:=by unfold iO wE at h0;omega
 exact⟨hF.w8 b this,rfl⟩
theorem Ar{wl:Nat}{st:ay}(h:iy wl v st=some (v',st')):v'.dj=true:=by
 unfold iy at h;split at h;split at h;split at h;split at h;cases h;rfl;cases h;cases h;cases h;cases h;rfl;cases h
theorem Ae.put{g:nD}{k:Nat}(h:Ae w G aF g)(hk:k<aF.length)(hu:g.vals[k]?=some u)(hr:bF w G v u)(hc:v.dj=true):Ae w G (au aF k [v]) g:=by
 have hv:cU w G [v] [u]:=⟨rfl,λi c x h1 h2=>by
  cases i with
  |zero=>simp at h1 h2;subst h1;subst h2;exact hr|succ i=>simp at h1⟩
 have hs:au g.vals k [u]=g.vals:=by
  have oN:k<g.vals.length:=(aad.1 hu).1;have e:=vC g.vals k 1 (by omega);have e2:(g.vals.drop k).take 1=[u]:=by
   rw[aaz oN];simp[(aad.1 hu).2]
  rw[e2]at e;exact e
 refine⟨?_,kC h.Dd (by simp[AV.bw,hc]) (by simp;omega),?_⟩;have:=h.vm.au hv (n:=k) (by simp;omega)
 rwa [hs]at this
 rcases h.qD with⟨h1,h2⟩|⟨b,c,e,h1,h2,h3,h4,h5⟩;subst h2;simp at hk;exact .inr ⟨b,c,e,h1,h2,by rw[fh];exact h3,h4,h5⟩
theorem WI{j k:Nat}(hs:FT w G β a s n)(h1:∀b,iO β a s G n b<=1)(hr:s.bx[j]?=some aF)(hv:aF[k]?=some v)(hf:iy wl v s.st=some (v',st')) :
  ∃G',FT w G' β a ⟨s.env,s.bx.set j (au aF k [v']),st'⟩ n/\Mv w G (iO β a s G n) w G' (iO β a ⟨s.env,s.bx.set j (au aF k [v']),st'⟩ G' n):=by
 have z6:=(aad.1 hr).1;have fR:=(aad.1 hv).1;obtain⟨g,hg⟩:∃g,β[j]?=some g:=⟨_,aag (by rw[hs.box.len];exact z6)⟩;have hbx:=hs.box.box j aF g hr hg;obtain⟨u,hu⟩:∃u,g.vals[k]?=some u:=⟨_,aag (by rw[<-hbx.vm.1];exact fR)⟩;obtain⟨G',hF,fm,iI⟩:=zv (w:=w) hs.inv (λb=>by have:=h1 b;unfold iO wE at this;omega) (hbx.vm.2 k v u hv hu) hf;have jC:=Ar hf;have EC:∀b,0<iK (λu=>dg b (dK s.env u) (mm a u)) n+ir b β s.bx->fG w G w G' b:=λb hb=>⟨hF.w8 b (by have:=h1 b;unfold iO wE at this;omega),rfl⟩;have hbc:∀b,ir b β (s.bx.set j (au aF k [v']))<=ir b β s.bx:=λb=>by
  have e1:=Ad b β s.bx j g aF g (au aF k [v']) hg hr;have e2:β.set j g=β:=by
   obtain⟨hj,e⟩:=aad.1 hg;rw[<-e];exact List.set_getElem_self _
  have Ma:au g.vals k [u]=g.vals:=by
   have oN:k<g.vals.length:=(aad.1 hu).1;have e:=vC g.vals k 1 (by omega);have e2:(g.vals.drop k).take 1=[u]:=by
    rw[aaz oN];simp[(aad.1 hu).2]
   rw[e2]at e;exact e
  have e3:=sj b aF [v'] g.vals [u] k hbx.vm.1 rfl (by simp;omega);rw[Ma]at e3;have e4:cL b [v'] [u]=0:=by simp only[cL,fV b v' u iI]
  rw[e2]at e1;omega
 have hle:∀b,iO β a ⟨s.env,s.bx.set j (au aF k [v']),st'⟩ G' n b<=iO β a s G n b:=λb=>by
  have e1:=hbc b;have e2:=hF.gT b;show iK (λu=>dg b (dK s.env u) (mm a u)) n+ir b β (s.bx.set j (au aF k [v']))+cR b G'.ls st'<=iK (λu=>dg b (dK s.env u) (mm a u)) n+ir b β s.bx+cR b G.ls s.st;omega
 have hB:=nN (bx:=s.bx) hs.box hF.jT λb hb=>EC b (by omega);refine⟨G',⟨hs.Ka,hs.size,λu=>?_,hs.lt,hF.inv,⟨by simpa using hB.len,λi r x e1 e2=>?_⟩⟩,⟨hF.jT,λb _=>hle b,λb=>ac9 (hle b) (h1 b),λb hb h0=>?_,aau _,rfl,rfl⟩⟩;refine(hs.vm u).jT hF.jT λb hb=>EC b ?_;have JV:u<n:=by
  rcases agi u n with h|h;exact h;rw[hs.lt u h]at hb;simp[dg]at hb
 have:=xz (f:=λu=>dg b (dK s.env u) (mm a u)) JV;omega;simp only[abp]at e1;by_cases CT:j=i;subst CT;rw[ah rfl,ah z6]at e1;cases e1;rw[hg]at e2;cases e2;exact(hB.box j aF g hr hg).put fR hu fm jC;rw[U CT]at e1;exact hB.box i r x e1 e2;have:cR b G.ls s.st=0:=by unfold iO wE at h0;omega
 exact⟨hF.w8 b this,rfl⟩
theorem SD{wl aa:Nat}{st qQ qb:ay}{id cQ i k off:Nat}(hI:j8 w G st)(hX:∀b,cR b G.ls st<=1)(hp:bF w G (.ptr id cQ i k) u)
  (hr:iT st (.ptr id cQ i (k+off)) 1=some [v])(hf:iy wl v st=some (v',qQ))(hw:fo wl aa qQ (.ptr id cQ i (k+off)) [v']=some qb):∃G',Jx w G st G' qb:=by
 unfold iT at hr;simp only at hr;split at hr;rename_i ve sz rows ja;split at hr;rename_i hve;subst hve;split at hr;rename_i r dJ;obtain⟨loc,b,o,c,e,xs,hl,Ch,Bo,jb,Mb,uJ,gY,ig,gw,hle,hlen,jl,Mc,mT,eY⟩:=Ag hI hp ja dJ;obtain⟨lz,Mf,F6⟩:=sq hr;have HY:k+off<r.length:=by omega
 have hv:r[k+off]?=some v:=by
  have:((r.drop (k+off)).take 1)[0]?=some v:=by rw[<-lz];rfl
  rw[acv,ah (by omega),adw]at this;exact this
 obtain⟨x,hx⟩:∃x,xs[k+off]?=some x:=⟨_,aag (by rw[<-mT.1];exact HY)⟩;obtain⟨G',hF,fm,iI⟩:=zv hI hX (mT.2 _ _ _ hv hx) hf;have jC:=Ar hf;have Ev:bF w G' (.ptr id ve i k) u:=hp.BB hF.jT rfl;unfold fo at hw;simp only at hw;split at hw;rename_i ve1 sz1 SE CW;split at hw;rename_i afm;simp only[aac,aK]at afm;obtain⟨rfl,_⟩:=afm;split at hw;rename_i r1 Oh;split at hw;rename_i dL;cases hw;obtain⟨WJ,b1,o1,c1,e1,VJ,Gm,ajJ,ajK,Kp,aaI,ajL,afn,anb,aaJ,ajM,afo,afp,WK,Sb,Oi⟩:=Ag hF.inv Ev CW Oh;have hk1:k+off<r1.length:=by simp only[List.length_singleton]at dL;omega
 obtain⟨x1,hx1⟩:∃x,VJ[k+off]?=some x:=⟨_,aag (by rw[<-Sb.1];exact hk1)⟩;rw[Mb]at aaI;simp only[Value.pointer.injEq,bh,Addr.mk.injEq,and_true]at aaI;obtain⟨hb,ho⟩:=aaI;have hxx:x1=x:=by
  have a1:=eY i xs (k+off) x Mc hx;have a2:=Oi i VJ (k+off) x1 WK hx1;rw[hb,show o+(i*sz+(k+off))=o1+(i*sz1+(k+off)) by omega,a2]at a1;cases a1;rfl
 subst hxx;have hs:au VJ (k+off) [x1]=VJ:=by
  have e:=vC VJ (k+off) 1 (by have:=(aad.1 hx1).1;omega);have e2:(VJ.drop (k+off)).take 1=[x1]:=by
   rw[aaz (aad.1 hx1).1];simp[(aad.1 hx1).2]
  rw[e2]at e;exact e
 have afq:cU w G' (au r1 (k+off) [v']) VJ:=by
  have Gj:cU w G' [v'] [x1]:=⟨rfl,λi c x h1 h2=>by
   cases i with
   |zero=>simp at h1 h2;subst h1;subst h2;exact fm|succ i=>simp at h1⟩
  have:=Sb.au Gj (n:=k+off) (by simp;omega)
  rwa [hs]at this
 have uM:qE w G' (.rows ve1 sz1 (SE.set i (au r1 (k+off) [v']))) WJ:=by
  refine⟨ajJ,ajK,cV.2 λr' yP=>?_,λr' yP=>?_,by simp[Kp.len],Kp.size,by simp[Kp.uf],λi' r' LM h1 h2=>?_,.inr ⟨b1,o1,c1,e1,ajL,afn,aaJ,ajM,by simpa using afo,afp,Oi⟩⟩;rcases acG yP with h|h;exact cV.1 Kp.GF r' h;rw[h,fh];exact cV.1 Kp.GF r1 (dR Oh);rcases acG yP with h|h;exact Kp.Dd r' h;rw[h];exact kC (Kp.Dd r1 (dR Oh)) (by simp[AV.bw,jC]) (by simpa using dL);rw[abp]at h1;by_cases Md:i=i';subst Md;rw[ah rfl]at h1;split at h1;cases h1;rw[WK]at h2;cases h2;exact afq;cases h1;rw[U Md]at h1;exact Kp.uI i' r' LM h1 h2
 refine⟨G',hF.trans ⟨tG.refl w G',Dg hF.inv (tG.refl w G') (gd _ _ _ Gm).symm (λ_ _ _ _ _ _ _ _=>⟨rfl,rfl⟩) uM hF.inv.nE,λb'=>?_,λ_ _=>rfl⟩⟩;have h1:=w7 b' G'.ls qQ id WJ _ WJ (.rows ve1 sz1 (SE.set i (au r1 (k+off) [v']))) Gm CW;rw[gd _ _ _ Gm]at h1;have h4:=uK b' SE WJ.vals i r1 VJ (au r1 (k+off) [v']) VJ Oh WK;rw[gd _ _ _ WK]at h4;have e3:=sj b' r1 [v'] VJ [x1] (k+off) Sb.1 rfl (by simp;omega);rw[hs]at e3;have e4:cL b' [v'] [x1]=0:=by simp only[cL,fV b' v' x1 iI]
 simp only[jm]at h1;omega;cases hw;cases hw;cases hw;cases hw;cases hr;cases hr;cases hr
theorem P6{wl aa:Nat}{st qQ qb:ay}{id cQ i k off:Nat}(hI:j8 w G st)(hX:∀b,cR b G.ls st<=1)(hp:bF w G (.ptr id cQ i k) u)
  (hr:iT st (.ptr id cQ i (k+off)) 1=some [v])(hf:pS wl v st=some (v',qQ))(hw:fo wl aa qQ (.ptr id cQ i (k+off)) [v']=some qb):∃G',Jx w G st G' qb:=by
 unfold pS at hf;split at hf;rename_i ke fJ;cases hf;unfold iT at hr;simp only at hr;split at hr;rename_i ve sz rows ja;split at hr;rename_i hve;subst hve;split at hr;rename_i r dJ;obtain⟨lz,Mf,F6⟩:=sq hr;have HY:k+off<r.length:=by omega
 have hv:r[k+off]?=some (.raw ke fJ):=by
  have:((r.drop (k+off)).take 1)[0]?=some (.raw ke fJ):=by rw[<-lz];rfl
  rw[acv,ah (by omega),adw]at this;exact this
 have Bw:id<st.length:=(aad.1 ja).1;have CW:(st++[dA.rows 0 ke fJ])[id]?=some (.rows ve sz rows):=by rw[aal Bw];exact ja
 unfold fo at hw;simp only[CW,dJ]at hw;split at hw;split at hw;cases hw;exact Wp hI hp ja dJ hv;cases hw;cases hw;cases hr;cases hr;cases hr;exact SD hI hX hp hr hf hw
theorem WM{wl aa:Nat}{t id cQ i k off:Nat}{qQ qb:ay}(hs:FT w G β a s n)(h1:∀b,iO β a s G n b<=1)(ht:dK s.env t=.val (.ptr id cQ i k))
  (hr:iT s.st (.ptr id cQ i (k+off)) 1=some [v])(hf:pS wl v s.st=some (v',qQ))(hw:fo wl aa qQ (.ptr id cQ i (k+off)) [v']=some qb) :
  ∃G',FT w G' β a ⟨s.env,s.bx,qb⟩ n/\Mv w G (iO β a s G n) w G' (iO β a ⟨s.env,s.bx,qb⟩ G' n):=by
 have Gr:lf w G β (dK s.env t) (mm a t):=hs.vm t;rw[ht]at Gr;obtain⟨G',hF⟩:=P6 hs.inv (λb=>by have:=h1 b;unfold iO wE at this;omega) Gr hr hf hw;have EC:∀b,0<iK (λu=>dg b (dK s.env u) (mm a u)) n+ir b β s.bx->fG w G w G' b:=λb hb=>⟨hF.w8 b (by have:=h1 b;unfold iO wE at this;omega),rfl⟩;have hle:∀b,iO β a ⟨s.env,s.bx,qb⟩ G' n b<=iO β a s G n b:=λb=>by
  have e2:=hF.gT b;show iK (λu=>dg b (dK s.env u) (mm a u)) n+ir b β s.bx+cR b G'.ls qb<=iK (λu=>dg b (dK s.env u) (mm a u)) n+ir b β s.bx+cR b G.ls s.st;omega
 refine⟨G',⟨hs.Ka,hs.size,λu=>?_,hs.lt,hF.inv,nN (bx:=s.bx) hs.box hF.jT λb hb=>EC b (by omega)⟩,⟨hF.jT,λb _=>hle b,λb=>ac9 (hle b) (h1 b),λb hb h0=>?_,aau _,rfl,rfl⟩⟩;refine(hs.vm u).jT hF.jT λb hb=>EC b ?_;have JV:u<n:=by
  rcases agi u n with h|h;exact h;rw[hs.lt u h]at hb;simp[dg]at hb
 have:=xz (f:=λu=>dg b (dK s.env u) (mm a u)) JV;omega;have:cR b G.ls s.st=0:=by unfold iO wE at h0;omega
 exact⟨hF.w8 b this,rfl⟩
end Ax
namespace Ax
open Go
variable {S:Nat->Option aL}{P:Program}{O:kL}{wl aa n:Nat}
theorem yl{Q:Exit->Act->World->Prop}{x:Ex}{a:Act}{w:World}(h:Q (EB x) a w):Exit.noGoto Q (EB x) a w:=by
 cases x<;>exact h
theorem P7{x y:bN}{c:Code}(h:j4 S P n (.seq x y) c=true):(∃t,x=.Pn t/\j4 S P n y c=true)\/(∃j k,x=.DJ j k/\j4 S P n y c=true)\/(∃j k,x=.uE j k/\j4 S P n y c=true)\/(∃a b,EA c=.seq a b/\j4 S P n x a=true/\j4 S P n y b=true):=by
 unfold j4 at h;split at h;exact .inl ⟨_,rfl,h⟩;exact .inr (.inl ⟨_,_,rfl,h⟩);exact .inr (.inr (.inl ⟨_,_,rfl,h⟩));split at h;rename_i a b he;simp only[aac]at h;exact .inr (.inr (.inr ⟨a,b,he,h.1,h.2⟩));cases h
theorem um(hO:kE S P O)(hL:yg S P O)(hP:Cq S O){rs:List iW}:∀(c:bN)(code:Code)(s s':St)(x:Ex)(w:World)(G:bD)(β:List nD)(a:Act)(Q:Exit->Act->World->Prop),
  j4 S P n c code=true->FT w G β a s n->(∀b,iO β a s G n b<=1)->jf O wl aa rs c s=some (x,s')->
  (∀w' G' iM a',Pst n rs (iO β a s G n) w G x s' w' G' iM a'->Q (EB x) a' w')->code.wp P Q a w
 |.skip,code,s,s',x,w,G,β,a,Q,hm,hs,h1,he,hQ=>by
  refine q9 ?_;simp only[jf,bh,cF]at he;obtain⟨rfl,rfl⟩:=he;unfold j4 at hm;split at hm;rename_i hp;rw[hp];exact wp_skip (hQ w G β a ⟨s,hs,Mv.refl h1,rfl⟩);cases hm
 |.region m draw dD,code,s,s',x,w,G,β,a,Q,hm,hs,h1,he,hQ=>by
  refine q9 ?_;unfold j4 at hm;split at hm;rename_i id dO d hp;rw[hp];unfold jf at he;cases draw with
  |none=>
   simp only[Ip,aac,adu]at hm;obtain⟨rfl,hm⟩:=hm;simp only at he;split at he;rename_i s1 yQ;cases he;refine wp_region ?_;have:=Eo (Q:=Exit.noGoto Q) hO dO.toList m 0 w G β a s rfl hm hs h1 yQ λw' G' iM a' f1 f2=>by
    obtain⟨g1,g2⟩:=f1.clear dD;exact hQ w' G' iM a' ⟨_,g1,f2.qG g2,rfl⟩
   rw[List.range_eq_range'];simpa using this;cases he
  |some cw=>
   simp only[Ip,aac]at hm;obtain⟨rfl,hm⟩:=hm;simp only at he;split at he;rename_i s1 yQ;cases he;exact Kl (Q:=Exit.noGoto Q) hm hO hP hs h1 yQ (λd=>⟨hs.drawn d,λ_ _ _ h=>h.drawn⟩) λw' G' iM a' f1 f2=>by
    obtain⟨g1,g2⟩:=f1.clear dD;exact hQ w' G' iM a' ⟨_,g1,f2.qG g2,rfl⟩
   cases he
  cases hm
 |.seq c1 c2,code,s,s',x,w,G,β,a,Q,hm,hs,h1,he,hQ=>by
  rcases P7 hm with⟨t,rfl,Oj⟩|⟨j,k,rfl,Oj⟩|⟨t,off,rfl,Oj⟩|⟨a1,b1,hp,hm1,Oj⟩;unfold jf at he;cases hc:jf O wl aa rs (.Pn t) s with
  |none=>rw[hc]at he;cases he|some y=>
   obtain⟨x1,s1⟩:=y;rw[hc]at he;unfold jf at hc;cases hv:dK s.env t with
   |none=>rw[hv]at hc;cases hc|fp j k=>rw[hv]at hc;cases hc|val v=>
    rw[hv]at hc;simp only at hc;cases hf:iy wl v s.st with
    |none=>rw[hf]at hc;cases hc|some y=>
     obtain⟨v',st'⟩:=y;rw[hf]at hc;cases hc;obtain⟨G',f1,f2⟩:=aaH hs h1 hv hf;exact um hO hL hP c2 code _ s' x w G' β a Q Oj f1 f2.one he λw' G2 Sk a2 hp=>hQ w' G2 Sk a2 (hp.trans f2)
  unfold jf at he;cases hc:jf O wl aa rs (.DJ j k) s with
  |none=>rw[hc]at he;cases he|some y=>
   obtain⟨x1,s1⟩:=y;rw[hc]at he;unfold jf at hc;cases hb:s.bx[j]? with
   |none=>rw[hb]at hc;cases hc|some aF=>
    rw[hb]at hc;simp only at hc;cases hv:aF[k]? with
    |none=>rw[hv]at hc;cases hc|some v=>
     rw[hv]at hc;simp only at hc;cases hf:iy wl v s.st with
     |none=>rw[hf]at hc;cases hc|some y=>
      obtain⟨v',st'⟩:=y;rw[hf]at hc;cases hc;obtain⟨G',f1,f2⟩:=WI hs h1 hb hv hf;exact um hO hL hP c2 code _ s' x w G' β a Q Oj f1 f2.one he λw' G2 Sk a2 hp=>hQ w' G2 Sk a2 (hp.trans f2)
  unfold jf at he;cases hc:jf O wl aa rs (.uE t off) s with
  |none=>rw[hc]at he;cases he|some y=>
   obtain⟨x1,s1⟩:=y;rw[hc]at he;obtain⟨rfl,id,cQ,i,k,v,v',qQ,qb,g1,g2,g3,g4,rfl⟩:=DO hc;simp only at he;obtain⟨G',f1,f2⟩:=WM hs h1 g1 g2 g3 g4;exact um hO hL hP c2 code _ s' x w G' β a Q Oj f1 f2.one he λw' G2 Sk a2 hp=>hQ w' G2 Sk a2 (hp.trans f2)
  refine q9 ?_;rw[hp];refine wp_seq ?_;unfold jf at he;cases hc:jf O wl aa rs c1 s with
  |none=>rw[hc]at he;cases he|some y=>
   obtain⟨x1,s1⟩:=y;rw[hc]at he;refine um hO hL hP c1 a1 s s1 x1 w G β a _ hm1 hs h1 hc λw' G' iM a' Zz=>?_;cases x1 with
   |normal=>
    obtain⟨sr,g1,g2,g3⟩:=Zz;simp only at g3;subst g3;exact um hO hL hP c2 b1 s1 s' x w' G' iM a' _ Oj g1 g2.one he λw2 G2 Sk a2 yR=>yl (hQ w2 G2 Sk a2 (yR.trans g2))
   |exit id=>cases he;exact hQ w' G' iM a' Zz|ret v=>cases he;exact hQ w' G' iM a' Zz
 |.cond t ca c1 cb c2,code,s,s',x,w,G,β,a,Q,hm,hs,h1,he,hQ=>by
  refine q9 ?_;unfold j4 at hm;split at hm;rename_i u a1 b1 hp;rw[hp];simp only[aac]at hm;obtain⟨⟨hms,hm1⟩,Oj⟩:=hm;unfold jf at he;have hev:=(N9 hs.vm hms).1;have hb:∀b,sd s.env t=some b->a.eval u=.bool b:=λb hb=>by
   unfold sd at hb;rw[Dl]at hb;split at hb;rename_i b' nV;cases hb;rw[nV]at hev;exact bF.kA hev;cases hb
  split at he;rename_i hr;obtain⟨g1,g2⟩:=FT.afk hs t ca;refine wp_cond_true (hb _ hr) (um hO hL hP c1 a1 _ s' x w G β a _ hm1 g1 (λb=>ac9 (g2 b) (h1 b)) he λw' G' iM a' hp=>yl (hQ w' G' iM a' (hp.trans ((Mv.refl h1).qG g2))));rename_i hr;obtain⟨g1,g2⟩:=FT.afk hs t cb;refine wp_cond_false (hb _ hr) (um hO hL hP c2 b1 _ s' x w G β a _ Oj g1 (λb=>ac9 (g2 b) (h1 b)) he λw' G' iM a' hp=>yl (hQ w' G' iM a' (hp.trans ((Mv.refl h1).qG g2))));cases he;cases hm
 |.block id c1,code,s,s',x,w,G,β,a,Q,hm,hs,h1,he,hQ=>by
  refine q9 ?_;unfold j4 at hm;split at hm;rename_i j a1 hp;rw[hp];simp only[aac,cz]at hm;obtain⟨rfl,hm1⟩:=hm;refine wp_block ?_;unfold jf at he;cases hc:jf O wl aa rs c1 s with
  |none=>rw[hc]at he;cases he|some y=>
   obtain⟨x1,s1⟩:=y;rw[hc]at he;refine um hO hL hP c1 a1 s s1 x1 w G β a _ hm1 hs h1 hc λw' G' iM a' Zz=>?_;cases x1 with
   |normal=>cases he;exact hQ w' G' iM a' Zz|exit i=>
    simp only at he;simp only[EB,Exit.inBlock];split at he;rename_i hi;cases he;rw[ah hi];exact hQ w' G' iM a' Zz;rename_i hi;cases he;rw[U hi];exact hQ w' G' iM a' Zz
   |ret v=>cases he;exact hQ w' G' iM a' Zz
  cases hm
 |.loop c1,code,s,s',x,w,G,β,a,Q,hm,hs,h1,he,hQ=>by
  refine q9 ?_;unfold j4 at hm;split at hm;rename_i a1 hp;rw[hp];unfold jf at he;exact Ko (hL wl aa rs c1 s x s' he a1 n hm w G β a hs h1 _ λw' G' iM a' hp=>yl (hQ w' G' iM a' hp));cases hm
 |.exit id,code,s,s',x,w,G,β,a,Q,hm,hs,h1,he,hQ=>by
  refine q9 ?_;simp only[jf,bh,cF]at he;obtain⟨rfl,rfl⟩:=he;unfold j4 at hm;split at hm;rename_i j hp;rw[hp];simp only[cz]at hm;subst hm;exact wp_exit (hQ w G β a ⟨s,hs,Mv.refl h1,rfl⟩);cases hm
 |.ret,code,s,s',x,w,G,β,a,Q,hm,hs,h1,he,hQ=>by
  refine q9 ?_;unfold j4 at hm;split at hm;rename_i hp;rw[hp];unfold jf at he;split at he;rename_i v hv;cases he;exact wp_ret (hQ w G β a ⟨s,hs,Mv.refl h1,hv,rfl⟩);cases he;cases hm
 |.Pn t,code,s,s',x,w,G,β,a,Q,hm,hs,h1,he,hQ=>by
  simp[j4]at hm
 |.DJ j k,code,s,s',x,w,G,β,a,Q,hm,hs,h1,he,hQ=>by
  simp[j4]at hm
 |.uE t off,code,s,s',x,w,G,β,a,Q,hm,hs,h1,he,hQ=>by
  simp[j4]at hm
def Ol(S:Nat->Option aL)(P:Program)(sf:aL):Bool:=
 match P.funcs[sf.eP]? with
 |some fn=>match fn.body with
  |some code => !(fn.name == "runtime.NumGoroutine") && j4 S P fn.ntmps sf.body code && zw P fn.results.toList sf.results && xB (o9 sf.results) && xB (Ep sf.results) && decide (sf.aH ≤ fn.ntmps)
  |none=>false
 |none=>false
def Kq(S:Nat->Option aL)(P:Program):Prop:=∀f sf,S f=some sf->Ol S P sf=true/\(f<100000->sf.eP=f)
def C1(b:Nat)(args:List AV)(vs:List Value)(k t:Nat):Nat:=if k<=t then (match args[t-k]?,vs[t-k]? with|some v,some u=>gT b v u|_,_=>0) else 0
theorem Kr{w:World}{G:bD}(b:Nat):∀(args:List AV)(vs:List Value)(k N:Nat),args.length=vs.length->k+args.length<=N->
  iK (C1 b args vs k) N=cL b args vs
 |[],[],k,N,_,_=>by
  have:iK (C1 b [] [] k) N=iK (λ_=>0) N:=o7 λt _=>by simp[C1]
  rw[this,GR];rfl
 |v::args,u::vs,k,N,hl,hN=>by
  have ih:=Kr (w:=w) (G:=G) b args vs (k+1) N (by simpa using hl) (by simp at hN;omega);have:=uP (f:=C1 b (v::args) (u::vs) k) (g:=C1 b args vs (k+1)) (d:=k) (n:=N) (by simp at hN;omega) λt ht=>by
    unfold C1;by_cases hk:k<=t;have h1:k+1<=t:=(by omega);have h2:t-k=(t-(k+1))+1:=(by omega);simp only[hk,h1,aQ,h2,List.getElem?_cons_succ];have h1:¬k+1<=t:=(by omega);simp only[hk,h1,aS]
  have e1:C1 b (v::args) (u::vs) k k=gT b v u:=by simp[C1]
  have e2:C1 b args vs (k+1) k=0:=by unfold C1;rw[U (by omega)]
  rw[e1,e2,ih]at this;simp only[cL];omega
 |[],_::_,_,_,h,_=>by simp at h|_::_,[],_,_,h,_=>by simp at h
end Ax
namespace Ax
open Go
variable {S:Nat->Option aL}{P:Program}{O:kL}{wl aa n:Nat}
variable {w w':World}{G G':bD}{β iM:List nD}{a:Act}{s s':St}
variable{v:AV}{st st':ay}{sf:aL}{args:List AV}
theorem WN{fn:Func}{rs:List iW}(hs:FT w G β a s n)(hm:zw P fn.results.toList rs=true)(h1:xB (o9 rs)=true)(h2:xB (Ep rs)=true)(hr:yM s rs=some v) :
  ∃u,(results fn a.tmps).run P w=.ok u w/\bF w G v u/\∀b,gT b v u+cR b G.ls s.st<=iO β a s G n b:=by
 unfold yM at hr;cases jb:zl s rs with
 |none=>rw[jb]at hr;cases hr|some vs=>
  obtain⟨us,k1,k2,k3⟩:=G7 hs _ rs vs hm jb;have k4:=Ke k1;rw[jb]at hr;have hle:∀b,cL b vs us+cR b G.ls s.st<=iO β a s G n b:=λb=>by
   have e1:=k3 b;have e2:=Ak (f:=λt=>dg b (dK s.env t) (mm a t)) (n:=n) (λt ht=>by rw[hs.lt t ht];rfl) _ (yf h1);have e3:=Ak (f:=uQ b β s.bx) (n:=s.bx.length) (λt ht=>by
    unfold uQ;rw[adi ht];split;rename_i h;cases h
    rfl) _ (yf h2)
   have e4:=Kf b β s.bx;unfold iO wE;omega
  match vs,us,k2,hle,hr,k4 with
  |[v1],[u],k2,hle,hr,k4=>
   cases hr;refine⟨u,k4,k2.2 0 _ u rfl rfl,λb=>?_⟩;have:=hle b;simp only[cL]at this;omega
  |[],us,k2,hle,hr,k4=>
   have:us=[]:=by have:=k2.1;simpa using this.symm
   subst this;cases hr;exact⟨_,k4,.fK _ _ rfl λi c v h=>by simp at h,λb=>by have:=hle b;simpa [gT,PX] using this⟩
  |v1::v2::vs,us,k2,hle,hr,k4=>
   cases hr;match us,k2,hle,k4 with
   |[],k2,_,_=>have:=k2.1;simp at this|[_],k2,_,_=>have:=k2.1;simp at this|u1::u2::us,k2,hle,k4=>
    exact⟨_,k4,.fK _ _ (by simpa using k2.1) λi c v h k=>k2.2 i c v h (by simpa using k),λb=>by have:=hle b;simpa [gT,PX] using this⟩
  |[_],[],k2,_,_,_=>have:=k2.1;simp at this|[_],_::_::_,k2,_,_,_=>have:=k2.1;simp at this
theorem Ir{m:Mode}{qQ:ay}{v':AV}{u:Value}{A:Nat->Nat}(hI0:j8 w G st)(hk:eJ (m.wL st.length wl) (m.oW st.length aa) st qQ)(hf:m.nu st v qQ=some (v',st'))(hr:bF w' G' v u)(hI:j8 w' G' qQ)
  (hM:Mv w G A w' G' (λb=>gT b v u+cR b G'.ls qQ)):∃G2,bF w' G2 v' u/\j8 w' G2 st'/\Mv w G A w' G2 (λb=>gT b v' u+cR b G2.ls st'):=by
 have afs:(m=.pure\/m=.jY)->GU st.length qQ:=λh=>by
  have hl:m.oW st.length aa=st.length:=by rcases h with rfl|rfl<;>rfl
  rw[hl]at hk;exact hk.aa st.length (aau _) (aau _) hI0.ae6
 have cut:v.aB=true->GU st.length qQ->∃G2,bF w' G2 v u/\j8 w' G2 (qQ.take st.length)/\Mv w G A w' G2 (λb=>gT b v u+cR b G2.ls (qQ.take st.length)):=by
  intro hp hl;have hc:∀b,gT b v u+cR b (G'.cut st.length).ls (qQ.take st.length)<=gT b v u+cR b G'.ls qQ:=λb=>by
   have:=GW b st.length G'.ls qQ;simp only[bD.cut];omega
  refine⟨G'.cut st.length,hr.Eh (jD _ v hp),hI.Eh hl,?_⟩;exact⟨Wv hM.jT (by rw[hI0.len];exact aau _),λb hb=>ac9 (hc b) (hM.gT b hb),λb=>ac9 (hc b) (hM.one b),λb hb h0=>hM.w8 b hb h0,hM.size,hM.os,hM.out⟩
 cases m with
 |yK=>
  simp only[Mode.nu,bh,cF]at hf;obtain⟨rfl,rfl⟩:=hf;exact⟨G',hr,hI,hM⟩
 |pure=>
  simp only[Mode.nu]at hf;split at hf;rename_i hp;cases hf;obtain⟨G2,c1,c2,c3⟩:=cut hp (afs (.inl rfl));have:qQ.take st.length=st:=by
   apply aeE;intro i;rw[acv];split;rename_i hi;exact hk.low i (by simpa [Mode.wL] using hi) hi;rename_i hi;rw[adi (by omega)]
  rw[this]at c2 c3;exact⟨G2,c1,c2,c3⟩;cases hf
 |jY=>
  simp only[Mode.nu]at hf;split at hf;rename_i hp;cases hf;exact cut hp (afs (.inr rfl));cases hf
theorem Mw(w:World)(G:bD)(k:Nat):kM w G (aak k ⟨none,[]⟩) (aak k []) where
 len:=by simp
 box:=λj aF g h1 h2=>by
  rw[List.getElem?_replicate]at h1 h2;split at h1;rename_i hj;rw[ah hj]at h2;cases h1;cases h2;exact⟨⟨rfl,λi c v h=>by simp at h⟩,rfl,.inl ⟨rfl,rfl⟩⟩;cases h1
theorem ED(b:Nat):∀k,ir b (aak k ⟨none,[]⟩) (aak k [])=0
 |0=>by simp[ir]|k+1=>by simp[List.replicate_succ,ir,ED b k,cL]
theorem As(hT:Kq S P)(hO:kE S P O)(hL:yg S P O)(hP:Cq S O)(hK:sD O){f:Nat}(hf:S f=some sf)(hc:eM O wl aa sf args st=some (v,st')) :
  PT P sf.eP/\(f<100000->sf.eP=f)/\
  ∀(w:World) (G:bD) (vs:List Value),cU w G args vs->j8 w G st->(∀b,cL b args vs+cR b G.ls st<=1)->
   Calls P sf.eP vs.toArray w λe w'=>∃u G',e=.returned u/\bF w' G' v u/\j8 w' G' st'/\
    Mv w G (λb=>cL b args vs+cR b G.ls st) w' G' (λb=>gT b v u+cR b G'.ls st'):=by
 obtain⟨hm,ajO⟩:=hT f sf hf;unfold Ol at hm;split at hm;rename_i fn Om;split at hm;rename_i code ZA;simp only[aac,adu,aK]at hm;obtain⟨⟨⟨⟨⟨aft,uS⟩,uo⟩,hnt⟩,Si⟩,hnp⟩:=hm;refine⟨⟨fn,Om,aft,by rw[ZA];rfl⟩,ajO,λw G vs hR hI h1=>?_⟩;unfold eM at hc;split at hc;rename_i hlen;split at hc;rename_i x s afu;split at hc;rename_i v1 P0;refine calls_of_wp Om ZA ?_;have N5:vs.length=args.length:=hR.1.symm;have dM:(vs.toArray++agH (fn.ntmps-vs.toArray.size) undef).size=fn.ntmps:=by
  simp only[Array.size_append,List.size_toArray,ah0];omega
 let a0:Act:={ tmps:=vs.toArray++agH (fn.ntmps-vs.toArray.size) undef,defers:=[] }
 have afv:∀t u,vs[t]?=some u->mm a0 t=u:=λt u hu=>by
  have bC:=(aad.1 hu).1;have:a0.tmps[t]?=some u:=by
   show (vs.toArray++agH (fn.ntmps-vs.toArray.size) undef)[t]?=some u;rw[Array.getElem?_append];simp[bC,(aad.1 hu).2]
  simp[mm,this]
 have hη:∀t,dK (qc sf args st).env t=if t∈sf.dD then .none else (match args[t]? with|some v=>.val v|none=>.none):=λt=>by
  simp only[qc,vE,GQ,Nat.zero_le,aQ,Nat.sub_zero]
  rfl
 have hFT:FT w G (aak sf.aP ⟨none,[]⟩) a0 (qc sf args st) fn.ntmps:=by
  refine⟨rfl,by show fn.ntmps<=(vs.toArray++agH (fn.ntmps-vs.toArray.size) undef).size;omega,λt=>?_,λt ht=>?_,hI,Mw w G sf.aP⟩;rw[hη];split
  trivial
  split;rename_i v0 hv0;have bC:t<vs.length:=by rw[N5];exact(aad.1 hv0).1
  have hu:=aag bC;rw[afv t _ hu];exact hR.2 t v0 _ hv0 hu
  trivial
  rw[hη,adi (by omega)];simp
 have aaL:∀b,iO (aak sf.aP ⟨none,[]⟩) a0 (qc sf args st) G fn.ntmps b<=cL b args vs+cR b G.ls st:=λb=>by
  have e1:=Kr (w:=w) (G:=G) b args vs 0 fn.ntmps N5.symm (by omega);have e2:iK (λt=>dg b (dK (qc sf args st).env t) (mm a0 t)) fn.ntmps<=iK (C1 b args vs 0) fn.ntmps:=Dj λt _=>by
   rw[hη];simp only[C1,Nat.zero_le,aQ,Nat.sub_zero];split;simp[dg];cases hv0:args[t]? with
   |none=>simp[dg]|some v0=>
    have bC:t<vs.length:=(by rw[N5];exact(aad.1 hv0).1);have hu:=aag bC;rw[afv t _ hu,hu];exact aau _
  have e3:=ED b sf.aP;unfold iO wE;show iK (λt=>dg b (dK (qc sf args st).env t) (mm a0 t)) fn.ntmps+ir b (aak sf.aP ⟨none,[]⟩) (aak sf.aP [])+cR b G.ls st<=_;omega
 have h0:∀b,iO (aak sf.aP ⟨none,[]⟩) a0 (qc sf args st) G fn.ntmps b<=1:=λb=>ac9 (aaL b) (h1 b);refine um hO hL hP sf.body code _ s x w G _ a0 _ uS hFT h0 afu λw' G' iM a' hp=>?_;obtain⟨sr,g1,g2,g3⟩:=hp;have afw:eJ (sf.mode.wL st.length wl) (sf.mode.oW st.length aa) st s.st:=kD hK afu;have nu:yM sr sf.results=some v1->s.st=sr.st->a'.defers=[]/\∃u,(results fn a'.tmps).run P w'=.ok u w'/\∃u' G',(Ending.returned u)=.returned u'/\bF w' G' v u'/\j8 w' G' st'/\
   Mv w G (λb=>cL b args vs+cR b G.ls st) w' G' (λb=>gT b v u'+cR b G'.ls st'):=by
  intro hrv ja;obtain⟨u,r1,r2,r3⟩:=WN g1 uo hnt Si hrv;have hMv:Mv w G (λb=>cL b args vs+cR b G.ls st) w' G' (λb=>gT b v1 u+cR b G'.ls s.st):=by
   rw[ja];have g3:=g2.qG r3;exact g3.Sc aaL (λb hb=>ac9 (g3.gT b hb) (aaL b)) g3.one
  have ajQ:j8 w' G' s.st:=by rw[ja];exact g1.inv
  obtain⟨G2,c1,c2,c3⟩:=Ir hI afw hc r2 ajQ hMv;exact⟨g1.Ka,u,r1,u,G2,rfl,c1,c2,c3⟩
 cases x with
 |normal=>
  simp only at g3;subst g3;exact nu P0 rfl
 |exit id=>cases P0|ret v2=>
  cases P0;exact nu g3.1 g3.2
 cases hc;cases hc;cases hc;cases hm;cases hm
theorem EE(h:eM O wl aa sf args st=some (v,st'))(hm:sf.mode=.pure):v.aB=true/\st'=st:=by
 unfold eM at h;split at h;split at h;split at h;rw[hm]at h;simp only[Mode.nu]at h;split at h;rename_i hp;cases h;exact⟨hp,rfl⟩;cases h;cases h;cases h;cases h
theorem rf(hT:Kq S P)(hO:kE S P O)(hL:yg S P O)(hP:Cq S O)(hK:sD O){f:Nat}(hf:S f=some sf)(hc:fM O wl aa sf args st=some (v,st')) :
  PT P sf.eP/\(f<100000->sf.eP=f)/\
  ∀(w:World) (G:bD) (vs:List Value),cU w G args vs->j8 w G st->(∀b,cL b args vs+cR b G.ls st<=1)->
   Calls P sf.eP vs.toArray w λe w'=>∃u G',e=.returned u/\bF w' G' v u/\j8 w' G' st'/\
    Mv w G (λb=>cL b args vs+cR b G.ls st) w' G' (λb=>gT b v u+cR b G'.ls st'):=by
 unfold fM at hc;split at hc;rename_i LG;simp only[tD,aac,aK]at LG;obtain⟨hm,hpa⟩:=LG;simp only[Option.map_eq_some_iff]at hc;obtain⟨⟨v0,st0⟩,VE,hx⟩:=hc;cases hx;obtain⟨Mb,rfl⟩:=EE VE hm;obtain⟨h1,h2,h3⟩:=As hT hO hL hP hK hf VE;refine⟨h1,h2,λw G vs hR hI lU=>?_⟩;have aaM:∀(i:Nat) c,args[i]?=some c->c.under 0=true:=λi c hc=>jD 0 c ((iE args).1 hpa c (dR hc));have hI0:j8 w (G.cut 0) []:=by
  have:=hI.Eh (n:=0) λid ob h=>by omega
  simpa using this
 have WQ:∀b,cR b (G.cut 0).ls []=0:=λb=>by simp[cR]
 refine(h3 w (G.cut 0) vs ⟨hR.1,λi c v e1 e2=>(hR.2 i c v e1 e2).Eh (aaM i c e1)⟩ hI0 λb=>by rw[WQ b];have:=lU b;omega).mono λe w' he=>?_;obtain⟨u,G',rfl,r1,r2,r3⟩:=he;have qh:∀b,cR b G'.ls []=0:=λb=>by simp[cR]
 have hS:tG w G w' ⟨G.ls,G'.mR⟩:=⟨λb o hi=>r3.jT.Rw b o hi,λid loc hl=>⟨loc,hl,aau _,λ_=>rfl⟩⟩;have EC:∀b,b<w.heap.size->cL b args vs=0->fG w G w' ⟨G.ls,G'.mR⟩ b:=λb hb h0=>by
  have:=r3.w8 b hb (by rw[h0,WQ b]);exact this
 have hIs:j8 w' ⟨G.ls,G'.mR⟩ st:=xd hI hS rfl (λb hb=>EC b (hI.held hb) (by have:=lU b;omega)) r2.nE;have fm:bF w' ⟨G.ls,G'.mR⟩ v0 u:=by
  have h0:=r1.Eh (n:=0) (jD 0 v0 Mb);exact h0.jT ⟨λb o hi=>⟨rfl,hi⟩,λid loc hl=>by simp[bD.cut]at hl⟩ λb _=>⟨rfl,rfl⟩
 refine⟨u,⟨G.ls,G'.mR⟩,rfl,fm,hIs,hS,λb hb=>?_,λb=>?_,λb hb h0=>EC b hb (by omega),r3.size,r3.os,r3.out⟩;have:=r3.gT b hb;rw[qh b,WQ b]at this;show gT b v0 u+cR b G.ls st<=_;omega;have h4:=r3.one b;rw[qh b]at h4;show gT b v0 u+cR b G.ls st<=1;by_cases hb:b<w.heap.size;have h5:=r3.gT b hb;rw[qh b,WQ b]at h5;have:=lU b;omega;have:cR b G.ls st=0:=by
  rcases ae3 (cR b G.ls st) with h|h;exact h;exact aU (hI.held h) hb
 omega;exact As hT hO hL hP hK hf hc
theorem Hf(hT:Kq S P):∀n,kE S P (qC S n)/\yg S P (qC S n)
 |0=>⟨λwl aa f args st v st' h=>by simp[qC]at h,λwl aa rs c s x s' h=>by simp[qC]at h⟩
 |n+1=>by
  obtain⟨i1,i2⟩:=Hf hT n;refine⟨λwl aa f args st v st' h=>?_,λwl aa rs c s x s' h code m hm w G β a hs h1 Q hQ=>?_⟩;simp only[qC]at h;split at h;rename_i sf hsf;exact⟨sf,hsf,rf hT i1 i2 (Ki S n) (GX S n) hsf h⟩;cases h;simp only[qC]at h;refine Km ?_;cases hc:jf (qC S n) wl aa rs c s with
  |none=>rw[hc]at h;cases h|some y=>
   obtain⟨x1,s1⟩:=y;rw[hc]at h;refine um i1 i2 (Ki S n) c code s s1 x1 w G β a _ hm hs h1 hc λw' G' iM a' hp=>?_;cases x1 with
   |normal=>
    obtain⟨sr,g1,g2,g3⟩:=hp;simp only at g3;subst g3;exact i2 wl aa rs c s1 x s' h code m hm w' G' iM a' g1 g2.one Q λw2 G2 Sk a2 yR=>hQ w2 G2 Sk a2 (yR.trans g2)
   |exit id=>cases h;exact hQ w' G' iM a' hp|ret v=>cases h;exact hQ w' G' iM a' hp
end Ax
namespace Ax
open Go
variable {P:Program}{w w':World}{G G':bD}
def Dq(P:Program)(ts:List TypeId):Bool:=ts.all λt=>decide (t<P.types.size)&&match P.underlying t with
 |some .bool|some (.int _)|some .string=>true|some (.slice e)=>ts.contains e&&decide (0<P.cellsOf e)|some (.struct fs)=>fs.toList.all λf=>ts.contains f.type|_=>false
mutual
inductive Ty (P:Program):TypeId->List AV->Prop
 |bool {t:TypeId} (h:P.underlying t=some .bool) (b:Bool):Ty P t [.bool b]
 |int {t:TypeId} {k:IntKind} (h:P.underlying t=some (.int k)) (n:Int) (h1:k.min<=n) (h2:n<=k.max):Ty P t [.int k n]
 |str {t:TypeId} (h:P.underlying t=some .string) (l:List UInt8) (hn:l.length<=maxLen):Ty P t [.str l]
 |af {t e:TypeId} (h:P.underlying t=some (.slice e)):Ty P t [.af]
 |mE {t e:TypeId} (h:P.underlying t=some (.slice e)):Ty P t [.mE]
 |eE {t e:TypeId} (h:P.underlying t=some (.slice e)) (rows:List (List AV)) (hn:rows.length<=maxLen) (hl:∀r∈rows,r.length=P.cellsOf e) (h2:∀r∈rows,Ty P e r):Ty P t [.eE (P.cellsOf e) rows]
 |SF {t:TypeId} {fs:Array Field} (h:P.underlying t=some (.struct fs)) (as:List AV) (h2:SG P fs.toList as):Ty P t as
inductive SG (P:Program):List Field->List AV->Prop
 |nil:SG P [] []
 |cons {f:Field} {fs:List Field} {as bs:List AV} (hl:as.length=P.cellsOf f.type) (h1:Ty P f.type as) (h2:SG P fs bs):SG P (f::fs) (as++bs)
end
abbrev G0:bD:=⟨[],λ_=>none⟩
def y8(as:List AV):Prop:=AV.fq as=true/\AV.ax as=true/\AV.bw as=true
theorem rP{a:AV}(h1:a.cS=true)(h2:a.aB=true)(h3:a.dj=true):y8 [a]:=by
 refine⟨?_,?_,?_⟩<;>simp[AV.fq,AV.ax,AV.bw,h1,h2,h3]
theorem Is{as bs:List AV}(h:y8 as)(k:y8 bs):y8 (as++bs):=by
 obtain⟨h1,h2,h3⟩:=h;obtain⟨k1,k2,k3⟩:=k;refine⟨(dm _).2 λc hc=>?_,(iE _).2 λc hc=>?_,?_⟩;rcases abw.1 hc with h|h;exact(dm _).1 h1 c h;exact(dm _).1 k1 c h;rcases abw.1 hc with h|h;exact(iE _).1 h2 c h;exact(iE _).1 k2 c h;simp only[AV.bw,List.all_append,aac]at *;exact⟨h3,k3⟩
theorem uT{a:AV}{v:Value}(h:bF w G a v):cU w G [a] [v]:=⟨rfl,λi c u h1 h2=>by
 cases i with
 |zero=>simp at h1 h2;subst h1;subst h2;exact h|succ i=>simp at h1⟩
theorem WR{b o:Nat}(h:b<w.heap.size):Imm w G0 b o:=⟨h,λp hp=>by cases hp⟩
section
variable {H:Type}{enc:TypeId×Value->H}{ts:List TypeId}
theorem Hg{cs:List Value}:∀(fs:List Field)(o:Nat),(∀(j:Nat) f,fs[j]?=some f->f.offset=o+((fs.take j).map λf=>P.cellsOf f.type).sum)->cs.length=o+(fs.map λf=>P.cellsOf f.type).sum->
  (∀f∈fs,∃as,cU w G0 as ((cs.drop f.offset).take (P.cellsOf f.type))/\Ty P f.type as/\y8 as)->∃as,cU w G0 as (cs.drop o)/\SG P fs as/\y8 as
 |[],o,_,hl,_=>by
  simp at hl;have:cs.drop o=[]:=List.drop_eq_nil_of_le (by omega);rw[this];exact⟨[],⟨rfl,λi c v h=>by simp at h⟩,.nil,rfl,rfl,rfl⟩
 |f::fs,o,ho,hl,hf=>by
  have e0:f.offset=o:=by have:=ho 0 f rfl;simpa using this
  simp only[abn,aje]at hl;obtain⟨bs,h1,h2,h3⟩:=Hg fs (o+P.cellsOf f.type) (λj g hg=>by
   have:=ho (j+1) g (by simpa using hg);simp only[List.take_succ_cons,abn,aje]at this;omega) (by omega) (λg hg=>hf g (by simp[hg]))
  obtain⟨as,k1,k2,k3⟩:=hf f (by simp);rw[e0]at k1;have hlen:as.length=P.cellsOf f.type:=by
   rw[k1.1,List.length_take,List.length_drop];omega
  refine⟨as++bs,?_,.cons hlen k2 h2,Is k3 h3⟩;have:cs.drop o=(cs.drop o).take (P.cellsOf f.type)++cs.drop (o+P.cellsOf f.type):=by
   rw[<-List.drop_drop,List.take_append_drop]
  rw[this];exact cU.append k1 h1
theorem WU(hK:Kids P (· < P.types.size))(hp:Dq P ts=true):∀(n:Nat)(t:TypeId)(cs:List Value)(x:DataW H×List MemPlace),t∈ts->DataW.trod enc P w 0 (λ_=>true) true n t cs=some x->
  ∃as,cU w G0 as cs/\Ty P t as/\y8 as:=by
 intro n;induction n with
 |zero=>intro t cs x _ h;simp[DataW.trod]at h|succ n ih=>
  intro t cs x ht h;have Mx:=aaB.1 hp t ht;simp only[aac,aK]at Mx;obtain⟨bC,Mx⟩:=Mx;split at Mx;rename_i hu;obtain⟨b,rfl,rfl⟩:=DataW.trod_bool hu h;exact⟨[.bool b],uT (.bool b),.bool hu b,rP rfl rfl rfl⟩;rename_i k hu;obtain⟨m,rfl,rfl,hw⟩:=DataW.trod_int hu h;simp only[Lit.wf,aac,aK]at hw;exact⟨[.int k m],uT (.int k m),.int hu m hw.1 hw.2,rP rfl rfl rfl⟩;rename_i hu;obtain⟨s,rfl,rfl,cT⟩:=DataW.trod_string hu h;exact⟨[.str s.data.toList],uT (.str _ s rfl),.str hu _ (by simpa using cT),rP rfl rfl rfl⟩;rename_i e hu;simp only[aac,aeC,aK]at Mx;obtain⟨he,dM⟩:=Mx;rcases DataW.trod_slice hu h with⟨rfl,rfl⟩|⟨a,len,cap,elems,xu,m,hm,rfl,rfl,_,hlc,hcm,Oo,afx,Sa,_⟩;exact⟨[.af],uT .af,.af hu,rP rfl rfl rfl⟩;cases hm;by_cases gY:cap=0;subst gY;have:len=0:=by omega
  subst this;exact⟨[.mE],uT (.mE a),.mE hu,rP rfl rfl rfl⟩;have dJ:∀i,i<cap->∃SH y,w.cells? 0 (a.add (i*P.cellsOf e)) (P.cellsOf e)=some SH/\DataW.trod enc P w 0 (λ_=>true) true n e SH=some y:=by
   intro i hi;by_cases F9:i<len;have h1:=afx i F9;have h2:∃y,elems[i]?=some y:=⟨_,aag (by omega)⟩;obtain⟨y,hy⟩:=h2;rw[hy,aai]at h1;obtain⟨SH,e1,e2⟩:=h1;exact⟨SH,y,e1,e2⟩;obtain⟨qi,hr⟩:=Sa rfl;have h1:=hr (i-len) (by omega);rw[show len+(i-len)=i by omega]at h1;have h2:∃y,xu[i-len]?=some y:=⟨_,aag (by omega)⟩;obtain⟨y,hy⟩:=h2;rw[hy,aai]at h1;obtain⟨SH,e1,e2⟩:=h1;exact⟨SH,y,e1,e2⟩
  have ZB:a.spot=none:=by
   obtain⟨SH,y,e1,_⟩:=dJ 0 (by omega);obtain⟨_,g2,g3⟩:=World.cells?_some e1;have h0:=g3 0 dM;have:∃v,SH[0]?=some v:=⟨_,aag (by omega)⟩;obtain⟨v,hv⟩:=this;rw[hv]at h0;have:=World.cell?_spot h0;simpa [Addr.add] using this
  obtain⟨jB,off,spot⟩:=a;simp only at ZB;subst ZB;have Pv:∀off k,Addr.add ⟨jB,off,none⟩ k=⟨jB,off+k,none⟩:=λoff k=>by
   unfold Addr.add;split;rename_i h0;subst h0;rfl
   rfl
  have Ks:∀i,i<len->∃r,(r.length=P.cellsOf e/\Ty P e r/\y8 r)/\∀(j:Nat) c,r[j]?=some c->∃v,w.cell? ⟨jB,off+(i*P.cellsOf e+j),none⟩=some v/\bF w G0 c v:=by
   intro i hi;obtain⟨SH,y,e1,e2⟩:=dJ i (by omega);obtain⟨_,g2,g3⟩:=World.cells?_some e1;obtain⟨r,r1,r2,r3⟩:=ih e SH y he e2;have qi:r.length=P.cellsOf e:=(by rw[r1.1,g2]);refine⟨r,⟨qi,r2,r3⟩,λj c hc=>?_⟩;have hj:j<P.cellsOf e:=(by rw[<-qi];exact(aad.1 hc).1);have h0:=g3 j hj;have hv:∃v,SH[j]?=some v:=⟨_,aag (by omega)⟩;obtain⟨v,hv⟩:=hv;rw[hv,Pv,Pv]at h0;refine⟨v,by rw[<-h0];congr 2;omega,r1.2 j c v hc hv⟩
  have key:∀m,m<=len->∃rows:List (List AV),rows.length=m/\∀(i:Nat) r,rows[i]?=some r->(r.length=P.cellsOf e/\Ty P e r/\y8 r)/\∀(j:Nat) c,r[j]?=some c->∃v,w.cell? ⟨jB,off+(i*P.cellsOf e+j),none⟩=some v/\bF w G0 c v:=by
   intro m;induction m with
   |zero=>intro _;exact⟨[],rfl,λi r h=>by simp at h⟩|succ m ihm=>
    intro hm;obtain⟨rows,l1,l2⟩:=ihm (by omega);obtain⟨r,hr⟩:=Ks m (by omega);refine⟨rows++[r],by simp[l1],λi r' hi=>?_⟩;by_cases him:i<m;rw[aal (by omega)]at hi;exact l2 i r' hi;rw[List.getElem?_append_right (by omega)]at hi;have:i-rows.length=0:=by
     rcases ae3 (i-rows.length) with h|h;exact h;rw[adi (by simp;omega)]at hi;cases hi
    rw[this]at hi;simp at hi;subst hi;have:i=m:=by omega
    subst this;exact hr
  obtain⟨rows,l1,l2⟩:=key len (aau _);have Bv:∀r∈rows,r.length=P.cellsOf e/\Ty P e r/\y8 r:=λr hr=>by
   obtain⟨i,hi,rfl⟩:=abo.1 hr;exact(l2 i _ (aag hi)).1
  have fm:bF w G0 (.eE (P.cellsOf e) rows) (.slice (some ⟨jB,off,none⟩) rows.length cap):=by
   refine .eE (P.cellsOf e) rows ⟨jB,off,none⟩ cap rfl (by omega) ?_ (λr hr=>(Bv r hr).2.2.1) (λr hr=>(Bv r hr).2.2.2.1) (λr hr=>(Bv r hr).2.2.2.2) (λi r j c h1 h2=>?_) (λi r j c v h1 h2 h3=>?_);simp only[cn,aaB,cz];exact λr hr=>(Bv r hr).1;obtain⟨v,e1,_⟩:=(l2 i r h1).2 j c h2;exact⟨WR (World.block_lt_of_cell? w ⟨jB,off+(i*P.cellsOf e+j),none⟩ e1:jB<w.heap.size),v,e1⟩;obtain⟨v',e1,e2⟩:=(l2 i r h1).2 j c h2;rw[e1]at h3;cases h3;exact e2
  rw[l1]at fm;exact⟨[.eE (P.cellsOf e) rows],uT fm,(.eE hu rows (by omega) (λr hr=>(Bv r hr).1) (λr hr=>(Bv r hr).2.1)),rP rfl rfl rfl⟩;rename_i fs hu;simp only[aaB,aeC,aK]at Mx;obtain⟨xs,m,hm,rfl,hl,hlen,hf⟩:=DataW.trod_struct hu h;cases hm;obtain⟨_,k2,k3⟩:=hK.struct bC hu;obtain⟨as,h1,h2,h3⟩:=Hg (P:=P) (w:=w) (cs:=cs) fs.toList 0 (λj f hf=>by rw[k3 j f hf];omega) (by rw[hl,k2];omega) λf hfm=>by
   obtain⟨i,hi,rfl⟩:=abo.1 hfm;have hg:fs.toList[i]?=some fs.toList[i]:=aag hi;have h1:=hf i fs.toList[i] (by simp);have hy:∃y,xs[i]?=some y:=⟨_,aag (by rw[hlen];simpa using hi)⟩;obtain⟨y,hy⟩:=hy;rw[hy]at h1;exact ih _ _ y (Mx _ hfm) h1
  exact⟨as,by simpa using h1,.SF hu as h2,h3⟩;cases Mx
def VK(P:Program)(t:TypeId)(a:AV):Prop:=(∃fs as,P.underlying t=some (.struct fs)/\a=.agg as/\Ty P t as)\/((∀fs,P.underlying t≠some (.struct fs))/\Ty P t [a])
def WW(P:Program):List TypeId->List AV->Prop
 |[],[]=>True|t::ts,a::as=>VK P t a/\WW P ts as|_,_=>False
theorem SI(hK:Kids P (· < P.types.size))(hp:Dq P ts=true){r:Reach}{base:Nat}{t:TypeId}{v:Value}{d:DataW H}{ps:List MemPlace}(ht:t∈ts)(dG:Value.okWide P w r base t v)
  (h:DataW.Trod enc P w 0 (λ_=>true) true t v d ps):∃a,bF w G0 a v/\VK P t a/\a.cS=true:=by
 obtain⟨n,hn⟩:=h;obtain⟨as,h1,h2,h3⟩:=WU hK hp n t _ _ ht hn;have one:v.cells = #[v]->(∀fs,P.underlying t≠some (.struct fs))->∃a,bF w G0 a v/\VK P t a/\a.cS=true:=by
  intro hc hs;rw[hc]at h1;obtain⟨e1,e2⟩:=h1;match as,e1,e2,h2,h3 with
  |[a],_,e2,h2,h3=>exact⟨a,e2 0 a v rfl rfl,.inr ⟨hs,h2⟩,by have:=h3.1;simpa [AV.fq] using this⟩
 have Mx:=aaB.1 hp t ht;simp only[aac,aK]at Mx;obtain⟨_,Mx⟩:=Mx;split at Mx;rename_i hu;obtain⟨b,rfl⟩:=WideShapes.okWide_bool hu dG;exact one rfl λfs h=>by rw[hu]at h;cases h
 rename_i k hu;obtain⟨b,rfl⟩:=WideShapes.okWide_int hu dG;exact one rfl λfs h=>by rw[hu]at h;cases h
 rename_i hu;obtain⟨b,rfl⟩:=WideShapes.okWide_string hu dG;exact one rfl λfs h=>by rw[hu]at h;cases h
 rename_i e hu;obtain⟨a,l,c,rfl⟩:=WideShapes.okWide_slice hu dG;exact one rfl λfs h=>by rw[hu]at h;cases h
 rename_i fs hu;obtain⟨cs,rfl,_⟩:=WideShapes.okWide_struct hu dG;refine⟨.agg as,.agg as cs (by simpa [Value.cells] using h1.1) λi c v e1 e2=>h1.2 i c v e1 (by simpa [Value.cells] using e2),.inl ⟨fs,as,hu,rfl,h2⟩,?_⟩;simp only[AV.cS];exact h3.1;cases Mx
theorem Hh(hK:Kids P (· < P.types.size))(hp:Dq P ts=true){r:Reach}{base:Nat}:∀{us:List TypeId}{vs:List Value}{ds:List (DataW H)}{ps:List MemPlace},(∀t∈us,t∈ts)->
  (∀(j:Nat) t v,us[j]?=some t->vs[j]?=some v->Value.okWide P w r base t v)->DataW.TrodAll enc P w 0 (λ_=>true) true us vs ds ps->∃as,cU w G0 as vs/\WW P us as/\AV.fq as=true
 |[],[],[],_,_,_,_=>⟨[],⟨rfl,λi c v h=>by simp at h⟩,trivial,rfl⟩
 |t::us,v::vs,d::ds,ps,hu,hv,h=>by
  obtain⟨p,q,h1,h2,rfl⟩:=h;obtain⟨a,a1,a2,a3⟩:=SI hK hp (hu t (by simp)) (hv 0 t v rfl rfl) h1;obtain⟨as,b1,b2,b3⟩:=Hh hK hp (λt ht=>hu t (by simp[ht])) (λj t v e1 e2=>hv (j+1) t v (by simpa using e1) (by simpa using e2)) h2;exact⟨a::as,cU.cons a1 b1,⟨a2,b2⟩,by simp[AV.fq,a3,b3]⟩
 |[],_::_,_,_,_,_,h=>h.elim|[],[],_::_,_,_,_,h=>h.elim|_::_,[],_,_,_,_,h=>h.elim|_::_,_::_,[],_,_,_,h=>h.elim
theorem y9(hK:Kids P (· < P.types.size))(hz:∀t e,t<P.types.size->P.underlying t=some (.slice e)->0<P.cellsOf e){sp:Nat->Bool}(SJ:∀b,b<w.heap.size->w'.heap[b]?=w.heap[b]?):∀{us:List TypeId}{vs:List Value}{ds:List (DataW H)}{ps:List MemPlace},(∀t∈us,t<P.types.size)->
  DataW.TrodAll enc P w 0 (λ_=>true) true us vs ds ps->(∀p∈ps,sp p.block=true)->DataW.TrodAll enc P w' 0 sp true us vs ds ps
 |[],[],[],_,_,h,_=>h|t::us,v::vs,d::ds,ps,hu,h,hs=>by
  obtain⟨p,q,⟨n,h1⟩,h2,rfl⟩:=h;refine⟨p,q,⟨n,DataW.trod_stays hK (fun {t e}=>hz t e) (λh=>by cases h) (hu t (by simp)) h1 (λx hx=>?_) λx hx=>hs x (by simp[hx])⟩,y9 hK hz SJ (λt ht=>hu t (by simp[ht])) h2 (λx hx=>hs x (by simp[hx])),rfl⟩;have bC:=DataW.trod_lt n t _ _ h1 x hx;cases x with
  |cell b off=>simp only[World.sameAt,World.cell?,SJ b bC]|map b=>exact SJ b bC
 |[],_::_,_,_,_,h,_=>h.elim|[],[],_::_,_,_,h,_=>h.elim|_::_,[],_,_,_,h,_=>h.elim|_::_,_::_,[],_,_,h,_=>h.elim
theorem SL(w:World):j8 w G0 []:=⟨rfl,λid ob loc h=>by simp at h,λb p h=>by cases h⟩
theorem It{may:MemPlace->Prop}(h1:w'.os=w.os)(h2:w'.output=w.output)(h3:∀b,b<w.heap.size->w'.heap[b]?=w.heap[b]?):w.keptBut w' may:=by
 refine⟨h1,h2,λi hi=>?_⟩;rw[h3 i hi];have:=Array.getElem?_eq_getElem hi;rw[this];cases w.heap[i] with
 |cells c t fr=>exact⟨rfl,rfl,rfl,λ_ _=>rfl⟩|map es clock=>exact .inr ⟨rfl,rfl⟩|_=>rfl
theorem Kt(_hsz:w.heap.size<=w'.heap.size)(h3:∀b,b<w.heap.size->w'.heap[b]?=w.heap[b]?)(a:Addr)(ha:a.block<w.heap.size):w'.frozen? a=w.frozen? a:=by
 simp only[World.frozen?,h3 a.block ha]
end
end Ax
namespace Ax
open Go Go.ChangeShapes
variable {P:Program}{w w':World}{G G':bD}{H:Type}{enc:TypeId×Value->H}
variable{f:FuncId}{args:Array Value}{tb:TypeId}
theorem SM{f:Func}{s:ChangeSpec}{lP fresh handsOn uU:Bool}{W W':World}{ds gs:List (DataW H)}{before:List MemPlace}
  (hK:Kids P (· < P.types.size))(hz:∀t e,t<P.types.size->P.underlying t=some (.slice e)->0<P.cellsOf e)(aaN:∀t∈f.params.toList,t<P.types.size)
  (hW:DataW.Whole enc P f.params.toList s.vars lP W args.toList ds gs before) (hv:s.vars=[]) (Gr:f.resultTypes = #[tb]) (htb:P.underlying tb=some .bool)
  (hr:(s.fn H ds).results=[.lit (.bool true)]) (ha:(s.fn H ds).args=ds) (CQ:(s.fn H ds).vars=[])
  (h1:W'.os=W.os) (h2:W'.output=W.output) (h4:W.heap.size<=W'.heap.size) (h3:∀b,b<W.heap.size->W'.heap[b]?=W.heap[b]?) :
  s.post enc P f lP fresh handsOn uU W args (.bool true) W':=by
 have hW':=hW;obtain⟨p,q,hA,hV,rfl,CS,hn⟩:=hW';rw[hv]at hV;cases gs with
 |cons _ _=>exact hV.elim|nil=>
  have hq:q=[]:=hV;subst hq;simp only[ac5]at hW CS hn;have ja:∀sp:Nat->Bool,(∀x∈p,sp x.block=true)->DataW.TrodAll enc P W' 0 sp true f.params.toList args.toList ds p:=λsp lI=>y9 hK hz h3 aaN hA lI;have My:∀x∈p,x.block<W.heap.size:=DataW.TrodAll.lt hA;have hold:∀x∈p,(λb=>decide (b<W.heap.size)) x.block=true:=λx hx=>by simpa using My x hx
  have qi:(Value.bool true).resultList f.resultTypes.size=[.bool true]:=by rw[Gr];rfl
  have uo:∀(b:Nat) (sp:Nat->Bool) (hd:Bool),DataW.TrodAll enc P W' b sp hd f.resultTypes.toList ((Value.bool true).resultList f.resultTypes.size) (s.fn H (ds++[])).results []:=λb sp hd=>by
   rw[ac5,hr,qi,Gr];exact⟨[],[],⟨1,by simp[DataW.trod,htb,Value.cells]⟩,rfl,rfl⟩
  refine⟨ds,[],p,[],p,[],hW,uo _ _ _,by rw[ac5,ha];exact ja _ hold,by rw[hv,ac5,CQ];rfl,It h1 h2 h3,λ_=>?_⟩;refine⟨λj t r e1 e2=>?_,[DataW.lit (.bool true)]++ds,[],p,⟨p,[],?_,(by rw[hv];exact(rfl:DataW.TrodVars enc P W' (λ_=>true) [] [] [])),by simp,?_,?_⟩,?_⟩;rw[Gr]at e1;rw[qi]at e2;cases j with
  |zero=>
   simp at e1 e2;subst e1;subst e2;exact RowKit.okWide_bool_mk htb true
  |succ j=>simp at e1
  have:=trodAll_append (ja _ (λ_ _=>rfl)) (uo 0 (λ_=>true) true);simpa [hr] using this;intro b off hp;rw[Kt h4 h3 _ (My _ hp)];exact CS b off hp;exact hn;intro x hx _;exact hx
theorem Mz{S:Nat->Option aL}(hT:Kq S P):kE S P (aZ S):=λwl aa f args st v st' h=>by
 obtain⟨n,hn⟩:=(uF S).call _ _ _ _ _ _ h;exact(Hf hT n).1 wl aa f args st v st' hn
theorem P8{S:Nat->Option aL}(hT:Kq S P)(hf:f<100000){as:List AV}{st':ay}(hc:(aZ S).call 0 0 f as []=some (.bool true,st')){W:World}(hR:cU W G0 as args.toList)(iI:AV.fq as=true) :
  Calls P f args W λe W'=>e=.returned (.bool true)/\W'.os=W.os/\W'.output=W.output/\W.heap.size<=W'.heap.size/\∀b,b<W.heap.size->W'.heap[b]?=W.heap[b]?:=by
 obtain⟨sf,h1,h2,h3,h4⟩:=Mz hT _ _ _ _ _ _ _ hc;have hz:∀b,cL b as args.toList+cR b G0.ls []=0:=λb=>by rw[eS b _ _ iI];simp[cR]
 have:=h4 W G0 args.toList hR (SL W) (λb=>by rw[hz b];omega);rw[h3 hf]at this;refine this.mono λe W' h=>?_;obtain⟨u,G',rfl,r1,r2,r3⟩:=h;refine⟨by rw[bF.kA r1],r3.os,r3.out,r3.size,λb hb=>(r3.w8 b hb (hz b)).2⟩
structure afy (S:Nat->Option aL)(C:Checked)(ts:List TypeId):Prop where
 k8:ownKnob C.prog.godebug=none
 tab:Kq S C.prog
 aG:Kids C.prog (· < C.prog.types.size)
 ajT:∀t e,t<C.prog.types.size->C.prog.underlying t=some (.slice e)->0<C.prog.cellsOf e
 plain:Dq C.prog ts=true
theorem law_lifted{S:Nat->Option aL}{C:Checked}{ts:List TypeId}(hh:afy S C ts){os:Os}(started:os.Started){fn:Func}{s:ChangeSpec}{conds:List PathCond}{lP fresh handsOn uU:Bool}
  (aaO:C.prog.inits.idxOf? f=none)(Om:C.prog.funcs[f]?=some fn)(hf:f<100000)
  (witness:∃(w:World) (tape:Tape) (i:Input),w.os=os/\(w.forCall tape i).Shaped C.prog/\i.vars=[]/\Input.okWide C.prog (w.forCall tape i) .any w.heap.size f i/\
   s.pre6 enc C.prog fn conds lP (w.forCall tape i).memory i.args/\({}:Assume).holds C.prog (lone (Frame.enter C.prog f i.args .normal) [] (w.forCall tape i)))
  (aaN:(fn.params.toList.all λt=>ts.contains t&&decide (t<C.prog.types.size))=true) (hv:s.vars=[]) (Gr:fn.resultTypes = #[tb]) (htb:C.prog.underlying tb=some .bool)
  (afz:∀ds:List (DataW H),ds.length=fn.params.toList.length->(s.fn H ds).results=[.lit (.bool true)]/\(s.fn H ds).args=ds/\(s.fn H ds).vars=[])
  (cK:∀as,WW C.prog fn.params.toList as->∃st',(aZ S).call 0 0 f as []=some (.bool true,st')) :
  ReturnsInHanded {} C os f .any (s.pre6 enc C.prog fn conds lP) (s.post enc C.prog fn lP fresh handsOn uU):=by
 refine returnsInHanded_of_change hh.k8 started aaO Om witness ?_;intro W base args ds gs before dG hW _ _;have hp:∀t∈fn.params.toList,t∈ts/\t<C.prog.types.size:=λt ht=>by
  have:=aaB.1 aaN t ht;simpa using this
 obtain⟨p,q,hA,hV,hb,_,_⟩:=id hW;obtain⟨as,a1,a2,a3⟩:=Hh hh.aG hh.plain (λt ht=>(hp t ht).1) (λj t v e1 e2=>dG j t v (by simpa using e1) (by simpa using e2)) hA;obtain⟨st',hc⟩:=cK as a2;have hlen:∀(us:List TypeId) (vs:List Value) (ds:List (DataW H)) (p:List MemPlace),DataW.TrodAll enc C.prog W 0 (λ_=>true) true us vs ds p->ds.length=us.length:=by
  intro us;induction us with
  |nil=>intro vs ds p h;cases vs with
   |nil=>cases ds with
    |nil=>rfl|cons _ _=>exact h.elim
   |cons _ _=>cases ds<;>exact h.elim
  |cons t us ih=>intro vs ds p h;cases vs with
   |nil=>cases ds<;>exact h.elim|cons v vs=>cases ds with
    |nil=>exact h.elim|cons d ds=>
     obtain⟨_,_,_,h2,_⟩:=h;simp[ih vs ds _ h2]
 obtain⟨s1,s2,s3⟩:=afz ds (hlen _ _ _ _ hA);refine(P8 hh.tab hf hc a1 a3).mono λe W' h=>?_;obtain⟨rfl,h1,h2,h3,h4⟩:=h;exact⟨_,rfl,SM hh.aG hh.ajT (λt ht=>(hp t ht).2) hW hv Gr htb s1 s2 s3 h1 h2 h3 h4⟩
end Ax
namespace Ax
open Go
def ym(S:Nat->Option aL)(P:Program):Nat->List (Option aL)->Bool
 |_,[]=>true|k,none::l=>ym S P (k+1) l|k,some sf::l=>Ol S P sf&&(decide (100000<=k)||sf.eP==k)&&ym S P (k+1) l
theorem vK{S:Nat->Option aL}{P:Program}:∀{l:List (Option aL)}{k:Nat},ym S P k l=true->∀(i:Nat) sf,l[i]?=some (some sf)->Ol S P sf=true/\(k+i<100000->sf.eP=k+i)
 |[],_,_,i,sf,h=>by simp at h|none::l,k,h,i,sf,hi=>by
  cases i with
  |zero=>simp at hi|succ i=>
   have:=vK (l:=l) (k:=k+1) h i sf (by simpa using hi);rw[show k+1+i=k+(i+1) by omega]at this;exact this
 |some s::l,k,h,i,sf,hi=>by
  simp only[ym,aac,acJ,aK,cz]at h;obtain⟨⟨h1,h2⟩,h3⟩:=h;cases i with
  |zero=>
   simp at hi;subst hi;exact⟨h1,λhk=>by omega⟩
  |succ i=>
   have:=vK (l:=l) (k:=k+1) h3 i sf (by simpa using hi);rw[show k+1+i=k+(i+1) by omega]at this;exact this
theorem WX{VU HU:List (Option aL)}{P:Program}(h1:ym (Rv VU HU) P 0 VU=true)(h2:ym (Rv VU HU) P 100000 HU=true):Kq (Rv VU HU) P:=by
 intro f sf hf;unfold Rv at hf;split at hf;cases hg:VU[f]? with
 |none=>rw[hg]at hf;cases hf|some x=>
  rw[hg]at hf;simp only[adB]at hf;subst hf;have:=vK h1 f sf hg;exact⟨this.1,λh=>by have:=this.2 (by omega);omega⟩
 rename_i bC;cases hg:HU[f-100000]? with
 |none=>rw[hg]at hf;cases hf|some x=>
  rw[hg]at hf;simp only[adB]at hf;subst hf;have:=vK h2 (f-100000) sf hg;exact⟨this.1,λh=>aU h bC⟩
end Ax
