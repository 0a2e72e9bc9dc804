/- Part of a proof. -/
import Derived.Test.YtgblgbgjmgjfkaaGreatA4
import Derived.Scope
import Derived.ChangeStays
import Derived.ChangeSame
import Derived.ChangeOld
import Derived.ChangeArms
import Derived.JoinedOf
import Derived.RowKit3
import Derived.ReadAgain
import Derived.Handed

open List renaming mem_append->aed,getElem?_eq_getElem->aas,all_eq_true->ac3,contains_eq_mem->aiU,getElem?_eq_some_iff->aac,map_cons->aei,mem_map->ad7,mem_filter->ao6,getElem?_set_ne->ad6,ext_getElem?->aiJ,drop_eq_getElem_cons->adB,getElem?_set->aek,getElem?_take->aeq,getElem?_drop->agL,mem_or_eq_of_mem_set->aeT,getElem?_append_left->acJ,getElem?_eq_none->aeQ,replicate->acp,sum_cons->aqt,mem_iff_getElem->aec,append_nil->afe
open Option renaming mem_toList->amt,getD_some->ahB,bind_eq_some_iff->ack
open Nat renaming le_refl->acO,lt_trichotomy->aow,le_of_lt->ank,lt_trans->aog,le_trans->aeM,lt_or_ge->aiM,eq_zero_or_pos->aiN
open Bool renaming and_eq_true->Ee,not_eq_true'->afh,or_eq_true->aet,false_eq_true->acC
open Array renaming getD->an1,getElem?_eq_some_iff->ael,replicate->aml,size_replicate->aom
namespace Ax
open Go
variable {S:Nat->Option aL}{P:Program}{O:mC}{wl ah:Nat}
theorem GR:∀{m:List ct}{s e:St}{lX:List St},cR O wl ah m s=some (e,lX)->
  lX.length=m.length+1/\lX[0]?=some s/\lX[m.length]?=some e/\∀(i:Nat) so,m[i]?=some so->∃x y,lX[i]?=some x/\lX[i+1]?=some y/\jA O wl ah so x=some y
 |[],s,e,lX,h=>by
  simp only[cR,bw,cL]at h;obtain⟨rfl,rfl⟩:=h;exact⟨rfl,rfl,rfl,λi so h=>by simp at h⟩
 |o::m,s,e,lX,h=>by
  simp only[cR]at h;split at h;rename_i B Z;split at h;rename_i E L z;cases h;obtain⟨q,r,t,v⟩:=GR z;refine⟨by simp[q],rfl,by simpa using t,λi so g=>?_⟩;cases i with
  |zero=>simp at g;subst g;exact⟨s,B,rfl,by simpa using r,Z⟩|succ i=>
   obtain⟨x,y,j,l,p⟩:=v i so (by simpa using g);exact⟨x,y,by simpa using j,by simpa using l,p⟩
  cases h;cases h
structure ajG (S:Nat->Option aL)(O:mC)(wl ah:Nat)(so:ct)(s t:St):Prop where
 AQ:∀u,u ∉ vZ so->dZ t.env u=dZ s.env u
 aui:∀b,so.op.bW≠some b->t.bx[b]?=s.bx[b]?
 aff:t.bx.length=s.bx.length
 ajH:so.op.tO S=false->t.st=s.st
 non:pZ s.env so.guard=some false->dZ t.env=mO (dZ s.env) so.dst (.val .undef)/\t.bx=s.bx/\t.st=s.st
 yes:pZ s.env so.guard=some true->∃e,xO O wl ah so.op (so.args.map (O9 s.env)) s.st s.bx=some (e,t.st,t.bx)/\dZ t.env=mO (lU (dZ s.env) (uM so.args)) so.dst e
 wan:pZ s.env so.guard≠none
theorem auj{so:ct}{s t:St}(y:GQ S O)(h:jA O wl ah so s=some t):ajG S O wl ah so s t:=by
 unfold jA at h;split at h;cases h;rename_i j;cases h;refine⟨λu g=>?_,λ_ _=>rfl,rfl,λ_=>rfl,λ_=>⟨mJ _ _ _,rfl,rfl⟩,λh=>(by rw[j]at h;cases h),(by rw[j];simp)⟩;simp only[vZ,aed,amt,not_or]at g;rw[mJ];simp only[mO];rw[U g.1];rename_i j;split at h;cases h;rename_i e p I l;have v:t=⟨CB (so.args.foldl pG s.env) so.dst e,I,p⟩->ajG S O wl ah so s t:=by
  intro X;subst X;have r:dZ (CB (so.args.foldl pG s.env) so.dst e)=mO (lU (dZ s.env) (uM so.args)) so.dst e:=by rw[mJ,zh]
  have q:(∀b,so.op.bW≠some b->I[b]?=s.bx[b]?)/\I.length=s.bx.length:=by
   obtain⟨DB,C,x,E,F,V,z⟩:=Qi (DB:=s.bx) rfl (λ_ _=>rfl) l;exact⟨z,x⟩
  refine⟨λu g=>?_,q.1,q.2,λB=>U4 y B l,λh=>(by rw[j]at h;cases h),λ_=>⟨e,l,r⟩,(by rw[j];simp)⟩;simp only[vZ,aed,amt,not_or]at g;show dZ (CB (so.args.foldl pG s.env) so.dst e) u=_;rw[r];simp only[mO,lU];rw[U g.1,U g.2]
 split at h;cases h;exact v rfl;split at h;cases h;exact v rfl;cases h
structure Text (S:Nat->Option aL)(O:mC)(wl ah:Nat)(m:List ct)(T:Nat->St):Prop where
 one:∀(i:Nat) so,m[i]?=some so->ajG S O wl ah so (T i) (T (i+1))
def S6(m:List ct)(T:Nat->St)(k:Nat)(t:Nat):Option fz:=match m[k]? with
 |some so=>if t∈vZ so then some (dZ (T (k+1)).env t) else none
 |none=>none
def S7(m:List ct)(T:Nat->St)(k:Nat)(b:Nat):Option (Option (List AV)):=match m[k]? with
 |some so=>if so.op.bW=some b then some ((T (k+1)).bx[b]?) else none
 |none=>none
def S8(S:Nat->Option aL)(m:List ct)(T:Nat->St)(k:Nat)(_:Unit):Option aj:=match m[k]? with
 |some so=>if so.op.tO S=true then some (T (k+1)).st else none
 |none=>none
abbrev vT(m:List ct)(T:Nat->St)(D:Nat->Bool)(t:Nat):fz:=tu (dZ (T 0).env) (S6 m T) D m.length t
abbrev vB(m:List ct)(T:Nat->St)(D:Nat->Bool)(b:Nat):Option (List AV):=tu (λb=>(T 0).bx[b]?) (S7 m T) D m.length b
abbrev vS(S:Nat->Option aL)(m:List ct)(T:Nat->St)(D:Nat->Bool):aj:=tu (λ_=>(T 0).st) (S8 S m T) D m.length ()
section
variable {m:List ct}{T:Nat->St}
theorem aah(h:Text S O wl ah m T){j:Nat}(X:j<=m.length)(t:Nat):vT m T (λk=>decide (k<j)) t=dZ (T j).env t:=by
 refine FH (st:=λk t=>dZ (T k).env t) (λ_=>rfl) (λk l x=>?_) X t;have g:m[k]?=some m[k]:=aas l;simp only[S6,g];split
 rfl
 rename_i p;exact(h.one k _ g).AQ x p
theorem aai(h:Text S O wl ah m T){j:Nat}(X:j<=m.length)(b:Nat):vB m T (λk=>decide (k<j)) b=(T j).bx[b]?:=by
 refine FH (st:=λk b=>(T k).bx[b]?) (λ_=>rfl) (λk l x=>?_) X b;have g:m[k]?=some m[k]:=aas l;simp only[S7,g];split
 rfl
 rename_i p;exact(h.one k _ g).aui x p
theorem aaj(h:Text S O wl ah m T){j:Nat}(X:j<=m.length):vS S m T (λk=>decide (k<j))=(T j).st:=by
 refine FH (st:=λk (_:Unit)=>(T k).st) (λ_=>rfl) (λk l x=>?_) X ();have g:m[k]?=some m[k]:=aas l;simp only[S8,g];split
 rfl
 rename_i p;exact(h.one k _ g).ajH (by simpa using p)
theorem U8(D:Nat->Bool):∀(N:Nat),N<=m.length->∃p,p<=N/\tu (λ_=>(T 0).st) (S8 S m T) D N ()=(T p).st/\
  (p=0\/∃q so,p=q+1/\m[q]?=some so/\D q=true/\so.op.tO S=true)/\∀(j:Nat) so,p<=j->j<N->m[j]?=some so->so.op.tO S=true->D j=false
 |0,_=>⟨0,acO _,rfl,.inl rfl,λj so x t=>by omega⟩
 |N+1,C=>by
  obtain⟨p,x,t,y,z⟩:=U8 D N (by omega);have r:m[N]?=some m[N]:=aas (by omega);by_cases l:D N=true/\(m[N]).op.tO S=true;refine⟨N+1,acO _,?_,.inr ⟨N,m[N],rfl,r,l.1,l.2⟩,λj so V B=>by omega⟩;simp only[tu,l.1,S8,r,bh,l.2,ahB];refine⟨p,by omega,?_,y,λj so V B Y v=>?_⟩;simp only[tu];cases g:D N with
  |false=>simpa using t|true=>
   have:¬(m[N]).op.tO S=true:=λh=>l ⟨g,h⟩;simp only[S8,r,bh];rw[U this];simpa using t
  by_cases X:j=N;subst X;rw[r]at Y;cases Y;cases g:D j with
  |false=>rfl|true=>exact au ⟨g,v⟩ l
  exact z j so V (by omega) Y v
theorem Ef(h:Text S O wl ah m T){p:Nat}:∀(d:Nat),p+d<=m.length->(∀(j:Nat) so,p<=j->j<p+d->m[j]?=some so->so.op.tO S=false)->(T (p+d)).st=(T p).st
 |0,_,_=>rfl|d+1,t,g=>by
  have l:m[p+d]?=some m[p+d]:=aas (by omega);have e:=(h.one (p+d) _ l).ajH (g (p+d) _ (by omega) (by omega) l);rw[show p+(d+1)=p+d+1 by omega,e];exact Ef h d (by omega) λj so q r=>g j so q (by omega)
theorem U9(S:Nat->Option aL)(m:List ct)(p:Nat):∀(d:Nat),p+d<=m.length->(∀(j:Nat) so,p<=j->j<p+d->m[j]?=some so->so.op.tO S=false)\/
  ∃(w:Nat) (so:ct),p<=w/\w<p+d/\m[w]?=some so/\so.op.tO S=true/\∀(j:Nat) so,p<=j->j<w->m[j]?=some so->so.op.tO S=false
 |0,_=>.inl λj so r x=>by omega|d+1,B=>by
  rcases U9 S m p d (by omega) with h|⟨w,so,r,x,y,z,V⟩;have t:m[p+d]?=some m[p+d]:=aas (by omega);cases v:(m[p+d]).op.tO S with
  |true=>exact .inr ⟨p+d,_,by omega,by omega,t,v,λj so g q=>h j so g q⟩|false=>
   refine .inl λj so g q l=>?_;by_cases X:j=p+d;subst X;rw[t]at l;cases l;exact v;exact h j so g (by omega) l
  exact .inr ⟨w,so,r,by omega,y,z,V⟩
end
end Ax
namespace Ax
open Go
variable {S:Nat->Option aL}{P:Program}{O:mC}{wl ah n:Nat}
variable {dK:Array Oper}{m:List ct}{cA:List (Nat×Nat)}{T:Nat->St}{xp:Option (Nat×Nat×aj)}
structure Spc (S:Nat->Option aL)(O:mC)(wl ah:Nat)(m:List ct)(cA:List (Nat×Nat))(T:Nat->St)(p q:Nat)(X:aj):Prop where
 lt:p<q
 ql:q<m.length
 mem:(100000+p,q)∈cA
 wp:∀a,m[p]?=some a->a.op.tO S=true/\a.guard=none
 wq:∀a,m[q]?=some a->a.op.tO S=true/\a.guard=none
 gap:∀(j:Nat) o,p<j->j<q->m[j]?=some o->o.op.tO S=false
 un:∀i j,i<100000->(100000+i,j)∈cA->i=p/\j=q
 cl:∀k w,(k,w)∈cA->k<100000->w=p\/w=q->(100000*(k+2)+p,q)∈cA
 x1:∀a,m[q]?=some a->∀e bx iz,xO O wl ah a.op (a.args.map (O9 (T q).env)) (T q).st bx=some (e,(T (q+1)).st,iz)->xO O wl ah a.op (a.args.map (O9 (T q).env)) (T p).st bx=some (e,X,iz)
 x2:∀a,m[p]?=some a->∀e bx iz,xO O wl ah a.op (a.args.map (O9 (T p).env)) (T p).st bx=some (e,(T (p+1)).st,iz)->xO O wl ah a.op (a.args.map (O9 (T p).env)) X bx=some (e,(T (q+1)).st,iz)
 rd:∀k,(100000*(k+2)+p,q)∈cA->∀o,m[k]?=some o->cw O wl ah o (T k) (T (k+1)) X=true
structure Sl (S:Nat->Option aL)(P:Program)(O:mC)(wl ah n:Nat)(dK:Array Oper)(m:List ct)(cA:List (Nat×Nat))(T:Nat->St)(xp:Option (Nat×Nat×aj)):Prop where
 dr:aim S P dK n m cA
 tx:Text S O wl ah m T
 pr:∀q w,q<100000->(q,w)∈cA->∀o,m[q]?=some o->cw O wl ah o (T q) (T (q+1)) (T w).st=true/\cw O wl ah o (T q) (T (q+1)) (T (w+1)).st=true
 sn:xp=none->∀i j,i<100000->(100000+i,j) ∉ cA
 sp:∀p q X,xp=some (p,q,X)->Spc S O wl ah m cA T p q X
 bo:∀(i:Nat) so j,m[i]?=some so->so.op.bM=some j->AI j (T 0).env=true
 pu:GQ S O
variable{j:Nat}{b:ct}
theorem Ie{i:Nat}{a:ct}(h:nG S cA i j a b=true):(∀t,t∈vZ a->t ∉ DC b/\t ∉ vZ b)/\(∀t,t∈vZ b->t ∉ DC a):=by
 simp only[nG,Ee,ac3,afh,aiU,decide_eq_false_iff_not]at h;exact⟨h.1.1.1.1.1.1,h.1.1.1.1.1.2⟩
theorem Nh{i:Nat}{a:ct}(h:nG S cA i j a b=true):(∀x,a.op.bW=some x->b.op.bA≠some x)/\(∀x,b.op.bW=some x->a.op.bA≠some x):=by
 simp only[nG,Ee]at h;obtain⟨⟨⟨⟨⟨_,g⟩,p⟩,_⟩,_⟩,_⟩:=h;refine⟨λx l=>?_,λx l=>?_⟩;rw[l]at g;simpa using g;rw[l]at p;simpa using p
theorem Eg{i:Nat}{a:ct}(h:nG S cA i j a b=true):(a.op.tO S=true/\b.op.tO S=true->(100000+i,j)∈cA)/\(a.op.S5=true\/b.op.tO S=false\/a.op.tO S=true\/(i,j)∈cA)/\(b.op.S5=true\/a.op.tO S=false\/b.op.tO S=true\/(j,i)∈cA):=by
 simp only[nG,Ee,aet,afh,Bool.and_eq_false_iff,aiU,aA]at h;obtain⟨⟨⟨_,g⟩,l⟩,V⟩:=h;refine⟨λ⟨x,y⟩=>?_,by rcases l with ((h|h)|h)|h<;>simp[h],by rcases V with ((h|h)|h)|h<;>simp[h]⟩;rcases g with (h|h)|h;rw[x]at h;cases h;rw[y]at h;cases h;exact h
theorem aio{op:fZ}{x:Nat}(h:op.bW=some x):op.bA=some x:=by
 cases op<;>simp[fZ.bW]at h<;>simp[fZ.bA,h]
structure KZ (dK:Array Oper)(m:List ct)(D:Nat->Bool)(k:Nat)(o:Oper)(so:ct):Prop where
 down:aaf dK D
 ho:dK[k]?=some o
 hs:m[k]?=some so
 pre:∀p∈rO o,D p=true
 new:D k=false
theorem KZ.nG(z:Sl S P O wl ah n dK m cA T xp){D:Nat->Bool}{k:Nat}{o:Oper}{so:ct}(h:KZ dK m D k o so)(X:m[j]?=some b)(l:D j≠decide (j<k)) :
  (j<k/\D j=false/\nG S cA j k b so=true)\/(k<j/\D j=true/\nG S cA k j so b=true):=by
 rcases aow j k with g|g|g;have:D j=false:=by rw[cz g]at l;simpa using l
 exact .inl ⟨g,this,z.dr.apA D h.down k o h.ho h.pre j b so g this X h.hs⟩;subst g;exact au (h.new.trans (by simp)) l;have:D j=true:=by rw[eX (by omega)]at l;simpa using l
 exact .inr ⟨g,this,z.dr.apB D h.down k j so b g h.new this h.hs X⟩
section
variable {D:Nat->Bool}{k:Nat}{o:Oper}{so:ct}
theorem KZ.lt(h:KZ dK m D k o so):k<m.length:=(aac.1 h.hs).1
theorem KZ.afg(z:Sl S P O wl ah n dK m cA T xp)(h:KZ dK m D k o so){t:Nat}(X:t∈vZ so\/t∈DC so):vT m T D t=dZ (T k).env t:=by
 rw[<-aah z.tx (ank h.lt)];refine qy λj q p=>?_;have l:m[j]?=some m[j]:=aas q;simp only[S6,l];rw[U];intro x;rcases h.nG z l p with⟨_,_,g⟩|⟨_,_,g⟩;have:=(Ie g).1 t x;rcases X with X|X;exact this.2 X;exact this.1 X;rcases X with X|X;exact((Ie g).1 t X).2 x;exact(Ie g).2 t x X
theorem KZ.box(z:Sl S P O wl ah n dK m cA T xp)(h:KZ dK m D k o so){b:Nat}(l:so.op.bA=some b):vB m T D b=(T k).bx[b]?:=by
 rw[<-aai z.tx (ank h.lt)];refine qy λj X r=>?_;have p:m[j]?=some m[j]:=aas X;simp only[S7,p];rw[U];intro q;rcases h.nG z p r with⟨_,_,g⟩|⟨_,_,g⟩;exact(Nh g).1 b q l;exact(Nh g).2 b q l
def vX(S:Nat->Option aL)(m:List ct)(T:Nat->St)(xp:Option (Nat×Nat×aj))(D:Nat->Bool):aj:=match xp with
 |some (p,q,X)=>if D q && !D p then X else vS S m T D
 |none=>vS S m T D
theorem v7{D:Nat->Bool}(h:∀p q X,xp=some (p,q,X)->D q=true->D p=true):vX S m T xp D=vS S m T D:=by
 unfold vX;cases xp with
 |none=>rfl|some x=>
  obtain⟨p,q,X⟩:=x;simp only;rw[U];intro g;simp only[Ee,afh]at g;rw[h p q X rfl g.1]at g;cases g.2
theorem Jz{D:Nat->Bool}{p q:Nat}{X:aj}(l:xp=some (p,q,X))(h:D q=true)(g:D p=false):vX S m T xp D=X:=by
 unfold vX;rw[l];simp[h,g]
theorem Sl.two(z:Sl S P O wl ah n dK m cA T xp){i j:Nat}{a b:ct}(v:m[i]?=some a)(h:nG S cA i j a b=true)(r:a.op.tO S=true)(t:b.op.tO S=true):∃X,xp=some (i,j,X):=by
 have g:=(Eg h).1 ⟨r,t⟩;have J:i<100000:=aog (aac.1 v).1 z.dr.Jx;cases l:xp with
 |none=>exact au g (z.sn l i j J)|some x=>
  obtain⟨p,q,X⟩:=x;obtain⟨rfl,rfl⟩:=(z.sp p q X l).un i j J g;exact⟨X,rfl⟩
theorem KZ.aak(z:Sl S P O wl ah n dK m cA T xp)(h:KZ dK m D k o so)(t:so.op.tO S=true){j:Nat}{b:ct}(r:m[j]?=some b)(q:b.op.tO S=true)(v:D j≠decide (j<k)) :
  (j<k/\D j=false/\∃X,xp=some (j,k,X))\/(k<j/\D j=true/\∃X,xp=some (k,j,X)):=by
 rcases h.nG z r v with⟨g,l,p⟩|⟨g,l,p⟩;exact .inl ⟨g,l,z.two r p q t⟩;exact .inr ⟨g,l,z.two h.hs p t q⟩
theorem Sl.at(z:Sl S P O wl ah n dK m cA T xp){D:Nat->Bool}{t:Nat}(q:t<=m.length)(h:∀(j:Nat) b,m[j]?=some b->b.op.tO S=true->D j=decide (j<t)):vS S m T D=(T t).st:=by
 rw[<-aaj z.tx q];refine qy λj X p=>?_;have l:m[j]?=some m[j]:=aas X;simp only[S8,l];rw[U];intro g;exact p (h j _ l g)
def nB(D:Nat->Bool)(k:Nat):Nat->Bool:=λj=>if j=k then true else D j
theorem uN{j:Nat}(h:j≠k):nB D k j=D j:=by simp[nB,h]
theorem Eh:nB D k k=true:=by simp[nB]
theorem KZ.aip(I:Sl S P O wl ah n dK m cA T xp)(h:KZ dK m D k o so)(hw:so.op.tO S=true) :
  (vX S m T xp D=(T k).st/\vX S m T xp (nB D k)=(T (k+1)).st)\/
  (∃p X,xp=some (p,k,X)/\vX S m T xp D=(T p).st/\vX S m T xp (nB D k)=X)\/
  (∃q X,xp=some (k,q,X)/\vX S m T xp D=X/\vX S m T xp (nB D k)=(T (q+1)).st):=by
 have hk:=h.lt;have plain:(∀(j:Nat) b,m[j]?=some b->b.op.tO S=true->D j=decide (j<k))->vS S m T D=(T k).st/\vS S m T (nB D k)=(T (k+1)).st:=λL=>by
  refine⟨I.at (ank hk) L,I.at hk λj b r l=>?_⟩;by_cases U:j=k;subst U;rw[Eh];simp;rw[uN U,L j b r l];exact decide_eq_decide.2 ⟨λh=>by omega,λh=>by omega⟩
 cases t:xp with
 |none=>
  refine .inl ?_;have:=plain λj b r l=>Classical.byContradiction λy=>by
   rcases h.aak I hw r l y with⟨_,_,X,e⟩|⟨_,_,X,e⟩<;>rw[t]at e<;>cases e
  exact this
 |some x=>
  obtain⟨p,q,X⟩:=x;have F:=I.sp p q X t;have Va:q<m.length:=F.ql;have MU:p<m.length:=aog F.lt Va;have W:m[p]?=some m[p]:=aas MU;have Y:m[q]?=some m[q]:=aas Va;have hpw:=(F.wp _ W).1;have hqw:=(F.wq _ Y).1;have PK:=F.lt;rw[<-t];have other:∀(j:Nat) b,m[j]?=some b->b.op.tO S=true->D j≠decide (j<k)->(j=p/\k=q/\D p=false)\/(k=p/\j=q/\D q=true):=λj b r l y=>by
   rcases h.aak I hw r l y with⟨_,g,B,e⟩|⟨_,g,B,e⟩;rw[t]at e;cases e;exact .inl ⟨rfl,rfl,g⟩;rw[t]at e;cases e;exact .inr ⟨rfl,rfl,g⟩
  by_cases E:k=q;subst E;cases z:D p with
  |true=>
   refine .inl ?_;have L:∀(j:Nat) b,m[j]?=some b->b.op.tO S=true->D j=decide (j<k):=λj b r l=>Classical.byContradiction λy=>by
    rcases other j b r l y with⟨_,_,g⟩|⟨g,_,_⟩;rw[z]at g;cases g;omega
   rw[v7 λK Q B e v=>?_,v7 λK Q B e v=>?_];exact plain L;rw[t]at e;cases e;rw[uN (by omega)];exact z;rw[t]at e;cases e;exact z
  |false=>
   refine .inr (.inl ⟨p,X,t,?_,?_⟩);rw[v7 λK Q B e v=>by rw[t]at e;cases e;rw[h.new]at v;cases v];refine I.at (by omega) λj b r l=>?_;by_cases R:j=p;subst R;rw[z];simp;by_cases U:j=k;subst U;rw[h.new];symm;rw[decide_eq_false_iff_not];omega;by_cases M:p<j/\j<k;have:=F.gap j b M.1 M.2 r;rw[this]at l;cases l;have:D j=decide (j<k):=Classical.byContradiction λy=>by
    rcases other j b r l y with⟨g,_,_⟩|⟨g,_,_⟩;exact R g;omega
   rw[this];exact decide_eq_decide.2 ⟨λh=>by omega,λh=>by omega⟩;exact Jz t Eh (by rw[uN (by omega)];exact z)
  by_cases J:k=p;subst J;cases C:D q with
  |false=>
   refine .inl ?_;have L:∀(j:Nat) b,m[j]?=some b->b.op.tO S=true->D j=decide (j<k):=λj b r l=>Classical.byContradiction λy=>by
    rcases other j b r l y with⟨_,g,_⟩|⟨_,_,g⟩;exact E g;rw[C]at g;cases g
   rw[v7 λK Q B e v=>?_,v7 λK Q B e v=>?_];exact plain L;rw[t]at e;cases e;exact Eh;rw[t]at e;cases e;rw[C]at v;cases v
  |true=>
   refine .inr (.inr ⟨q,X,t,Jz t C h.new,?_⟩);rw[v7 λK Q B e v=>by rw[t]at e;cases e;exact Eh];refine I.at F.ql λj b r l=>?_;by_cases U:j=k;subst U;rw[Eh];symm;rw[decide_eq_true_iff];omega;rw[uN U];by_cases V:j=q;subst V;rw[C];simp;by_cases M:k<j/\j<q;have:=F.gap j b M.1 M.2 r;rw[this]at l;cases l;have:D j=decide (j<k):=Classical.byContradiction λy=>by
    rcases other j b r l y with⟨g,_,_⟩|⟨_,g,_⟩;exact U g;exact V g
   rw[this];exact decide_eq_decide.2 ⟨λh=>by omega,λh=>by omega⟩
  refine .inl ?_;have L:∀(j:Nat) b,m[j]?=some b->b.op.tO S=true->D j=decide (j<k):=λj b r l=>Classical.byContradiction λy=>by
   rcases other j b r l y with⟨_,g,_⟩|⟨g,_,_⟩;exact E g;exact J g
  have N:D q=true->D p=true:=λv=>Classical.byContradiction λhp=>by
   have Xt:D p=false:=(by simpa using hp);have Z:=L p _ W hpw;have g2:=L q _ Y hqw;rw[Xt]at Z;rw[v]at g2;have Z:=of_decide_eq_false Z.symm;have g2:=of_decide_eq_true g2.symm;omega
  rw[v7 λK Q B e v=>?_,v7 λK Q B e v=>?_];exact plain L;rw[t]at e;cases e;rw[uN (λe=>E e.symm)]at v;rw[uN (λe=>J e.symm)];exact N v;rw[t]at e;cases e;exact N v
theorem KZ.still(h:KZ dK m D k o so)(z:Sl S P O wl ah n dK m cA T xp)(g:so.op.tO S=false):vX S m T xp (nB D k)=vX S m T xp D:=by
 have e:vS S m T (nB D k)=vS S m T D:=by
  refine qy λj B l=>?_;by_cases r:j=k;subst r;simp[S8,h.hs,g];rw[uN r]at l;exact au rfl l
 cases y:xp with
 |none=>simp only[vX];exact e|some x=>
  obtain⟨p,q,X⟩:=x;have F:=z.sp p q X y;have t:p≠k:=λU=>by subst U;have:=(F.wp _ h.hs).1;rw[g]at this;cases this
  have v:q≠k:=λU=>by subst U;have:=(F.wq _ h.hs).1;rw[g]at this;cases this
  simp only[vX,uN t,uN v,e]
theorem KZ.aum(z:Sl S P O wl ah n dK m cA T xp)(h:KZ dK m D k o so)(y:so.op.S5=false)(C:so.op.tO S=false) :
  vX S m T xp D=(T k).st\/cw O wl ah so (T k) (T (k+1)) (vX S m T xp D)=true:=by
 have Z:k<100000:=aog h.lt z.dr.Jx;by_cases v:∃p q X,xp=some (p,q,X)/\D q=true/\D p=false;obtain⟨p,q,X,I,l,g⟩:=v;right;have F:=z.sp p q X I;rw[Jz I l g];refine F.rd k ?_ so h.hs;have M:q<m.length:=F.ql;have U:p<m.length:=aog F.lt M;have B:m[p]?=some m[p]:=aas U;have x:m[q]?=some m[q]:=aas M;rcases aow k q with E|E|E;have r:=z.dr.apB D h.down k q so _ E h.new l h.hs x;rcases (Eg r).2.1 with e|e|e|e;rw[y]at e;cases e;rw[(F.wq _ x).1]at e;cases e;rw[C]at e;cases e;exact F.cl k q e Z (.inr rfl);subst E;rw[h.new]at l;cases l;have r:=z.dr.apA D h.down k o h.ho h.pre p _ so (by have:=F.lt;omega) g B h.hs;rcases (Eg r).2.2 with e|e|e|e;rw[y]at e;cases e;rw[(F.wp _ B).1]at e;cases e;rw[C]at e;cases e;exact F.cl k p e Z (.inl rfl);rw[v7 λp q X I l=>Classical.byContradiction λg=>v ⟨p,q,X,I,l,by simpa using g⟩];obtain⟨p,h1,h2,Q,h4⟩:=U8 (S:=S) (m:=m) (T:=T) D m.length (acO _);have L:vS S m T D=(T p).st:=h2;have hk:=h.lt;have pair:∀(w:Nat) b,m[w]?=some b->b.op.tO S=true->D w≠decide (w<k)->(k,w)∈cA:=by
  intro w b hb t K;rcases h.nG z hb K with⟨_,_,r⟩|⟨_,_,r⟩;rcases (Eg r).2.2 with e|e|e|e;rw[y]at e;cases e;rw[t]at e;cases e;rw[C]at e;cases e;exact e;rcases (Eg r).2.1 with e|e|e|e;rw[y]at e;cases e;rw[t]at e;cases e;rw[C]at e;cases e;exact e
 by_cases hpk:p<=k;obtain⟨d,K⟩:∃d,k=p+d:=⟨k-p,by omega⟩;rcases U9 S m p d (by omega) with hg|⟨w,b,V,W,Y,N,g5⟩;left;rw[L,K];exact(Ef z.tx d (by omega) hg).symm;right;have J:=h4 w b V (by have:=(aac.1 Y).1;omega) Y N;have g:=pair w b Y N (by rw[J,cz (by omega)];simp);have e:(T p).st=(T w).st:=by
  obtain⟨d',R⟩:∃d,w=p+d:=⟨w-p,by omega⟩;rw[R];exact(Ef z.tx d' (by have:=(aac.1 Y).1;omega) λj so a1 a2=>g5 j so a1 (by omega)).symm
 rw[L,e];exact(z.pr k w Z g so h.hs).1;right;rcases Q with Q|⟨q,b,rfl,V,W,Y⟩;omega;have g:=pair q b V Y (by
  by_cases l:q=k;subst l;rw[h.new]at W;cases W;rw[W,eX (by omega)];simp)
 rw[L];exact(z.pr k q Z g so h.hs).2
theorem KZ.aiq(z:Sl S P O wl ah n dK m cA T xp)(h:KZ dK m D k o so)(t:Nat):vT m T (nB D k) t=if t∈vZ so then dZ (T (k+1)).env t else vT m T D t:=by
 have:=Qf (init:=dZ (T 0).env) (DS:=S6 m T) (D:=D) (D':=nB D k) (x:=t) (j:=k) h.lt h.new (λj=>rfl) λj q r v l=>by
  have g:m[j]?=some m[j]:=aas r;have y:=z.dr.apB D h.down k j so _ q h.new v h.hs g;simp only[S6,h.hs]at l;simp only[S6,g];rw[U];intro p;by_cases X:t∈vZ so;exact((Ie y).1 t X).2 p;rw[U X]at l;exact l rfl
 refine this.trans ?_;simp only[S6,h.hs];split
 rfl
 rfl
theorem KZ.air(z:Sl S P O wl ah n dK m cA T xp)(h:KZ dK m D k o so)(b:Nat):vB m T (nB D k) b=if so.op.bW=some b then (T (k+1)).bx[b]? else vB m T D b:=by
 have:=Qf (init:=λb=>(T 0).bx[b]?) (DS:=S7 m T) (D:=D) (D':=nB D k) (x:=b) (j:=k) h.lt h.new (λj=>rfl) λj q r t l=>by
  have g:m[j]?=some m[j]:=aas r;have v:=z.dr.apB D h.down k j so _ q h.new t h.hs g;simp only[S7,h.hs]at l;simp only[S7,g];rw[U];intro p;by_cases X:so.op.bW=some b;exact(Nh v).1 b X (aio p);rw[U X]at l;exact l rfl
 refine this.trans ?_;simp only[S7,h.hs];split
 rfl
 rfl
end
end Ax
namespace Ax
open Go
variable {S:Nat->Option aL}{P:Program}{O:mC}{wl ah n:Nat}
variable {dK:Array Oper}{m:List ct}{cA:List (Nat×Nat)}{T:Nat->St}{xp:Option (Nat×Nat×aj)}
variable {w0 w w':World}{G0 G G':bD}{β jm:List qh}{A0:Nat->Nat}{a:Act}{bx:bK}
structure At (S:Nat->Option aL)(n:Nat)(m:List ct)(T:Nat->St)(xp:Option (Nat×Nat×aj))(w0:World)(G0:bD)(A0:Nat->Nat)(D:Nat->Bool)(w:World)(G:bD)(β:List qh)(a:Act)(bx:bK):Prop where
 fs:FS w G β a (vT m T D) bx (vX S m T xp D) n
 mv:Mv w0 G0 A0 w G (Ae β a (vT m T D) bx (vX S m T xp D) G n)
 bb:∀b,bx[b]?=vB m T D b
 bl:bx.length=(T 0).bx.length
 fp:∀(i:Nat) so j,m[i]?=some so->so.op.bM=some j->D i=false->∀t,(vT m T D t).s9 j=true
theorem Text.aff(h:Text S O wl ah m T):∀{j:Nat},j<=m.length->(T j).bx.length=(T 0).bx.length
 |0,_=>rfl|j+1,X=>by
  have g:m[j]?=some m[j]:=aas (by omega);rw[(h.one j _ g).aff,h.aff (by omega)]
theorem Ta{e f:fz}(h:e.cU f=true):e=f:=by
 cases e<;>cases f<;>simp[fz.cU]at h
 rfl
 rw[MR _ _ h];obtain⟨rfl,rfl⟩:=h;rfl
theorem Tc{op:fZ}(h:op.S5=false):op.bA=none:=by
 cases op<;>simp[fZ.S5,fZ.bA]at h ⊢
theorem Xu{g:Nat->fz}{j:Nat}(h:∀t,(g t).s9 j=true)(s:Src):(Fl g s).s9 j=true:=by
 cases s with
 |const a=>rfl|tmp t M=>
  cases M with
  |true=>exact h t|false=>
   have:=h t;simp only[Fl];cases U:g t with
   |none=>rfl|val v=>rfl|fp i k=>rw[U]at this;exact this
theorem FI{j z:Nat->fz}:∀{l:List Src},(∀t∈afc l,j t=z t)->l.map (Fl j)=l.map (Fl z)
 |[],_=>rfl|.tmp t M::l,h=>by
  simp only[aei];rw[FI (l:=l) λu g=>h u (List.mem_cons_of_mem _ g)];have:=h t List.mem_cons_self;cases M<;>simp only[Fl,this]
 |.const a::l,h=>by
  simp only[aei];rw[FI (l:=l) λu g=>h u g]
  rfl
variable{Q:Exit->Act->World->Prop}
theorem oL(z:Sl S P O wl ah n dK m cA T xp)(hO:me S P O){D:Nat->Bool}{k:Nat}{o:Oper}{so:ct}(h:KZ dK m D k o so)(L:At S n m T xp w0 G0 A0 D w G β a bx){K:Act->World->Prop}
  (hK:∀w' G' jm N iz,At S n m T xp w0 G0 A0 (nB D k) w' G' jm N iz->K N w'):wpOp P dK Q k K a w:=by
 have one:=z.tx.one k so h.hs;have hwe:zg (vT m T D) so.guard=pZ (T k).env so.guard:=by
  rw[L2];cases hg:so.guard with
  |none=>rfl|some x=>
   obtain⟨t,b⟩:=x;have:=h.afg z (t:=t) (.inr (by simp[DC,hg]));simp only[zg,this]
 obtain⟨b,F⟩:∃b,pZ (T k).env so.guard=some b:=by
  cases J:pZ (T k).env so.guard with
  |none=>exact au J one.wan|some b=>exact⟨b,rfl⟩
 refine U3 (wl:=wl) (ah:=ah) h.ho (z.dr.get k o so h.ho h.hs) hO L.fs L.mv.one (hwe.trans F) (λhbf N Y R=>?_) (λhbt=>?_);subst hbf;obtain⟨n1,n2,n3⟩:=one.non F;have E:mO (vT m T D) so.dst (.val .undef)=vT m T (nB D k):=by
  funext t;rw[h.aiq z];split;rename_i r;rw[n1];simp only[mO];split
  rfl
  exact h.afg z (.inl r);rename_i r;simp only[vZ,aed,amt,not_or]at r;simp only[mO];rw[U r.1]
 have v:vX S m T xp (nB D k)=vX S m T xp D:=by
  by_cases J:so.op.tO S=true;rcases h.aip z J with⟨E,v⟩|⟨p,X,l,_⟩|⟨q,X,l,_⟩;rw[E,v,n3];have:=(z.sp p k X l).wq so h.hs;rw[this.2]at F;cases F;have:=(z.sp k q X l).wp so h.hs;rw[this.2]at F;cases F;exact h.still z (by simpa using J)
 rw[E,<-v]at Y;rw[E,<-v]at R;refine hK w G β N bx ⟨Y,?_,λx=>?_,L.bl,λi W j V I y t=>?_⟩;rw[v]at R ⊢;exact L.mv.trans R;rw[h.air z,L.bb];split;rename_i l;rw[n2];exact h.box z (aio l)
 rfl
 have iO:i≠k/\D i=false:=by
  unfold nB at y;by_cases Z:i=k;rw[af Z]at y;cases y;rw[U Z]at y;exact⟨Z,y⟩
 rw[<-E];simp only[mO];split
 rfl
 exact L.fp i W j V I iO.2 t;subst hbt;obtain⟨e,C,y2⟩:=one.yes F;have M:so.args.map (O9 (T k).env)=so.args.map (Fl (vT m T D)):=by
  rw[List.map_congr_left (g:=Fl (dZ (T k).env)) λx _=>Ib _ x];exact(FI λt r=>h.afg z (.inr (by simp[DC,r]))).symm
 rw[M]at C;have ha2:xO O wl ah so.op (so.args.map (Fl (vT m T D))) (vX S m T xp D) (T k).bx=some (e,vX S m T xp (nB D k),(T (k+1)).bx):=by
  by_cases J:so.op.tO S=true;rcases h.aip z J with⟨E,v⟩|⟨p,X,l,E,v⟩|⟨q,X,l,E,v⟩;rw[E,v];exact C;rw[E,v,<-M];rw[<-M]at C;exact(z.sp p k X l).x1 so h.hs _ _ _ C;rw[E,v,<-M];rw[<-M]at C;exact(z.sp k q X l).x2 so h.hs _ _ _ C;have L6:so.op.tO S=false:=by simpa using J
  rw[h.still z L6];have iH:=one.ajH L6;by_cases hn:so.op.S5=true;exact afa hn _ C;have hn':so.op.S5=false:=by simpa using hn
  rcases h.aum z hn' L6 with B|B;rw[B];rw[iH]at C;exact C;unfold cw at B;rw[F]at B;simp only at B;rw[M]at B;split at B;rename_i e' st' iz Lj;have aun:=U4 z.pu L6 Lj;subst aun;have hnb:=Tc hn';obtain⟨rfl,_⟩:=Ng hnb (T k).bx Lj;obtain⟨hbx,_⟩:=Ng hnb (T k).bx C;rw[hbx];split at B;rename_i d hd;have:=Ta B;rw[y2]at this;simp only[mO,hd,bh]at this;subst this;exact Lj;cases B;cases B
 obtain⟨DB,b1,b2,b3,b4,b5,_⟩:=Qi (DB:=bx) (by rw[L.bl,z.tx.aff (ank h.lt)]) (λb F=>by rw[L.bb];exact h.box z F) ha2;refine⟨e,vX S m T xp (nB D k),DB,b1,λj I t _ _=>L.fp k so j h.hs I h.new t,λw' G' jm N Y R=>?_⟩;have E:mO (lU (vT m T D) (uM so.args)) so.dst e=vT m T (nB D k):=by
  funext t;rw[h.aiq z];split;rename_i r;rw[y2];simp only[mO,lU];split
  rfl
  split
  rfl
  exact h.afg z (.inl r);rename_i r;simp only[vZ,aed,amt,not_or]at r;simp only[mO,lU];rw[U r.1,U r.2]
 rw[E]at Y R;refine hK w' G' jm N DB ⟨Y,L.mv.trans R,λx=>?_,b3.trans L.bl,λi W j V I y t=>?_⟩;rw[h.air z];split;rename_i l;exact b4 x l;rename_i l;rw[b5 x l,L.bb];have iO:i≠k/\D i=false:=by
  unfold nB at y;by_cases Z:i=k;rw[af Z]at y;cases y;rw[U Z]at y;exact⟨Z,y⟩
 rw[<-E];simp only[mO,lU];split;refine ajF b1 (λx l=>?_) λhn=>?_;obtain⟨s,_,rfl⟩:=ad7.1 l;exact Xu (λt=>L.fp i W j V I iO.2 t) s;rcases Nat.lt_or_gt_of_ne iO.1 with hl|hl;exact z.dr.ain i k W so j hl V h.hs I hn;exact z.dr.ain k i so W j hl h.hs V hn I;split
 rfl
 exact L.fp i W j V I iO.2 t
def kF(g:Array Bool):Nat->Bool:=λk=>g.getD k false
theorem aal(y:Sl S P O wl ah n dK m cA T xp)(hO:me S P O)
  (hQ:∀w' G' jm C iz D,(∀k,k<m.length->D k=true)->At S n m T xp w0 G0 A0 D w' G' jm C iz->Q .normal C w') :
  ∀(fuel:Nat) (h:Array Bool) (a:Act) (w:World) (G:bD) (β:List qh) (bx:bK),h.size=dK.size->aaf dK (kF h)->jh (λk=>if kF h k then 0 else 1) dK.size<=fuel->
   At S n m T xp w0 G0 A0 (kF h) w G β a bx->wpAny P .any dK Q fuel h a w:=by
 have Ll:∀(h:Array Bool) (a:Act) (w:World) (G:bD) (β:List qh) (bx:bK),h.size=dK.size->At S n m T xp w0 G0 A0 (kF h) w G β a bx->Region.ready .any dK h=[]->Q .normal a w:=by
  intro h a w G β bx K L F;refine hQ w G β a bx _ (λk=>?_) L;induction k using Nat.strongRecOn with
  |_ k Y=>
   intro l;cases E:kF h k with
   |true=>rfl|false=>
    exfalso;rw[y.dr.len]at l;have z:dK[k]?=some dK[k]:=(by simp[l]);have:k∈Region.ready .any dK h:=by
     rw[mem_ready];refine⟨?_,dK[k],z,λe N hb=>?_⟩;have v:k<h.size:=(by omega);simp only[kF,an1,v,dif_pos]at E ⊢;exact E;have q:e.on∈rO dK[k]:=by
      unfold rO;exact ad7.2 ⟨e,ao6.2 ⟨by simpa using N,hb⟩,rfl⟩
     have bP:=y.dr.lt k dK[k] z e.on q;exact Y e.on bP (by rw[y.dr.len];omega)
    rw[F]at this;cases this
 intro fuel;induction fuel with
 |zero=>
  intro h a w G β bx K M hf L;have lQ:∀k,k<dK.size->kF h k=true:=λk l=>by
   have:=AZ (f:=λk=>if kF h k then 0 else 1) l;cases E:kF h k with
   |true=>rfl|false=>simp only[E,acC,br]at this;omega
  have F:Region.ready .any dK h=[]:=by
   rw[List.eq_nil_iff_forall_not_mem];intro j X;rw[mem_ready]at X;obtain⟨x,o,z,_⟩:=X;have l:=(ael.1 z).1;have J:=lQ j l;have v:j<h.size:=(by omega);simp only[kF,an1,v,dif_pos]at x J;rw[x]at J;cases J
  exact⟨F,Ll h a w G β bx K L F⟩
 |succ fuel Y=>
  intro h a w G β bx K M hf L;refine⟨Ll h a w G β bx K L,λi hi=>?_⟩;rw[mem_ready]at hi;obtain⟨x,o,z,h3⟩:=hi;have l:=(ael.1 z).1;have W:i<m.length:=by rw[y.dr.len];exact l
  have hs:m[i]?=some m[i]:=aas W;have v:i<h.size:=by omega
  have uK:kF h i=false:=by
   simp only[kF,an1,v,dif_pos]at x ⊢;exact x
  have r:∀p∈rO o,kF h p=true:=by
   intro p q;unfold rO at q;obtain⟨e,N,rfl⟩:=ad7.1 q;obtain⟨R,Xv⟩:=ao6.1 N;exact h3 e (by simpa using R) Xv
  have I:KZ dK m (kF h) i o m[i]:=⟨M,z,hs,r,uK⟩;have V:kF (h.setIfInBounds i true)=nB (kF h) i:=by
   funext j;by_cases X:j=i;subst X;simp[kF,nB,v];simp[kF,nB,X,show ¬i=j from λe=>X e.symm]
  refine oL y hO I L λw' G' jm C iz P9=>?_;rw[<-V]at P9;refine Y _ C w' G' jm iz (by simp[K]) ?_ ?_ P9;intro j oj Z X p q;rw[V]at X ⊢;unfold nB at X ⊢;by_cases B:j=i;subst B;rw[z]at Z;cases Z;split
  rfl
  exact r p q;rw[U B]at X;split
  rfl
  exact M j oj Z X p q;have h5:=yq (f:=λk=>if kF (h.setIfInBounds i true) k then 0 else 1) (g:=λk=>if kF h k then 0 else 1) (d:=i) l λt ht=>by
   rw[V];simp[nB,ht]
  have e1:kF (h.setIfInBounds i true) i=true:=by rw[V];simp[nB]
  simp only[e1,uK,bh,acC,br]at h5;omega
theorem Td{wl ah:Nat}{st g:aj}{i v x y:Nat}{C:List AV}(h:fR wl ah st (.ptr i v x y) C=some g):∃o,g=st.set i o/\∀(pg:aj),pg[i]?=st[i]?->fR wl ah pg (.ptr i v x y) C=some (pg.set i o):=by
 unfold fR at h;simp only at h;split at h;rename_i V t rows I;split at h;rename_i l;split at h;rename_i r q;split at h;rename_i p;simp only[bw]at h;refine⟨_,h.symm,λpg j=>?_⟩;unfold fR;simp only[j,I,af l,q,af p];cases h;cases h;cases h;cases h
theorem L7{O:mC}{wl ah:Nat}{n:Nat}{st g:aj}{bx I:bK}{i v x y:Nat}{u:AV}{e:fz}(h:xO O wl ah (.store n) [.val (.ptr i v x y),.val u] st bx=some (e,g,I)) :
  ∃o,g=st.set i o/\I=bx/\∀(pg:aj) (j:bK),pg[i]?=st[i]?->xO O wl ah (.store n) [.val (.ptr i v x y),.val u] pg j=some (e,pg.set i o,j):=by
 simp only[xO,bz]at h;split at h;rename_i q;split at h;rename_i t r;cases h;obtain⟨o,l,p⟩:=Td r;refine⟨o,l,rfl,λpg j U=>?_⟩;simp only[xO,bz,af q,p pg U];cases h;cases h
theorem Qk{id:Nat}{s e:St}(hm:U6 S P dK n m cA=true)(hO:me S P O)(hP:GQ S O)(_hs:FT w G β a s n)(h1:∀b,jo β a s G n b<=1)(R:iL O wl ah m cA s=some e)
  (ajI:∀d,FT { w with drawn:=d } G β a s n/\∀w' G' A',Mv { w with drawn:=d } G (jo β a s G n) w' G' A'->Mv w G (jo β a s G n) w' G' A')
  (hQ:∀w' G' jm r,FT w' G' jm r e n->Mv w G (jo β a s G n) w' G' (jo jm r e G' n)->Q .normal r w'):(Code.region id dK true).wp P Q a w:=by
 have hd:=aag hm;unfold iL at R;split at R;cases R;rename_i e' lX hr;split at R;rename_i hc;cases R;simp only[Ee,ac3]at hc;obtain⟨r1,r2,r3,r4⟩:=GR hr
 let T:Nat->St:=λk=>(lX[k]?).getD s
 have g:∀(i:Nat) x,lX[i]?=some x->T i=x:=λi x hx=>by simp only[T,hx,ahB]
 have I:Text S O wl ah m T:=⟨λi so F=>by
  obtain⟨x,y,a1,a2,a3⟩:=r4 i so F;rw[g i x a1,g (i+1) y a2];exact auj hP a3⟩
 obtain⟨xp,hsn,nU⟩:∃xp:Option (Nat×Nat×aj),(xp=none->∀i j,i<100000->(100000+i,j) ∉ cA)/\∀p q X,xp=some (p,q,X)->Spc S O wl ah m cA T p q X:=by
  by_cases hex:∃p q,p<100000/\(100000+p,q)∈cA;obtain⟨p,q,hp,PK⟩:=hex;obtain⟨t1,⟨a,b,t2,Y,t4,t5,t6,t7⟩,t8,t9,t10⟩:=hd.xt p q hp PK;have Va:q<m.length:=(aac.1 Y).1;have v:=hc.1 _ PK;unfold eR at v;simp only[show ¬100000+p<100000 by omega,br,show (100000+p) % 100000=p by omega]at v;cases z:xSt wl ah m lX p q with
  |none=>rw[z]at v;cases v|some X=>
   refine⟨some (p,q,X),⟨λh=>(by cases h),λp' q' X' h=>?_⟩⟩;cases h;have Qj:(T q).st=(T (p+1)).st:=by
    obtain⟨d,DU⟩:∃d,q=p+1+d:=⟨q-(p+1),by omega⟩;rw[DU];exact Ef I d (by omega) λj so a1 a2 a3=>t8 j so (by omega) (by omega) a3
   unfold xSt at z;split at z;rename_i r s' b' t' g1 g2 g3 g4;rw[t2]at g1;cases g1;rw[Y]at g3;cases g3;have Pc:=g p s' g2;have ht':=g q t' g4;subst Pc ht';split at z;rename_i ao av bo bv ma i vi xi yi ui mb j vj xj yj uj k1 k2 k3 k4;split at z;cases z;rename_i L;split at z;rename_i e0 X0 b0 uL;cases z;have apb:xO O wl ah (.store mb) [.val (.ptr j vj xj yj),.val uj] (T p).st []=some (e0,X,b0):=uL;obtain⟨ob,o1,o2,o3⟩:=L7 apb;have aup:=I.one p a t2;obtain⟨ep,ap,_⟩:=aup.yes (by rw[t6];rfl);rw[k1,k2]at ap;obtain⟨oa,p1,p2,p3⟩:=L7 ap;have auq:=I.one q b Y;obtain⟨eq,aq,_⟩:=auq.yes (by rw[t7];rfl);rw[k3,k4]at aq;have Z:(T q).st[j]?=(T p).st[j]?:=(by rw[Qj,p1,ad6 L]);have q1:(T (q+1)).st=(T q).st.set j ob:=by
    have:=o3 (T q).st (T q).bx Z;rw[this]at aq;simp only[bw,cL]at aq;exact aq.2.1.symm
   refine⟨t1,Va,PK,λr l=>?_,λr l=>?_,t8,t10,t9,λr l e bx iz M=>?_,λr l e bx iz M=>?_,λk hk o ho=>?_⟩;rw[t2]at l;cases l;exact⟨by rw[k1];rfl,t6⟩;rw[Y]at l;cases l;exact⟨by rw[k3];rfl,t7⟩;rw[Y]at l;cases l;rw[k3,k4]at M ⊢;rw[o3 (T q).st bx Z]at M;simp only[bw,cL]at M;rw[o3 (T p).st bx rfl,M.1,M.2.2,o1];rw[t2]at l;cases l;rw[k1,k2]at M ⊢;rw[p3 (T p).st bx rfl]at M;simp only[bw,cL]at M;rw[p3 X bx (by rw[o1,ad6 (λe=>L e.symm)]),M.1,M.2.2,q1,Qj,p1,o1,List.set_comm _ _ L];have:=hc.1 _ hk;unfold eR at this;simp only[show ¬100000*(k+2)+p<100000 by omega,br,show (100000*(k+2)+p) % 100000=p by omega,show ¬100000*(k+2)+p<200000 by omega,show (100000*(k+2)+p) / 100000-2=k by omega]at this;have hX2:xSt wl ah m lX p q=some X:=by
    unfold xSt;simp only[t2,Y,g2,g4,k1,k2,k3,k4,U L,uL]
   rw[hX2]at this;simp only at this;split at this;rename_i o' x y g5 g6 g7;rw[ho]at g5;cases g5;rw[g k x g6,g (k+1) y g7];exact this;cases this;cases z;cases z;cases z
  exact⟨none,⟨λ_ i j F L=>hex ⟨i,j,F,L⟩,λ_ _ _ h=>(by cases h)⟩⟩
 have hR:Sl S P O wl ah n dK m cA T xp:=by
  refine⟨hd,I,λq w Va hqw o ho=>?_,hsn,nU,λi so j F W=>?_,hP⟩;have:=hc.1 (q,w) hqw;unfold eR at this;simp only[Va,bh]at this;split at this;rename_i o' x y x' y' g1 g2 g3 g4 g5;rw[ho]at g1;cases g1;rw[g q x g2,g (q+1) y g3,g w x' g4,g (w+1) y' g5];simpa only [Ee] using this;cases this;have:=hc.2 so (eB F);unfold di at this;rw[W]at this;rw[g 0 s r2];exact this
 have h0:T 0=s:=g 0 s r2;have B:kF (aml dK.size false)=λ_=>false:=by
  funext k;simp only[kF,an1,aom,Array.getInternal_eq_getElem,Array.getElem_replicate];split<;>rfl
 have C:∀{K V:Type} (init:K->V) (J:Nat->K->Option V) (N:Nat) (x:K),tu init J (λ_=>false) N x=init x:=by
  intro K V init J N x;induction N with
  |zero=>rfl|succ N ih=>simp only[tu,ih];rfl
 obtain⟨d1,d2⟩:=ajI (w.drawn+1);refine wp_region_any hd.fol (aal (w0:={ w with drawn:=w.drawn+1 }) (G0:=G) (A0:=jo β a s G n) hR hO (λw' G' jm r iz D hD hA=>?_) dK.size _ a _ G β s.bx (by simp) ?_ ?_ ?_);have lQ:∀{K V:Type} (init:K->V) (J:Nat->K->Option V) (x:K),tu init J D m.length x=tu init J (λk=>decide (k<m.length)) m.length x:=λinit J x=>qy λk hk iO=>by
  rw[hD k hk,cz hk]at iO;exact au rfl iO
 have E:T m.length=e:=g _ e r3;have e1:vT m T D=dZ e.env:=by
  funext t;rw[<-E,<-aah I (acO _)];exact lQ _ _ t
 have e2:vX S m T xp D=e.st:=by
  rw[v7 λp q X hx _=>hD p (by have:=nU p q X hx;have:=this.lt;have:=(nU p q X hx).ql;omega)];rw[<-E,<-aaj I (acO _)];exact lQ _ _ ()
 have e3:iz=e.bx:=by
  apply aiJ;intro b;rw[hA.bb b,<-E,<-aai I (acO _)];exact lQ _ _ b
 have f1:=hA.fs;have f2:=hA.mv;rw[e1,e2,e3]at f1 f2;exact hQ w' G' jm r f1 (d2 _ _ _ f2);intro j o _ W;rw[B]at W;cases W;rw[B];have:∀N,jh (λ_=>1) N=N:=λN=>by induction N with|zero=>rfl|succ N ih=>simp[jh,ih]
 simp[this];rw[B];have e1:vT m T (λ_=>false)=dZ s.env:=by funext t;rw[<-h0];exact C _ _ _ t
 have e2:vX S m T xp (λ_=>false)=s.st:=by rw[v7 λp q X _ h=>by cases h];rw[<-h0];exact C _ _ _ ()
 refine⟨?_,?_,λb=>?_,by rw[h0],λi so j F W _ t=>?_⟩;rw[e1,e2];exact d1;rw[e1,e2];exact Mv.refl h1;rw[<-h0];exact(C _ _ _ b).symm;rw[e1,<-h0];exact Jl (hR.bo i so j F W) t;cases R
end Ax
namespace Ax
open Go
variable {S:Nat->Option aL}{P:Program}{O:mC}{wl ah n:Nat}
variable {w w':World}{G G':bD}{β jm:List qh}{a:Act}{s s':St}
def JA:Code->Code
 |.scope c=>JA c|c=>c
def Ni(S:Nat->Option aL)(P:Program)(n:Nat)(dK:Array Oper)(g:Bool)(m:List ct):Option (List (Nat×Nat))->Bool
 |none=>!g&&vY S P dK n dK.toList m|some cA=>g&&U6 S P dK n m cA
def lD(S:Nat->Option aL)(P:Program)(n:Nat):aT->Code->Bool
 |.skip,c=>match JA c with|.skip=>true|_=>false
 |.region m g _,c=>match JA c with
  |.region _ dK d=>Ni S P n dK d m g|_=>false
 |.seq x y,c=>match x with
  |.ZB _=>lD S P n y c|.IE _ _=>lD S P n y c|.qL _ _=>lD S P n y c|x=>match JA c with
   |.seq a b=>lD S P n x a&&lD S P n y b|_=>false
 |.cond t _ x _ y,c=>match JA c with
  |.cond u a b=>Sy u t&&lD S P n x a&&lD S P n y b|_=>false
 |.block i x,c=>match JA c with
  |.block j a=>i==j&&lD S P n x a|_=>false
 |.loop x,c=>match JA c with
  |.loop a=>lD S P n x a|_=>false
 |.exit i,c=>match JA c with
  |.exit j=>i==j|_=>false
 |.ret,c=>match JA c with
  |.ret=>true|_=>false
 |.ZB _,_=>false|.IE _ _,_=>false|.qL _ _,_=>false
def JB:Ex->Exit
 |.normal=>.normal|.exit id=>.exit id|.ret _=>.ret
def Pst(n:Nat)(rs:List jv)(A:Nat->Nat)(w:World)(G:bD)(x:Ex)(s':St)(w':World)(G':bD)(jm:List qh)(h:Act):Prop:=
 ∃g,FT w' G' jm h g n/\Mv w G A w' G' (jo jm h g G' n)/\(match x with|.ret v=>CC g rs=some v/\s'.st=g.st|_=>s'=g)
theorem Pst.trans{rs:List jv}{A A1:Nat->Nat}{W:World}{g:bD}{x:Ex}{j:Act}(h:Mv w G A W g A1)(k:Pst n rs A1 W g x s' w' G' jm j):Pst n rs A w G x s' w' G' jm j:=by
 obtain⟨r,l,p,q⟩:=k;exact⟨r,l,h.trans p,q⟩
def Nj(P:Program)(c:Code)(Q:Exit->Act->World->Prop)(a:Act)(w:World):Prop:=
 ∀(b:Frame) (k:List Item) (C:List Frame),∃e h w',Q e h w'/\Arrives P (lone (b.at a (.code c::.inLoop c::k)) C w) b k C e h w'
variable{c:Code}{Q:Exit->Act->World->Prop}{v V:AV}{u:Value}
theorem Ql{w:World}(h:c.wp P (Exit.then (Nj P c Q) Q) a w):Nj P c Q a w:=by
 intro b k C;obtain⟨e,g,j,p,q⟩:=h b (.inLoop c::k) C;cases e with
 |normal=>
  obtain⟨v,y,z,t,r⟩:=p b k C;exact⟨v,y,z,t,.of_steps (Steps.trans q (.one step_inLoop)) r⟩
 |exit id=>exact⟨_,g,j,p,.pass (x:=.inLoop c) rfl (λ_ _=>.inl (by simp)) q⟩|goto l=>exact⟨_,g,j,p,.pass (x:=.inLoop c) rfl (λ_ _=>.inl (by simp)) q⟩|ret=>exact⟨_,g,j,p,.pass (x:=.inLoop c) rfl (λ_ _=>.inl (by simp)) q⟩|panic B=>exact⟨_,g,j,p,.pass (x:=.inLoop c) rfl (λ_ _=>.inl (by simp)) q⟩|outgrown=>exact⟨_,g,j,p,.pass (x:=.inLoop c) rfl (λ_ _=>.inl (by simp)) q⟩
theorem Qn{w:World}(h:Nj P c Q a w):(Code.loop c).wp P Q a w:=by
 intro b k C;obtain⟨e,g,w',l,q⟩:=h b k C;exact⟨e,g,w',l,.of_steps (.one step_loop) q⟩
theorem uP{Q:Exit->Act->World->Prop}{w:World}:∀{c:Code},(JA c).wp P (Exit.noGoto Q) a w->c.wp P Q a w
 |.scope c,h=>wp_scope_straight (uP (c:=c) (wp_mono h λe _ _ U=>by cases e<;>exact U))|.skip,h|.region ..,h|.seq ..,h|.cond ..,h|.block ..,h|.loop ..,h|.rangeFunc ..,h|.exit _,h|.label _,h|.goto _,h|.refuse _,h|.ret,h=>wp_mono h λe _ _ U=>by
  cases e<;>first|exact U|exact U.elim
def B2(S:Nat->Option aL)(P:Program)(O:mC):Prop:=
 ∀wl ah rs c s x s',O.loop wl ah rs c s=some (x,s')->∀code n,lD S P n c code=true->∀(w:World) (G:bD) (β:List qh) (a:Act),FT w G β a s n->(∀b,jo β a s G n b<=1)->
  ∀(Q:Exit->Act->World->Prop),(∀w' G' jm h,Pst n rs (jo β a s G n) w G x s' w' G' jm h->Q (JB x) h w')->Nj P code Q a w
theorem FT.clear(h:FT w G β a s n)(l:List Nat):FT w G β a { s with env:=kB l s.env } n/\∀b,jo β a { s with env:=kB l s.env } G n b<=jo β a s G n b:=
 FS.aab h λt=>by
  simp only[zd];split;exact .inr rfl;exact .inl rfl
theorem FT.apf(h:FT w G β a s n)(c:Src)(l:List Nat):FT w G β a { s with env:=kB l (pG s.env c) } n/\∀b,jo β a { s with env:=kB l (pG s.env c) } G n b<=jo β a s G n b:=
 FS.aab h λt=>by
  have g:=yp t [c] s.env;simp only[List.foldl_cons,List.foldl_nil]at g;simp only[zd,g];split;exact .inr rfl;split;exact .inr rfl;exact .inl rfl
theorem Mv.zj{A p g:Nat->Nat}(h:Mv w G A w' G' p)(j:∀b,g b<=p b):Mv w G A w' G' g:=
 h.Z4 (λ_=>acO _) (λb l=>aeM (j b) (h.iw b l)) λb=>aeM (j b) (h.one b)
theorem B3(w:World)(G:bD)(d:Nat):wZ w G { w with drawn:=d } G:=⟨λ_ _ g=>⟨rfl,g⟩,λ_ loc h=>⟨loc,h,acO _,λ_=>rfl⟩⟩
theorem FT.drawn(h:FT w G β a s n)(d:Nat):FT { w with drawn:=d } G β a s n where
 Qa:=h.Qa
 size:=h.size
 yb:=λt=>(h.yb t).kV (B3 w G d) λ_ _=>⟨rfl,rfl⟩
 lt:=h.lt
 inv:=AS h.inv (B3 w G d) rfl (λ_ _=>⟨rfl,rfl⟩) h.inv.qi
 box:=qx h.box (B3 w G d) λ_ _=>⟨rfl,rfl⟩
theorem Mv.drawn{A p:Nat->Nat}{d:Nat}(h:Mv { w with drawn:=d } G A w' G' p):Mv w G A w' G' p:=
 ⟨(B3 w G d).trans h.kV,h.iw,h.one,λb l r=>h.AQ b l r,h.size,h.os,h.out⟩
theorem ajJ{t:Nat}{g:aj}(j:FT w G β a s n)(x:∀b,jo β a s G n b<=1)(y:dZ s.env t=.val v)(K:jw wl v s.st=some (V,g)) :
  ∃G',FT w G' β a ⟨AF s.env t (.val V),s.bx,g⟩ n/\Mv w G (jo β a s G n) w G' (jo β a ⟨AF s.env t (.val V),s.bx,g⟩ G' n):=by
 have M:t<n:=by
  rcases aiM t n with h|h;exact h;rw[j.lt t h]at y;cases y
 have z:=j.yb t;rw[y]at z;obtain⟨G',l,L,F⟩:=Dz (w:=w) j.inv (λb=>by have:=x b;unfold jo Ae at this;omega) z K;have E:∀b,dz b (.val V) (n7 a t)=0:=λb=>gw b _ _ F;have R:∀b,0<dz b (dZ s.env t) (n7 a t)\/True:=λ_=>.inr trivial;have C:∀b,jh (λu=>dz b (dZ (AF s.env t (.val V)) u) (n7 a u)) n<=jh (λu=>dz b (dZ s.env u) (n7 a u)) n:=λb=>H9 λu _=>by
  rw[AY];by_cases p:u=t;subst p;rw[af rfl,E b];omega;rw[U p];exact acO _
 have J:∀b,0<jh (λu=>dz b (dZ s.env u) (n7 a u)) n+iJ b β s.bx->fM w G w G' b:=λb q=>⟨l.AQ b (by have:=x b;unfold jo Ae at this;omega),rfl⟩;have r:∀b,jo β a ⟨AF s.env t (.val V),s.bx,g⟩ G' n b<=jo β a s G n b:=λb=>by
  have N:=C b;have Q:=l.iw b;show jh (λu=>dz b (dZ (AF s.env t (.val V)) u) (n7 a u)) n+iJ b β s.bx+cV b G'.ls g<=jh (λu=>dz b (dZ s.env u) (n7 a u)) n+iJ b β s.bx+cV b G.ls s.st;omega
 refine⟨G',⟨j.Qa,j.size,λu=>?_,λu p=>?_,l.inv,qx (bx:=s.bx) j.box l.kV λb q=>J b (by omega)⟩,⟨l.kV,λb _=>r b,λb=>aeM (r b) (x b),λb q I=>?_,acO _,rfl,rfl⟩⟩;show mX w G' β (dZ (AF s.env t (.val V)) u) (n7 a u);rw[AY];by_cases p:u=t;subst p;rw[af rfl];exact L;rw[U p];refine(j.yb u).kV l.kV λb q=>J b ?_;have B:u<n:=by
  rcases aiM u n with h|h;exact h;rw[j.lt u h]at q;simp[dz]at q
 have:=AZ (f:=λu=>dz b (dZ s.env u) (n7 a u)) B;omega;show dZ (AF s.env t (.val V)) u=.none;rw[AY,U (by omega)];exact j.lt u p;have:cV b G.ls s.st=0:=by unfold jo Ae at I;omega
 exact⟨l.AQ b this,rfl⟩
theorem Ei{wl:Nat}{st g:aj}(h:jw wl v st=some (V,g)):V.cM=true:=by
 unfold jw at h;split at h;split at h;split at h;split at h;cases h;rfl;cases h;cases h;cases h;cases h;rfl;cases h
theorem D5.put{p:List AV}{g:qh}{k:Nat}(h:D5 w G p g)(z:k<p.length)(q:g.vals[k]?=some u)(B:bF w G v u)(y:v.cM=true):D5 w G (ay p k [v]) g:=by
 have F:dg w G [v] [u]:=⟨rfl,λi c x j l=>by
  cases i with
  |zero=>simp at j l;subst j;subst l;exact B|succ i=>simp at j⟩
 have C:ay g.vals k [u]=g.vals:=by
  have I:k<g.vals.length:=(aac.1 q).1;have e:=y7 g.vals k 1 (by omega);have E:(g.vals.drop k).take 1=[u]:=by
   rw[adB I];simp[(aac.1 q).2]
  rw[E]at e;exact e
 refine⟨?_,l9 h.HY (by simp[AV.bC,y]) (by simp;omega),?_⟩;have:=h.yb.ay F (n:=k) (by simp;omega)
 rwa [C]at this
 rcases h.tT with⟨j,l⟩|⟨b,c,e,j,l,r,t,V⟩;subst l;simp at z;exact .inr ⟨b,c,e,j,l,by rw[fF];exact r,t,V⟩
theorem afk{j k:Nat}{l:List AV}{p:aj}(q:FT w G β a s n)(K:∀b,jo β a s G n b<=1)(I:s.bx[j]?=some l)(X:l[k]?=some v)(W:jw wl v s.st=some (V,p)) :
  ∃G',FT w G' β a ⟨s.env,s.bx.set j (ay l k [V]),p⟩ n/\Mv w G (jo β a s G n) w G' (jo β a ⟨s.env,s.bx.set j (ay l k [V]),p⟩ G' n):=by
 have Y:=(aac.1 I).1;have R:=(aac.1 X).1;obtain⟨g,C⟩:∃g,β[j]?=some g:=⟨_,aas (by rw[q.box.len];exact Y)⟩;have z:=q.box.box j l g I C;obtain⟨u,J⟩:∃u,g.vals[k]?=some u:=⟨_,aas (by rw[<-z.yb.1];exact R)⟩;obtain⟨G',y,fG,ee⟩:=Dz (w:=w) q.inv (λb=>by have:=K b;unfold jo Ae at this;omega) (z.yb.2 k v u X J) W;have kD:=Ei W;have Q:∀b,0<jh (λu=>dz b (dZ s.env u) (n7 a u)) n+iJ b β s.bx->fM w G w G' b:=λb B=>⟨y.AQ b (by have:=K b;unfold jo Ae at this;omega),rfl⟩;have M:∀b,iJ b β (s.bx.set j (ay l k [V]))<=iJ b β s.bx:=λb=>by
  have E:=D4 b β s.bx j g l g (ay l k [V]) C I;have t:β.set j g=β:=by
   obtain⟨hj,e⟩:=aac.1 C;rw[<-e];exact List.set_getElem_self _
  have Pc:ay g.vals k [u]=g.vals:=by
   have sP:k<g.vals.length:=(aac.1 J).1;have e:=y7 g.vals k 1 (by omega);have t:(g.vals.drop k).take 1=[u]:=by
    rw[adB sP];simp[(aac.1 J).2]
   rw[t]at e;exact e
  have e3:=vI b l [V] g.vals [u] k z.yb.1 rfl (by simp;omega);rw[Pc]at e3;have e4:cP b [V] [u]=0:=by simp only[cP,gw b V u ee]
  rw[t]at E;omega
 have F:∀b,jo β a ⟨s.env,s.bx.set j (ay l k [V]),p⟩ G' n b<=jo β a s G n b:=λb=>by
  have E:=M b;have t:=y.iw b;show jh (λu=>dz b (dZ s.env u) (n7 a u)) n+iJ b β (s.bx.set j (ay l k [V]))+cV b G'.ls p<=jh (λu=>dz b (dZ s.env u) (n7 a u)) n+iJ b β s.bx+cV b G.ls s.st;omega
 have L:=qx (bx:=s.bx) q.box y.kV λb B=>Q b (by omega);refine⟨G',⟨q.Qa,q.size,λu=>?_,q.lt,y.inv,⟨by simpa using L.len,λi r x E t=>?_⟩⟩,⟨y.kV,λb _=>F b,λb=>aeM (F b) (K b),λb B h0=>?_,acO _,rfl,rfl⟩⟩;refine(q.yb u).kV y.kV λb B=>Q b ?_;have Z:u<n:=by
  rcases aiM u n with h|h;exact h;rw[q.lt u h]at B;simp[dz]at B
 have:=AZ (f:=λu=>dz b (dZ s.env u) (n7 a u)) Z;omega;simp only[aek]at E;by_cases N:j=i;subst N;rw[af rfl,af Y]at E;cases E;rw[C]at t;cases t;exact(L.box j l g I C).put R J fG kD;rw[U N]at E;exact L.box i r x E t;have:cV b G.ls s.st=0:=by unfold jo Ae at h0;omega
 exact⟨y.AQ b this,rfl⟩
theorem aaq{wl ah:Nat}{st qg pg:aj}{id cW i k off:Nat}(hI:lN w G st)(hX:∀b,cV b G.ls st<=1)(hp:bF w G (.ptr id cW i k) u)
  (q:gm st (.ptr id cW i (k+off)) 1=some [v])(hf:jw wl v st=some (V,qg))(j:fR wl ah qg (.ptr id cW i (k+off)) [V]=some pg):∃G',Pd w G st G' pg:=by
 unfold gm at q;simp only at q;split at q;rename_i ve sz rows iH;split at q;rename_i hve;subst hve;split at q;rename_i r g9;obtain⟨loc,b,o,c,e,xs,hl,Fx,GB,jE,PN,tV,iA,iG,gK,hle,hlen,jW,SN,Dy,fB⟩:=D7 hI hp iH g9;obtain⟨l8,SR,lO⟩:=vJ q;have Po:k+off<r.length:=by omega
 have hv:r[k+off]?=some v:=by
  have:((r.drop (k+off)).take 1)[0]?=some v:=by rw[<-l8];rfl
  rw[aeq,af (by omega),agL]at this;exact this
 obtain⟨x,hx⟩:∃x,xs[k+off]?=some x:=⟨_,aas (by rw[<-Dy.1];exact Po)⟩;obtain⟨G',J,fG,ee⟩:=Dz hI hX (Dy.2 _ _ _ hv hx) hf;have kD:=Ei hf;have Xt:bF w G' (.ptr id ve i k) u:=hp.FB J.kV rfl;unfold fR at j;simp only at j;split at j;rename_i L C z Hz;split at j;rename_i F;simp only[Ee,aA]at F;obtain⟨rfl,_⟩:=F;split at j;rename_i R M;split at j;rename_i cm;cases j;obtain⟨l,b1,o1,c1,e1,X,N,auy,auz,Q,B,auA,aph,ayF,Y,auB,api,apj,p,W,Ve⟩:=D7 J.inv Xt Hz M;have hk1:k+off<R.length:=by simp only[List.length_singleton]at cm;omega
 obtain⟨y,t⟩:∃x,X[k+off]?=some x:=⟨_,aas (by rw[<-W.1];exact hk1)⟩;rw[PN]at B;simp only[Value.pointer.injEq,bw,Addr.mk.injEq,and_true]at B;obtain⟨hb,ho⟩:=B;have hxx:y=x:=by
  have a1:=fB i xs (k+off) x SN hx;have a2:=Ve i X (k+off) y p t;rw[hb,show o+(i*sz+(k+off))=o1+(i*C+(k+off)) by omega,a2]at a1;cases a1;rfl
 subst hxx;have hs:ay X (k+off) [y]=X:=by
  have e:=y7 X (k+off) 1 (by have:=(aac.1 t).1;omega);have e2:(X.drop (k+off)).take 1=[y]:=by
   rw[adB (aac.1 t).1];simp[(aac.1 t).2]
  rw[e2]at e;exact e
 have apk:dg w G' (ay R (k+off) [V]) X:=by
  have ZW:dg w G' [V] [y]:=⟨rfl,λi c x g E=>by
   cases i with
   |zero=>simp at g E;subst g;subst E;exact fG|succ i=>simp at g⟩
  have:=W.ay ZW (n:=k+off) (by simp;omega)
  rwa [hs]at this
 have uK:tU w G' (.rows L C (z.set i (ay R (k+off) [V]))) l:=by
  refine⟨auy,auz,dj.2 λK Z=>?_,λK Z=>?_,by simp[Q.len],Q.size,by simp[Q.xQ],λi' K Si g E=>?_,.inr ⟨b1,o1,c1,e1,auA,aph,Y,auB,by simpa using api,apj,Ve⟩⟩;rcases aeT Z with h|h;exact dj.1 Q.yT K h;rw[h,fF];exact dj.1 Q.yT R (eB M);rcases aeT Z with h|h;exact Q.HY K h;rw[h];exact l9 (Q.HY R (eB M)) (by simp[AV.bC,kD]) (by simpa using cm);rw[aek]at g;by_cases SO:i=i';subst SO;rw[af rfl]at g;split at g;cases g;rw[p]at E;cases E;exact apk;cases g;rw[U SO]at g;exact Q.yh i' K Si g E
 refine⟨G',J.trans ⟨wZ.refl w G',H7 J.inv (wZ.refl w G') (jX _ _ _ N).symm (λ_ _ _ _ _ _ _ _=>⟨rfl,rfl⟩) uK J.inv.qi,λI=>?_,λ_ _=>rfl⟩⟩;have g:=AP I G'.ls qg id l _ l (.rows L C (z.set i (ay R (k+off) [V]))) N Hz;rw[jX _ _ _ N]at g;have h4:=yl I z l.vals i R X (ay R (k+off) [V]) X M p;rw[jX _ _ _ p]at h4;have e3:=vI I R [V] X [y] (k+off) W.1 rfl (by simp;omega);rw[hs]at e3;have e4:cP I [V] [y]=0:=by simp only[cP,gw I V y ee]
 simp only[j8]at g;omega;cases j;cases j;cases j;cases j;cases q;cases q;cases q
theorem Xw{wl ah:Nat}{st qg pg:aj}{id C i k off:Nat}(p:lN w G st)(z:∀b,cV b G.ls st<=1)(t:bF w G (.ptr id C i k) u)
  (h:gm st (.ptr id C i (k+off)) 1=some [v])(j:qM wl v st=some (V,qg))(g:fR wl ah qg (.ptr id C i (k+off)) [V]=some pg):∃G',Pd w G st G' pg:=by
 unfold qM at j;split at j;rename_i l F;cases j;unfold gm at h;simp only at h;split at h;rename_i J E rows I;split at h;rename_i X;subst X;split at h;rename_i r q;obtain⟨L,M,N⟩:=vJ h;have K:k+off<r.length:=by omega
 have B:r[k+off]?=some (.raw l F):=by
  have:((r.drop (k+off)).take 1)[0]?=some (.raw l F):=by rw[<-L];rfl
  rw[aeq,af (by omega),agL]at this;exact this
 have x:id<st.length:=(aac.1 I).1;have y:(st++[dJ.rows 0 l F])[id]?=some (.rows J E rows):=by rw[acJ x];exact I
 unfold fR at g;simp only[y,q]at g;split at g;split at g;cases g;exact ae4 p t I q B;cases g;cases g;cases h;cases h;cases h;exact aaq p z t h j g
theorem afn{wl ah:Nat}{t id C i k off:Nat}{qg pg:aj}(j:FT w G β a s n)(q:∀b,jo β a s G n b<=1)(X:dZ s.env t=.val (.ptr id C i k))
  (B:gm s.st (.ptr id C i (k+off)) 1=some [v])(z:qM wl v s.st=some (V,qg))(E:fR wl ah qg (.ptr id C i (k+off)) [V]=some pg) :
  ∃G',FT w G' β a ⟨s.env,s.bx,pg⟩ n/\Mv w G (jo β a s G n) w G' (jo β a ⟨s.env,s.bx,pg⟩ G' n):=by
 have r:mX w G β (dZ s.env t) (n7 a t):=j.yb t;rw[X]at r;obtain⟨G',l⟩:=Xw j.inv (λb=>by have:=q b;unfold jo Ae at this;omega) r B z E;have J:∀b,0<jh (λu=>dz b (dZ s.env u) (n7 a u)) n+iJ b β s.bx->fM w G w G' b:=λb g=>⟨l.AQ b (by have:=q b;unfold jo Ae at this;omega),rfl⟩;have p:∀b,jo β a ⟨s.env,s.bx,pg⟩ G' n b<=jo β a s G n b:=λb=>by
  have F:=l.iw b;show jh (λu=>dz b (dZ s.env u) (n7 a u)) n+iJ b β s.bx+cV b G'.ls pg<=jh (λu=>dz b (dZ s.env u) (n7 a u)) n+iJ b β s.bx+cV b G.ls s.st;omega
 refine⟨G',⟨j.Qa,j.size,λu=>?_,j.lt,l.inv,qx (bx:=s.bx) j.box l.kV λb g=>J b (by omega)⟩,⟨l.kV,λb _=>p b,λb=>aeM (p b) (q b),λb g y=>?_,acO _,rfl,rfl⟩⟩;refine(j.yb u).kV l.kV λb g=>J b ?_;have x:u<n:=by
  rcases aiM u n with h|h;exact h;rw[j.lt u h]at g;simp[dz]at g
 have:=AZ (f:=λu=>dz b (dZ s.env u) (n7 a u)) x;omega;have:cV b G.ls s.st=0:=by unfold jo Ae at y;omega
 exact⟨l.AQ b this,rfl⟩
end Ax
namespace Ax
open Go
variable {S:Nat->Option aL}{P:Program}{O:mC}{wl ah n:Nat}
theorem B4{Q:Exit->Act->World->Prop}{x:Ex}{a:Act}{w:World}(h:Q (JB x) a w):Exit.noGoto Q (JB x) a w:=by
 cases x<;>exact h
theorem Xx{x y:aT}{c:Code}(h:lD S P n (.seq x y) c=true):(∃t,x=.ZB t/\lD S P n y c=true)\/(∃j k,x=.IE j k/\lD S P n y c=true)\/(∃j k,x=.qL j k/\lD S P n y c=true)\/(∃a b,JA c=.seq a b/\lD S P n x a=true/\lD S P n y b=true):=by
 unfold lD at h;split at h;exact .inl ⟨_,rfl,h⟩;exact .inr (.inl ⟨_,_,rfl,h⟩);exact .inr (.inr (.inl ⟨_,_,rfl,h⟩));split at h;rename_i a b U;simp only[Ee]at h;exact .inr (.inr (.inr ⟨a,b,U,h.1,h.2⟩));cases h
theorem xU(L:me S P O)(R:B2 S P O)(Y:GQ S O){rs:List jv}:∀(c:aT)(code:Code)(s s':St)(x:Ex)(w:World)(G:bD)(β:List qh)(a:Act)(Q:Exit->Act->World->Prop),
  lD S P n c code=true->FT w G β a s n->(∀b,jo β a s G n b<=1)->jU O wl ah rs c s=some (x,s')->
  (∀w' G' jm C,Pst n rs (jo β a s G n) w G x s' w' G' jm C->Q (JB x) C w')->code.wp P Q a w
 |.skip,code,s,s',x,w,G,β,a,Q,l,B,z,g,q=>by
  refine uP ?_;simp only[jU,bw,cL]at g;obtain⟨rfl,rfl⟩:=g;unfold lD at l;split at l;rename_i r;rw[r];exact wp_skip (q w G β a ⟨s,B,Mv.refl z,rfl⟩);cases l
 |.region m draw tc,code,s,s',x,w,G,β,a,Q,l,B,z,g,q=>by
  refine uP ?_;unfold lD at l;split at l;rename_i id dK d r;rw[r];unfold jU at g;cases draw with
  |none=>
   simp only[Ni,Ee,afh]at l;obtain⟨rfl,l⟩:=l;simp only at g;split at g;rename_i Z vk;cases g;refine wp_region ?_;have:=Js (Q:=Exit.noGoto Q) L dK.toList m 0 w G β a s rfl l B z vk λw' G' jm C N I=>by
    obtain⟨V,W⟩:=N.clear tc;exact q w' G' jm C ⟨_,V,I.zj W,rfl⟩
   rw[List.range_eq_range'];simpa using this;cases g
  |some cA=>
   simp only[Ni,Ee]at l;obtain⟨rfl,l⟩:=l;simp only at g;split at g;rename_i Z vk;cases g;exact Qk (Q:=Exit.noGoto Q) l L Y B z vk (λd=>⟨B.drawn d,λ_ _ _ h=>h.drawn⟩) λw' G' jm C N I=>by
    obtain⟨V,W⟩:=N.clear tc;exact q w' G' jm C ⟨_,V,I.zj W,rfl⟩
   cases g
  cases l
 |.seq c1 c2,code,s,s',x,w,G,β,a,Q,l,B,z,g,q=>by
  rcases Xx l with⟨t,rfl,X⟩|⟨j,k,rfl,X⟩|⟨t,off,rfl,X⟩|⟨a1,b1,r,K,X⟩;unfold jU at g;cases p:jU O wl ah rs (.ZB t) s with
  |none=>rw[p]at g;cases g|some y=>
   obtain⟨x1,Z⟩:=y;rw[p]at g;unfold jU at p;cases M:dZ s.env t with
   |none=>rw[M]at p;cases p|fp j k=>rw[M]at p;cases p|val v=>
    rw[M]at p;simp only at p;cases hf:jw wl v s.st with
    |none=>rw[hf]at p;cases p|some y=>
     obtain⟨v',st'⟩:=y;rw[hf]at p;cases p;obtain⟨G',N,I⟩:=ajJ B z M hf;exact xU L R Y c2 code _ s' x w G' β a Q X N I.one g λw' G2 F a2 r=>q w' G2 F a2 (r.trans I)
  unfold jU at g;cases p:jU O wl ah rs (.IE j k) s with
  |none=>rw[p]at g;cases g|some y=>
   obtain⟨x1,Z⟩:=y;rw[p]at g;unfold jU at p;cases J:s.bx[j]? with
   |none=>rw[J]at p;cases p|some aI=>
    rw[J]at p;simp only at p;cases M:aI[k]? with
    |none=>rw[M]at p;cases p|some v=>
     rw[M]at p;simp only at p;cases hf:jw wl v s.st with
     |none=>rw[hf]at p;cases p|some y=>
      obtain⟨v',st'⟩:=y;rw[hf]at p;cases p;obtain⟨G',N,I⟩:=afk B z J M hf;exact xU L R Y c2 code _ s' x w G' β a Q X N I.one g λw' G2 F a2 r=>q w' G2 F a2 (r.trans I)
  unfold jU at g;cases p:jU O wl ah rs (.qL t off) s with
  |none=>rw[p]at g;cases g|some y=>
   obtain⟨x1,Z⟩:=y;rw[p]at g;obtain⟨rfl,id,cW,i,k,v,v',qg,pg,V,W,g3,g4,rfl⟩:=IK p;simp only at g;obtain⟨G',N,I⟩:=afn B z V W g3 g4;exact xU L R Y c2 code _ s' x w G' β a Q X N I.one g λw' G2 F a2 r=>q w' G2 F a2 (r.trans I)
  refine uP ?_;rw[r];refine wp_seq ?_;unfold jU at g;cases p:jU O wl ah rs c1 s with
  |none=>rw[p]at g;cases g|some y=>
   obtain⟨x1,Z⟩:=y;rw[p]at g;refine xU L R Y c1 a1 s Z x1 w G β a _ K B z p λw' G' jm C E=>?_;cases x1 with
   |normal=>
    obtain⟨sr,V,W,g3⟩:=E;simp only at g3;subst g3;exact xU L R Y c2 b1 Z s' x w' G' jm C _ X V W.one g λw2 G2 F a2 yU=>B4 (q w2 G2 F a2 (yU.trans W))
   |exit id=>cases g;exact q w' G' jm C E|ret v=>cases g;exact q w' G' jm C E
 |.cond t ca c1 cb c2,code,s,s',x,w,G,β,a,Q,l,B,z,g,q=>by
  refine uP ?_;unfold lD at l;split at l;rename_i u a1 b1 r;rw[r];simp only[Ee]at l;obtain⟨⟨S4,K⟩,X⟩:=l;unfold jU at g;have Lm:=(U1 B.yb S4).1;have J:∀b,vG s.env t=some b->a.eval u=.bool b:=λb J=>by
   unfold vG at J;rw[Ib]at J;split at J;rename_i b' qH;cases J;rw[qH]at Lm;exact bF.l6 Lm;cases J
  split at g;rename_i hr;obtain⟨V,W⟩:=FT.apf B t ca;refine wp_cond_true (J _ hr) (xU L R Y c1 a1 _ s' x w G β a _ K V (λb=>aeM (W b) (z b)) g λw' G' jm C r=>B4 (q w' G' jm C (r.trans ((Mv.refl z).zj W))));rename_i hr;obtain⟨V,W⟩:=FT.apf B t cb;refine wp_cond_false (J _ hr) (xU L R Y c2 b1 _ s' x w G β a _ X V (λb=>aeM (W b) (z b)) g λw' G' jm C r=>B4 (q w' G' jm C (r.trans ((Mv.refl z).zj W))));cases g;cases l
 |.block id c1,code,s,s',x,w,G,β,a,Q,l,B,z,g,q=>by
  refine uP ?_;unfold lD at l;split at l;rename_i j a1 r;rw[r];simp only[Ee,cD]at l;obtain⟨rfl,K⟩:=l;refine wp_block ?_;unfold jU at g;cases p:jU O wl ah rs c1 s with
  |none=>rw[p]at g;cases g|some y=>
   obtain⟨x1,Z⟩:=y;rw[p]at g;refine xU L R Y c1 a1 s Z x1 w G β a _ K B z p λw' G' jm C E=>?_;cases x1 with
   |normal=>cases g;exact q w' G' jm C E|exit i=>
    simp only at g;simp only[JB,Exit.inBlock];split at g;rename_i hi;cases g;rw[af hi];exact q w' G' jm C E;rename_i hi;cases g;rw[U hi];exact q w' G' jm C E
   |ret v=>cases g;exact q w' G' jm C E
  cases l
 |.loop c1,code,s,s',x,w,G,β,a,Q,l,B,z,g,q=>by
  refine uP ?_;unfold lD at l;split at l;rename_i a1 r;rw[r];unfold jU at g;exact Qn (R wl ah rs c1 s x s' g a1 n l w G β a B z _ λw' G' jm C r=>B4 (q w' G' jm C r));cases l
 |.exit id,code,s,s',x,w,G,β,a,Q,l,B,z,g,q=>by
  refine uP ?_;simp only[jU,bw,cL]at g;obtain⟨rfl,rfl⟩:=g;unfold lD at l;split at l;rename_i j r;rw[r];simp only[cD]at l;subst l;exact wp_exit (q w G β a ⟨s,B,Mv.refl z,rfl⟩);cases l
 |.ret,code,s,s',x,w,G,β,a,Q,l,B,z,g,q=>by
  refine uP ?_;unfold lD at l;split at l;rename_i r;rw[r];unfold jU at g;split at g;rename_i v M;cases g;exact wp_ret (q w G β a ⟨s,B,Mv.refl z,M,rfl⟩);cases g;cases l
 |.ZB t,code,s,s',x,w,G,β,a,Q,l,B,z,g,q=>by
  simp[lD]at l
 |.IE j k,code,s,s',x,w,G,β,a,Q,l,B,z,g,q=>by
  simp[lD]at l
 |.qL t off,code,s,s',x,w,G,β,a,Q,l,B,z,g,q=>by
  simp[lD]at l
def Vf(S:Nat->Option aL)(P:Program)(sf:aL):Bool:=
 match P.funcs[sf.Sc]? with
 |some fn=>match fn.body with
  |some code => !(fn.name == "runtime.NumGoroutine") && lD S P fn.ntmps sf.body code && DA P fn.results.toList sf.results && A5 (Am sf.results) && A5 (A6 sf.results) && decide (sf.sJ ≤ fn.ntmps)
  |none=>false
 |none=>false
def Qp(S:Nat->Option aL)(P:Program):Prop:=∀f g,S f=some g->Vf S P g=true/\(f<100000->g.Sc=f)
def HE(b:Nat)(args:List AV)(vs:List Value)(k t:Nat):Nat:=if k<=t then (match args[t-k]?,vs[t-k]? with|some v,some u=>iw b v u|_,_=>0) else 0
theorem Qq{w:World}{G:bD}(b:Nat):∀(args:List AV)(vs:List Value)(k N:Nat),args.length=vs.length->k+args.length<=N->
  jh (HE b args vs k) N=cP b args vs
 |[],[],k,N,_,_=>by
  have:jh (HE b [] [] k) N=jh (λ_=>0) N:=rM λt _=>by simp[HE]
  rw[this,LW];rfl
 |v::args,u::vs,k,N,x,l=>by
  have I:=Qq (w:=w) (G:=G) b args vs (k+1) N (by simpa using x) (by simp at l;omega);have:=yq (f:=HE b (v::args) (u::vs) k) (g:=HE b args vs (k+1)) (d:=k) (n:=N) (by simp at l;omega) λt X=>by
    unfold HE;by_cases p:k<=t;have j:k+1<=t:=(by omega);have r:t-k=(t-(k+1))+1:=(by omega);simp only[p,j,bh,r,List.getElem?_cons_succ];have j:¬k+1<=t:=(by omega);simp only[p,j,br]
  have E:HE b (v::args) (u::vs) k k=iw b v u:=by simp[HE]
  have q:HE b args vs (k+1) k=0:=by unfold HE;rw[U (by omega)]
  rw[E,q,I]at this;simp only[cP];omega
 |[],_::_,_,_,h,_=>by simp at h|_::_,[],_,_,h,_=>by simp at h
end Ax
namespace Ax
open Go
variable {S:Nat->Option aL}{P:Program}{O:mC}{wl ah n:Nat}
variable {w w':World}{G G':bD}{β jm:List qh}{a:Act}{s s':St}
variable{v:AV}{st:aj}{args:List AV}
theorem afp{fn:Func}{rs:List jv}(p:FT w G β a s n)(x:DA P fn.results.toList rs=true)(q:A5 (Am rs)=true)(r:A5 (A6 rs)=true)(j:CC s rs=some v) :
  ∃u,(results fn a.tmps).run P w=.ok u w/\bF w G v u/\∀b,iw b v u+cV b G.ls s.st<=jo β a s G n b:=by
 unfold CC at j;cases J:Dp s rs with
 |none=>rw[J]at j;cases j|some vs=>
  obtain⟨U,y,K,V⟩:=L5 p _ rs vs x J;have l:=Qd y;rw[J]at j;have g:∀b,cP b vs U+cV b G.ls s.st<=jo β a s G n b:=λb=>by
   have E:=V b;have z:=Eb (f:=λt=>dz b (dZ s.env t) (n7 a t)) (n:=n) (λt X=>by rw[p.lt t X];rfl) _ (B1 q);have B:=Eb (f:=yu b β s.bx) (n:=s.bx.length) (λt X=>by
    unfold yu;rw[aeQ X];split;rename_i h;cases h
    rfl) _ (B1 r)
   have C:=Qe b β s.bx;unfold jo Ae;omega
  match vs,U,K,g,j,l with
  |[v1],[u],K,g,j,l=>
   cases j;refine⟨u,l,K.2 0 _ u rfl rfl,λb=>?_⟩;have:=g b;simp only[cP]at this;omega
  |[],U,K,g,j,l=>
   have:U=[]:=by have:=K.1;simpa using this.symm
   subst this;cases j;exact⟨_,l,.eY _ _ rfl λi c v h=>by simp at h,λb=>by have:=g b;simpa [iw,Xr] using this⟩
  |v1::L::vs,U,K,g,j,l=>
   cases j;match U,K,g,l with
   |[],K,_,_=>have:=K.1;simp at this|[_],K,_,_=>have:=K.1;simp at this|F::I::U,K,g,l=>
    exact⟨_,l,.eY _ _ (by simpa using K.1) λi c v h k=>K.2 i c v h (by simpa using k),λb=>by have:=g b;simpa [iw,Xr] using this⟩
  |[_],[],K,_,_,_=>have:=K.1;simp at this|[_],_::_::_,K,_,_,_=>have:=K.1;simp at this
theorem Nk{m:Mode}{qg p:aj}{V:AV}{u:Value}{A:Nat->Nat}(r:lN w G st)(z:eK (m.AJ st.length wl) (m.tf st.length ah) st qg)(g:m.oJ st v qg=some (V,p))(F:bF w' G' v u)(C:lN w' G' qg)
  (l:Mv w G A w' G' (λb=>iw b v u+cV b G'.ls qg)):∃j,bF w' j V u/\lN w' j p/\Mv w G A w' j (λb=>iw b V u+cV b j.ls p):=by
 have q:(m=.pure\/m=.mH)->LX st.length qg:=λh=>by
  have B:m.tf st.length ah=st.length:=by rcases h with rfl|rfl<;>rfl
  rw[B]at z;exact z.ah st.length (acO _) (acO _) r.aoZ
 have cut:v.aH=true->LX st.length qg->∃j,bF w' j v u/\lN w' j (qg.take st.length)/\Mv w G A w' j (λb=>iw b v u+cV b j.ls (qg.take st.length)):=by
  intro t B;have E:∀b,iw b v u+cV b (G'.cut st.length).ls (qg.take st.length)<=iw b v u+cV b G'.ls qg:=λb=>by
   have:=LY b st.length G'.ls qg;simp only[bD.cut];omega
  refine⟨G'.cut st.length,F.Jm (kE _ v t),C.Jm B,?_⟩;exact⟨ae9 l.kV (by rw[r.len];exact acO _),λb x=>aeM (E b) (l.iw b x),λb=>aeM (E b) (l.one b),λb x I=>l.AQ b x I,l.size,l.os,l.out⟩
 cases m with
 |AA=>
  simp only[Mode.oJ,bw,cL]at g;obtain⟨rfl,rfl⟩:=g;exact⟨G',F,C,l⟩
 |pure=>
  simp only[Mode.oJ]at g;split at g;rename_i t;cases g;obtain⟨j,c1,c2,c3⟩:=cut t (q (.inl rfl));have:qg.take st.length=st:=by
   apply aiJ;intro i;rw[aeq];split;rename_i y;exact z.low i (by simpa [Mode.AJ] using y) y;rename_i y;rw[aeQ (by omega)]
  rw[this]at c2 c3;exact⟨j,c1,c2,c3⟩;cases g
 |mH=>
  simp only[Mode.oJ]at g;split at g;rename_i t;cases g;exact cut t (q (.inr rfl));cases g
theorem Te(w:World)(G:bD)(k:Nat):mD w G (acp k ⟨none,[]⟩) (acp k []) where
 len:=by simp
 box:=λj q g l p=>by
  rw[List.getElem?_replicate]at l p;split at l;rename_i X;rw[af X]at p;cases l;cases p;exact⟨⟨rfl,λi c v h=>by simp at h⟩,rfl,.inl ⟨rfl,rfl⟩⟩;cases l
theorem JD(b:Nat):∀k,iJ b (acp k ⟨none,[]⟩) (acp k [])=0
 |0=>by simp[iJ]|k+1=>by simp[List.replicate_succ,iJ,JD b k,cP]
theorem Ej(hT:Qp S P)(hO:me S P O)(hL:B2 S P O)(hP:GQ S O)(hK:vW O){f:Nat}{sf:aL}(hf:S f=some sf){g:aj}(l:eN O wl ah sf args st=some (v,g)) :
  Xo P sf.Sc/\(f<100000->sf.Sc=f)/\
  ∀(w:World) (G:bD) (vs:List Value),dg w G args vs->lN w G st->(∀b,cP b args vs+cV b G.ls st<=1)->
   Calls P sf.Sc vs.toArray w λe w'=>∃u G',e=.returned u/\bF w' G' v u/\lN w' G' g/\
    Mv w G (λb=>cP b args vs+cV b G.ls st) w' G' (λb=>iw b v u+cV b G'.ls g):=by
 obtain⟨r,M⟩:=hT f sf hf;unfold Vf at r;split at r;rename_i fn E;split at r;rename_i code z;simp only[Ee,afh,aA]at r;obtain⟨⟨⟨⟨⟨J,uz⟩,DD⟩,W⟩,U⟩,hnp⟩:=r;refine⟨⟨fn,E,J,by rw[z];rfl⟩,M,λw G vs hR hI h1=>?_⟩;unfold eN at l;split at l;rename_i hlen;split at l;rename_i x s B;split at l;rename_i v1 L;refine calls_of_wp E z ?_;have I:vs.length=args.length:=hR.1.symm;have eO:(vs.toArray++aml (fn.ntmps-vs.toArray.size) undef).size=fn.ntmps:=by
  simp only[Array.size_append,List.size_toArray,aom];omega
 let j:Act:={ tmps:=vs.toArray++aml (fn.ntmps-vs.toArray.size) undef,defers:=[] }
 have C:∀t u,vs[t]?=some u->n7 j t=u:=λt u p=>by
  have F:=(aac.1 p).1;have:j.tmps[t]?=some u:=by
   show (vs.toArray++aml (fn.ntmps-vs.toArray.size) undef)[t]?=some u;rw[Array.getElem?_append];simp[F,(aac.1 p).2]
  simp[n7,this]
 have y:∀t,dZ (uG sf args st).env t=if t∈sf.tc then .none else (match args[t]? with|some v=>.val v|none=>.none):=λt=>by
  simp only[uG,zd,LU,Nat.zero_le,bh,Nat.sub_zero]
  rfl
 have Q:FT w G (acp sf.AH ⟨none,[]⟩) j (uG sf args st) fn.ntmps:=by
  refine⟨rfl,by show fn.ntmps<=(vs.toArray++aml (fn.ntmps-vs.toArray.size) undef).size;omega,λt=>?_,λt ht=>?_,hI,Te w G sf.AH⟩;rw[y];split
  trivial
  split;rename_i v0 h;have F:t<vs.length:=by rw[I];exact(aac.1 h).1
  have p:=aas F;rw[C t _ p];exact hR.2 t v0 _ h p
  trivial
  rw[y,aeQ (by omega)];simp
 have q:∀b,jo (acp sf.AH ⟨none,[]⟩) j (uG sf args st) G fn.ntmps b<=cP b args vs+cV b G.ls st:=λb=>by
  have e1:=Qq (w:=w) (G:=G) b args vs 0 fn.ntmps I.symm (by omega);have e2:jh (λt=>dz b (dZ (uG sf args st).env t) (n7 j t)) fn.ntmps<=jh (HE b args vs 0) fn.ntmps:=H9 λt _=>by
   rw[y];simp only[HE,Nat.zero_le,bh,Nat.sub_zero];split;simp[dz];cases h:args[t]? with
   |none=>simp[dz]|some v0=>
    have F:t<vs.length:=(by rw[I];exact(aac.1 h).1);have p:=aas F;rw[C t _ p,p];exact acO _
  have e3:=JD b sf.AH;unfold jo Ae;show jh (λt=>dz b (dZ (uG sf args st).env t) (n7 j t)) fn.ntmps+iJ b (acp sf.AH ⟨none,[]⟩) (acp sf.AH [])+cV b G.ls st<=_;omega
 have h0:∀b,jo (acp sf.AH ⟨none,[]⟩) j (uG sf args st) G fn.ntmps b<=1:=λb=>aeM (q b) (h1 b);refine xU hO hL hP sf.body code _ s x w G _ j _ uz Q h0 B λw' G' jm a' hp=>?_;obtain⟨sr,V,g2,Y⟩:=hp;have K:eK (sf.mode.AJ st.length wl) (sf.mode.tf st.length ah) st s.st:=mc hK B;have oJ:CC sr sf.results=some v1->s.st=sr.st->a'.defers=[]/\∃u,(results fn a'.tmps).run P w'=.ok u w'/\∃Z G',(Ending.returned u)=.returned Z/\bF w' G' v Z/\lN w' G' g/\
   Mv w G (λb=>cP b args vs+cV b G.ls st) w' G' (λb=>iw b v Z+cV b G'.ls g):=by
  intro X iH;obtain⟨u,r1,r2,r3⟩:=afp V DD W U X;have R:Mv w G (λb=>cP b args vs+cV b G.ls st) w' G' (λb=>iw b v1 u+cV b G'.ls s.st):=by
   rw[iH];have Y:=g2.zj r3;exact Y.Z4 q (λb hb=>aeM (Y.iw b hb) (q b)) Y.one
  have N:lN w' G' s.st:=by rw[iH];exact V.inv
  obtain⟨G2,c1,c2,c3⟩:=Nk hI K l r2 N R;exact⟨V.Qa,u,r1,u,G2,rfl,c1,c2,c3⟩
 cases x with
 |normal=>
  simp only at Y;subst Y;exact oJ L rfl
 |exit id=>cases L|ret v2=>
  cases L;exact oJ Y.1 Y.2
 cases l;cases l;cases l;cases r;cases r
theorem JE{j:aL}{g:aj}(h:eN O wl ah j args st=some (v,g))(l:j.mode=.pure):v.aH=true/\g=st:=by
 unfold eN at h;split at h;split at h;split at h;rw[l]at h;simp only[Mode.oJ]at h;split at h;rename_i p;cases h;exact⟨p,rfl⟩;cases h;cases h;cases h;cases h
theorem xm(V:Qp S P)(L:me S P O)(R:B2 S P O)(Y:GQ S O)(K:vW O){f:Nat}{sf:aL}(W:S f=some sf){st':aj}(j:fU O wl ah sf args st=some (v,st')) :
  Xo P sf.Sc/\(f<100000->sf.Sc=f)/\
  ∀(w:World) (G:bD) (vs:List Value),dg w G args vs->lN w G st->(∀b,cP b args vs+cV b G.ls st<=1)->
   Calls P sf.Sc vs.toArray w λe w'=>∃u G',e=.returned u/\bF w' G' v u/\lN w' G' st'/\
    Mv w G (λb=>cP b args vs+cV b G.ls st) w' G' (λb=>iw b v u+cV b G'.ls st'):=by
 unfold fU at j;split at j;rename_i F;simp only[Ac,Ee,aA]at F;obtain⟨hm,C⟩:=F;simp only[Option.map_eq_some_iff]at j;obtain⟨⟨v0,st0⟩,M,hx⟩:=j;cases hx;obtain⟨X,rfl⟩:=JE M hm;obtain⟨h1,h2,h3⟩:=Ej V L R Y K W M;refine⟨h1,h2,λw G vs Q q N=>?_⟩;have t:∀(i:Nat) c,args[i]?=some c->c.under 0=true:=λi c j=>kE 0 c ((iW args).1 C c (eB j));have x:lN w (G.cut 0) []:=by
  have:=q.Jm (n:=0) λid ob h=>by omega
  simpa using this
 have g:∀b,cV b (G.cut 0).ls []=0:=λb=>by simp[cV]
 refine(h3 w (G.cut 0) vs ⟨Q.1,λi c v I Z=>(Q.2 i c v I Z).Jm (t i c I)⟩ x λb=>by rw[g b];have:=N b;omega).mono λe w' he=>?_;obtain⟨u,G',rfl,r1,r2,r⟩:=he;have E:∀b,cV b G'.ls []=0:=λb=>by simp[cV]
 have U:wZ w G w' ⟨G.ls,G'.oY⟩:=⟨λb o z=>r.kV.ZD b o z,λid loc B=>⟨loc,B,acO _,λ_=>rfl⟩⟩;have J:∀b,b<w.heap.size->cP b args vs=0->fM w G w' ⟨G.ls,G'.oY⟩ b:=λb l p=>by
  have:=r.AQ b l (by rw[p,g b]);exact this
 have y:lN w' ⟨G.ls,G'.oY⟩ st:=AS q U rfl (λb l=>J b (q.held l) (by have:=N b;omega)) r2.qi;have fG:bF w' ⟨G.ls,G'.oY⟩ v0 u:=by
  have p:=r1.Jm (n:=0) (kE 0 v0 X);exact p.kV ⟨λb o z=>⟨rfl,z⟩,λid loc B=>by simp[bD.cut]at B⟩ λb _=>⟨rfl,rfl⟩
 refine⟨u,⟨G.ls,G'.oY⟩,rfl,fG,y,U,λb l=>?_,λb=>?_,λb l p=>J b l (by omega),r.size,r.os,r.out⟩;have:=r.iw b l;rw[E b,g b]at this;show iw b v0 u+cV b G.ls st<=_;omega;have h4:=r.one b;rw[E b]at h4;show iw b v0 u+cV b G.ls st<=1;by_cases l:b<w.heap.size;have h5:=r.iw b l;rw[E b,g b]at h5;have:=N b;omega;have:cV b G.ls st=0:=by
  rcases aiN (cV b G.ls st) with h|h;exact h;exact au (q.held h) l
 omega;exact Ej V L R Y K W j
theorem L8(z:Qp S P):∀n,me S P (tS S n)/\B2 S P (tS S n)
 |0=>⟨λwl ah f args st v r h=>by simp[tS]at h,λwl ah rs c s x s' h=>by simp[tS]at h⟩
 |n+1=>by
  obtain⟨C,I⟩:=L8 z n;refine⟨λwl ah f args st v r h=>?_,λwl ah rs c s x s' h code m B w G β a L K Q l=>?_⟩;simp only[tS]at h;split at h;rename_i M j;exact⟨M,j,xm z C I (Qh S n) (LZ S n) j h⟩;cases h;simp only[tS]at h;refine Ql ?_;cases p:jU (tS S n) wl ah rs c s with
  |none=>rw[p]at h;cases h|some y=>
   obtain⟨X,E⟩:=y;rw[p]at h;refine xU C I (Qh S n) c code s E X w G β a _ B L K p λw' G' jm g q=>?_;cases X with
   |normal=>
    obtain⟨U,V,W,Y⟩:=q;simp only at Y;subst Y;exact I wl ah rs c E x s' h code m B w' G' jm g V W.one Q λN F t J R=>l N F t J (R.trans W)
   |exit id=>cases h;exact l w' G' jm g q|ret v=>cases h;exact l w' G' jm g q
end Ax
namespace Ax
open Go
variable {P:Program}{w w':World}{G G':bD}
def Ig(P:Program)(ts:List TypeId):Bool:=ts.all λt=>decide (t<P.types.size)&&match P.underlying t with
 |some .bool|some (.int _)|some .string=>true|some (.slice e)=>ts.contains e&&decide (0<P.cellsOf e)|some (.struct fs)=>fs.toList.all λf=>ts.contains f.type|_=>false
mutual
inductive Ty (P:Program):TypeId->List AV->Prop
 |bool {t:TypeId} (h:P.underlying t=some .bool) (b:Bool):Ty P t [.bool b]
 |int {t:TypeId} {k:IntKind} (h:P.underlying t=some (.int k)) (n:Int) (h1:k.min<=n) (h2:n<=k.max):Ty P t [.int k n]
 |str {t:TypeId} (h:P.underlying t=some .string) (l:List UInt8) (hn:l.length<=maxLen):Ty P t [.str l]
 |aF {t e:TypeId} (h:P.underlying t=some (.slice e)):Ty P t [.aF]
 |oI {t e:TypeId} (h:P.underlying t=some (.slice e)):Ty P t [.oI]
 |dV {t e:TypeId} (h:P.underlying t=some (.slice e)) (rows:List (List AV)) (hn:rows.length<=maxLen) (hl:∀r∈rows,r.length=P.cellsOf e) (h2:∀r∈rows,Ty P e r):Ty P t [.dV (P.cellsOf e) rows]
 |aat {t:TypeId} {fs:Array Field} (h:P.underlying t=some (.struct fs)) (as:List AV) (h2:aau P fs.toList as):Ty P t as
inductive aau (P:Program):List Field->List AV->Prop
 |nil:aau P [] []
 |cons {f:Field} {fs:List Field} {as bs:List AV} (hl:as.length=P.cellsOf f.type) (h1:Ty P f.type as) (h2:aau P fs bs):aau P (f::fs) (as++bs)
end
abbrev G0:bD:=⟨[],λ_=>none⟩
def C9(as:List AV):Prop:=AV.fJ as=true/\AV.aB as=true/\AV.bC as=true
theorem vp{a:AV}(h:a.de=true)(g:a.aH=true)(j:a.cM=true):C9 [a]:=by
 refine⟨?_,?_,?_⟩<;>simp[AV.fJ,AV.aB,AV.bC,h,g,j]
theorem Nl{as bs:List AV}(h:C9 as)(k:C9 bs):C9 (as++bs):=by
 obtain⟨j,l,p⟩:=h;obtain⟨K,q,V⟩:=k;refine⟨(dD _).2 λc g=>?_,(iW _).2 λc g=>?_,?_⟩;rcases aed.1 g with h|h;exact(dD _).1 j c h;exact(dD _).1 K c h;rcases aed.1 g with h|h;exact(iW _).1 l c h;exact(iW _).1 q c h;simp only[AV.bC,List.all_append,Ee]at *;exact⟨p,V⟩
theorem yw{a:AV}{v:Value}(h:bF w G a v):dg w G [a] [v]:=⟨rfl,λi c u g j=>by
 cases i with
 |zero=>simp at g j;subst g;subst j;exact h|succ i=>simp at g⟩
theorem afr{b o:Nat}(h:b<w.heap.size):Imm w G0 b o:=⟨h,λp j=>by cases j⟩
section
variable {H:Type}{enc:TypeId×Value->H}{ts:List TypeId}
theorem L9{cs:List Value}:∀(fs:List Field)(o:Nat),(∀(j:Nat) f,fs[j]?=some f->f.offset=o+((fs.take j).map λf=>P.cellsOf f.type).sum)->cs.length=o+(fs.map λf=>P.cellsOf f.type).sum->
  (∀f∈fs,∃as,dg w G0 as ((cs.drop f.offset).take (P.cellsOf f.type))/\Ty P f.type as/\C9 as)->∃as,dg w G0 as (cs.drop o)/\aau P fs as/\C9 as
 |[],o,_,q,_=>by
  simp at q;have:cs.drop o=[]:=List.drop_eq_nil_of_le (by omega);rw[this];exact⟨[],⟨rfl,λi c v h=>by simp at h⟩,.nil,rfl,rfl,rfl⟩
 |f::fs,o,z,q,r=>by
  have E:f.offset=o:=by have:=z 0 f rfl;simpa using this
  simp only[aei,aqt]at q;obtain⟨bs,t,x,y⟩:=L9 fs (o+P.cellsOf f.type) (λj g p=>by
   have:=z (j+1) g (by simpa using p);simp only[List.take_succ_cons,aei,aqt]at this;omega) (by omega) (λg p=>r g (by simp[p]))
  obtain⟨as,K,B,V⟩:=r f (by simp);rw[E]at K;have l:as.length=P.cellsOf f.type:=by
   rw[K.1,List.length_take,List.length_drop];omega
  refine⟨as++bs,?_,.cons l B x,Nl V y⟩;have:cs.drop o=(cs.drop o).take (P.cellsOf f.type)++cs.drop (o+P.cellsOf f.type):=by
   rw[<-List.drop_drop,List.take_append_drop]
  rw[this];exact dg.append K t
theorem afs(hK:Kids P (· < P.types.size))(hp:Ig P ts=true):∀(n:Nat)(t:TypeId)(cs:List Value)(x:DataW H×List MemPlace),t∈ts->DataW.trod enc P w 0 (λ_=>true) true n t cs=some x->
  ∃as,dg w G0 as cs/\Ty P t as/\C9 as:=by
 intro n;induction n with
 |zero=>intro t cs x _ h;simp[DataW.trod]at h|succ n ih=>
  intro t cs x ht h;have z:=ac3.1 hp t ht;simp only[Ee,aA]at z;obtain⟨bP,z⟩:=z;split at z;rename_i l;obtain⟨b,rfl,rfl⟩:=DataW.trod_bool l h;exact⟨[.bool b],yw (.bool b),.bool l b,vp rfl rfl rfl⟩;rename_i k l;obtain⟨m,rfl,rfl,hw⟩:=DataW.trod_int l h;simp only[Lit.wf,Ee,aA]at hw;exact⟨[.int k m],yw (.int k m),.int l m hw.1 hw.2,vp rfl rfl rfl⟩;rename_i l;obtain⟨s,rfl,rfl,jY⟩:=DataW.trod_string l h;exact⟨[.str s.data.toList],yw (.str _ s rfl),.str l _ (by simpa using jY),vp rfl rfl rfl⟩;rename_i e l;simp only[Ee,aiU,aA]at z;obtain⟨he,eO⟩:=z;rcases DataW.trod_slice l h with⟨rfl,rfl⟩|⟨a,len,cap,F,AX,m,W,rfl,rfl,_,hlc,vU,hel,X,Z2,_⟩;exact⟨[.aF],yw .aF,.aF l,vp rfl rfl rfl⟩;cases W;by_cases iA:cap=0;subst iA;have:len=0:=by omega
  subst this;exact⟨[.oI],yw (.oI a),.oI l,vp rfl rfl rfl⟩;have g9:∀i,i<cap->∃J y,w.cells? 0 (a.add (i*P.cellsOf e)) (P.cellsOf e)=some J/\DataW.trod enc P w 0 (λ_=>true) true n e J=some y:=by
   intro i q;by_cases Zh:i<len;have p:=X i Zh;have B:∃y,F[i]?=some y:=⟨_,aas (by omega)⟩;obtain⟨y,K⟩:=B;rw[K,ack]at p;obtain⟨J,E,C⟩:=p;exact⟨J,y,E,C⟩;obtain⟨tj,g⟩:=Z2 rfl;have p:=g (i-len) (by omega);rw[show len+(i-len)=i by omega]at p;have B:∃y,AX[i-len]?=some y:=⟨_,aas (by omega)⟩;obtain⟨y,K⟩:=B;rw[K,ack]at p;obtain⟨J,E,C⟩:=p;exact⟨J,y,E,C⟩
  have N:a.spot=none:=by
   obtain⟨J,y,E,_⟩:=g9 0 (by omega);obtain⟨_,g2,Y⟩:=World.cells?_some E;have I:=Y 0 eO;have:∃v,J[0]?=some v:=⟨_,aas (by omega)⟩;obtain⟨v,M⟩:=this;rw[M]at I;have:=World.cell?_spot I;simpa [Addr.add] using this
  obtain⟨kC,off,spot⟩:=a;simp only at N;subst N;have W9:∀off k,Addr.add ⟨kC,off,none⟩ k=⟨kC,off+k,none⟩:=λoff k=>by
   unfold Addr.add;split;rename_i I;subst I;rfl
   rfl
  have Qr:∀i,i<len->∃r,(r.length=P.cellsOf e/\Ty P e r/\C9 r)/\∀(j:Nat) c,r[j]?=some c->∃v,w.cell? ⟨kC,off+(i*P.cellsOf e+j),none⟩=some v/\bF w G0 c v:=by
   intro i q;obtain⟨J,y,E,C⟩:=g9 i (by omega);obtain⟨_,g2,Y⟩:=World.cells?_some E;obtain⟨r,r1,r2,r3⟩:=ih e J y he C;have tj:r.length=P.cellsOf e:=(by rw[r1.1,g2]);refine⟨r,⟨tj,r2,r3⟩,λj c hc=>?_⟩;have hj:j<P.cellsOf e:=(by rw[<-tj];exact(aac.1 hc).1);have I:=Y j hj;have M:∃v,J[j]?=some v:=⟨_,aas (by omega)⟩;obtain⟨v,M⟩:=M;rw[M,W9,W9]at I;refine⟨v,by rw[<-I];congr 2;omega,r1.2 j c v hc M⟩
  have key:∀m,m<=len->∃rows:List (List AV),rows.length=m/\∀(i:Nat) r,rows[i]?=some r->(r.length=P.cellsOf e/\Ty P e r/\C9 r)/\∀(j:Nat) c,r[j]?=some c->∃v,w.cell? ⟨kC,off+(i*P.cellsOf e+j),none⟩=some v/\bF w G0 c v:=by
   intro m;induction m with
   |zero=>intro _;exact⟨[],rfl,λi r h=>by simp at h⟩|succ m ihm=>
    intro W;obtain⟨rows,l1,U⟩:=ihm (by omega);obtain⟨r,g⟩:=Qr m (by omega);refine⟨rows++[r],by simp[l1],λi r' q=>?_⟩;by_cases him:i<m;rw[acJ (by omega)]at q;exact U i r' q;rw[List.getElem?_append_right (by omega)]at q;have:i-rows.length=0:=by
     rcases aiN (i-rows.length) with h|h;exact h;rw[aeQ (by simp;omega)]at q;cases q
    rw[this]at q;simp at q;subst q;have:i=m:=by omega
    subst this;exact g
  obtain⟨rows,l1,U⟩:=key len (acO _);have L:∀r∈rows,r.length=P.cellsOf e/\Ty P e r/\C9 r:=λr g=>by
   obtain⟨i,q,rfl⟩:=aec.1 g;exact(U i _ (aas q)).1
  have fG:bF w G0 (.dV (P.cellsOf e) rows) (.slice (some ⟨kC,off,none⟩) rows.length cap):=by
   refine .dV (P.cellsOf e) rows ⟨kC,off,none⟩ cap rfl (by omega) ?_ (λr g=>(L r g).2.2.1) (λr g=>(L r g).2.2.2.1) (λr g=>(L r g).2.2.2.2) (λi r j c p B=>?_) (λi r j c v p B V=>?_);simp only[cr,ac3,cD];exact λr g=>(L r g).1;obtain⟨v,E,_⟩:=(U i r p).2 j c B;exact⟨afr (World.block_lt_of_cell? w ⟨kC,off+(i*P.cellsOf e+j),none⟩ E:kC<w.heap.size),v,E⟩;obtain⟨v',E,C⟩:=(U i r p).2 j c B;rw[E]at V;cases V;exact C
  rw[l1]at fG;exact⟨[.dV (P.cellsOf e) rows],yw fG,(.dV l rows (by omega) (λr g=>(L r g).1) (λr g=>(L r g).2.1)),vp rfl rfl rfl⟩;rename_i fs l;simp only[ac3,aiU,aA]at z;obtain⟨xs,m,W,rfl,hl,R,Z⟩:=DataW.trod_struct l h;cases W;obtain⟨_,k2,k3⟩:=hK.struct bP l;obtain⟨as,p,B,V⟩:=L9 (P:=P) (w:=w) (cs:=cs) fs.toList 0 (λj f Z=>by rw[k3 j f Z];omega) (by rw[hl,k2];omega) λf Q=>by
   obtain⟨i,q,rfl⟩:=aec.1 Q;have hg:fs.toList[i]?=some fs.toList[i]:=aas q;have p:=Z i fs.toList[i] (by simp);have K:∃y,xs[i]?=some y:=⟨_,aas (by rw[R];simpa using q)⟩;obtain⟨y,K⟩:=K;rw[K]at p;exact ih _ _ y (z _ Q) p
  exact⟨as,by simpa using p,.aat l as B,V⟩;cases z
def TyV(P:Program)(t:TypeId)(a:AV):Prop:=(∃fs as,P.underlying t=some (.struct fs)/\a=.agg as/\Ty P t as)\/((∀fs,P.underlying t≠some (.struct fs))/\Ty P t [a])
def aft(P:Program):List TypeId->List AV->Prop
 |[],[]=>True|t::ts,a::as=>TyV P t a/\aft P ts as|_,_=>False
theorem aav(B:Kids P (· < P.types.size))(y:Ig P ts=true){r:Reach}{base:Nat}{t:TypeId}{v:Value}{d:DataW H}{ps:List MemPlace}(X:t∈ts)(R:Value.okWide P w r base t v)
  (h:DataW.Trod enc P w 0 (λ_=>true) true t v d ps):∃a,bF w G0 a v/\TyV P t a/\a.de=true:=by
 obtain⟨n,I⟩:=h;obtain⟨as,j,p,x⟩:=afs B y n t _ _ X I;have one:v.cells = #[v]->(∀fs,P.underlying t≠some (.struct fs))->∃a,bF w G0 a v/\TyV P t a/\a.de=true:=by
  intro F J;rw[F]at j;obtain⟨E,q⟩:=j;match as,E,q,p,x with
  |[a],_,q,p,x=>exact⟨a,q 0 a v rfl rfl,.inr ⟨J,p⟩,by have:=x.1;simpa [AV.fJ] using this⟩
 have z:=ac3.1 y t X;simp only[Ee,aA]at z;obtain⟨_,z⟩:=z;split at z;rename_i g;obtain⟨b,rfl⟩:=WideShapes.okWide_bool g R;exact one rfl λfs h=>by rw[g]at h;cases h
 rename_i k g;obtain⟨b,rfl⟩:=WideShapes.okWide_int g R;exact one rfl λfs h=>by rw[g]at h;cases h
 rename_i g;obtain⟨b,rfl⟩:=WideShapes.okWide_string g R;exact one rfl λfs h=>by rw[g]at h;cases h
 rename_i e g;obtain⟨a,l,c,rfl⟩:=WideShapes.okWide_slice g R;exact one rfl λfs h=>by rw[g]at h;cases h
 rename_i fs g;obtain⟨C,rfl,_⟩:=WideShapes.okWide_struct g R;refine⟨.agg as,.agg as C (by simpa [Value.cells] using j.1) λi c v E q=>j.2 i c v E (by simpa [Value.cells] using q),.inl ⟨fs,as,g,rfl,p⟩,?_⟩;simp only[AV.de];exact x.1;cases z
theorem Ma(l:Kids P (· < P.types.size))(x:Ig P ts=true){r:Reach}{base:Nat}:∀{U:List TypeId}{vs:List Value}{g:List (DataW H)}{ps:List MemPlace},(∀t∈U,t∈ts)->
  (∀(j:Nat) t v,U[j]?=some t->vs[j]?=some v->Value.okWide P w r base t v)->DataW.TrodAll enc P w 0 (λ_=>true) true U vs g ps->∃as,dg w G0 as vs/\aft P U as/\AV.fJ as=true
 |[],[],[],_,_,_,_=>⟨[],⟨rfl,λi c v h=>by simp at h⟩,trivial,rfl⟩
 |t::U,v::vs,d::g,ps,y,z,h=>by
  obtain⟨p,q,M,N,rfl⟩:=h;obtain⟨a,B,C,E⟩:=aav l x (y t (by simp)) (z 0 t v rfl rfl) M;obtain⟨as,F,I,J⟩:=Ma l x (λt X=>y t (by simp[X])) (λj t v K L=>z (j+1) t v (by simpa using K) (by simpa using L)) N;exact⟨a::as,dg.cons B F,⟨C,I⟩,by simp[AV.fJ,E,J]⟩
 |[],_::_,_,_,_,_,h=>h.elim|[],[],_::_,_,_,_,h=>h.elim|_::_,[],_,_,_,_,h=>h.elim|_::_,_::_,[],_,_,_,h=>h.elim
theorem Da(y:Kids P (· < P.types.size))(C:∀t e,t<P.types.size->P.underlying t=some (.slice e)->0<P.cellsOf e){E:Nat->Bool}(g:∀b,b<w.heap.size->w'.heap[b]?=w.heap[b]?):∀{U:List TypeId}{vs:List Value}{j:List (DataW H)}{ps:List MemPlace},(∀t∈U,t<P.types.size)->
  DataW.TrodAll enc P w 0 (λ_=>true) true U vs j ps->(∀p∈ps,E p.block=true)->DataW.TrodAll enc P w' 0 E true U vs j ps
 |[],[],[],_,_,h,_=>h|t::U,v::vs,d::j,ps,B,h,z=>by
  obtain⟨p,q,⟨n,r⟩,I,rfl⟩:=h;refine⟨p,q,⟨n,DataW.trod_stays y (fun {t e}=>C t e) (λh=>by cases h) (B t (by simp)) r (λx l=>?_) λx l=>z x (by simp[l])⟩,Da y C g (λt X=>B t (by simp[X])) I (λx l=>z x (by simp[l])),rfl⟩;have F:=DataW.trod_lt n t _ _ r x l;cases x with
  |cell b off=>simp only[World.sameAt,World.cell?,g b F]|map b=>exact g b F
 |[],_::_,_,_,_,h,_=>h.elim|[],[],_::_,_,_,h,_=>h.elim|_::_,[],_,_,_,h,_=>h.elim|_::_,_::_,[],_,_,h,_=>h.elim
theorem aax(w:World):lN w G0 []:=⟨rfl,λid g loc h=>by simp at h,λb p h=>by cases h⟩
theorem Nm{M:MemPlace->Prop}(g:w'.os=w.os)(j:w'.output=w.output)(l:∀b,b<w.heap.size->w'.heap[b]?=w.heap[b]?):w.keptBut w' M:=by
 refine⟨g,j,λi h=>?_⟩;rw[l i h];have:=Array.getElem?_eq_getElem h;rw[this];cases w.heap[i] with
 |cells c t fr=>exact⟨rfl,rfl,rfl,λ_ _=>rfl⟩|map E clock=>exact .inr ⟨rfl,rfl⟩|_=>rfl
theorem Qs(_hsz:w.heap.size<=w'.heap.size)(j:∀b,b<w.heap.size->w'.heap[b]?=w.heap[b]?)(a:Addr)(h:a.block<w.heap.size):w'.frozen? a=w.frozen? a:=by
 simp only[World.frozen?,j a.block h]
end
end Ax
namespace Ax
open Go Go.ChangeShapes
variable {P:Program}{w w':World}{G G':bD}{H:Type}{enc:TypeId×Value->H}
variable{f:FuncId}{args:Array Value}
theorem aay{f:Func}{s:ChangeSpec}{nG fresh h yx:Bool}{W l:World}{g U:List (DataW H)}{iP:List MemPlace}{tb:TypeId}
  (hK:Kids P (· < P.types.size))(hz:∀t e,t<P.types.size->P.underlying t=some (.slice e)->0<P.cellsOf e)(z:∀t∈f.params.toList,t<P.types.size)
  (K:DataW.Whole enc P f.params.toList s.vars nG W args.toList g U iP) (M:s.vars=[]) (J:f.resultTypes = #[tb]) (y:P.underlying tb=some .bool)
  (hr:(s.fn H g).results=[.lit (.bool true)]) (ha:(s.fn H g).args=g) (Dq:(s.fn H g).vars=[])
  (h1:l.os=W.os) (h2:l.output=W.output) (h4:W.heap.size<=l.heap.size) (C:∀b,b<W.heap.size->l.heap[b]?=W.heap[b]?) :
  s.post enc P f nG fresh h yx W args (.bool true) l:=by
 have L:=K;obtain⟨p,q,X,I,rfl,R,Z⟩:=L;rw[M]at I;cases U with
 |cons _ _=>exact I.elim|nil=>
  have hq:q=[]:=I;subst hq;simp only[afe]at K R Z;have iH:∀F:Nat->Bool,(∀x∈p,F x.block=true)->DataW.TrodAll enc P l 0 F true f.params.toList args.toList g p:=λF nU=>Da hK hz C z X nU;have V:∀x∈p,x.block<W.heap.size:=DataW.TrodAll.lt X;have v:∀x∈p,(λb=>decide (b<W.heap.size)) x.block=true:=λx N=>by simpa using V x N
  have tj:(Value.bool true).resultList f.resultTypes.size=[.bool true]:=by rw[J];rfl
  have Q:∀(b:Nat) (F:Nat->Bool) (Y:Bool),DataW.TrodAll enc P l b F Y f.resultTypes.toList ((Value.bool true).resultList f.resultTypes.size) (s.fn H (g++[])).results []:=λb F Y=>by
   rw[afe,hr,tj,J];exact⟨[],[],⟨1,by simp[DataW.trod,y,Value.cells]⟩,rfl,rfl⟩
  refine⟨g,[],p,[],p,[],K,Q _ _ _,by rw[afe,ha];exact iH _ v,by rw[M,afe,Dq];rfl,Nm h1 h2 C,λ_=>?_⟩;refine⟨λj t r E B=>?_,[DataW.lit (.bool true)]++g,[],p,⟨p,[],?_,(by rw[M];exact(rfl:DataW.TrodVars enc P l (λ_=>true) [] [] [])),by simp,?_,?_⟩,?_⟩;rw[J]at E;rw[tj]at B;cases j with
  |zero=>
   simp at E B;subst E;subst B;exact RowKit.okWide_bool_mk y true
  |succ j=>simp at E
  have:=trodAll_append (iH _ (λ_ _=>rfl)) (Q 0 (λ_=>true) true);simpa [hr] using this;intro b off hp;rw[Qs h4 C _ (V _ hp)];exact R b off hp;exact Z;intro x N _;exact N
theorem Tg{S:Nat->Option aL}(j:Qp S P):me S P (aZ S):=λwl ah f args st v g h=>by
 obtain⟨n,l⟩:=(ye S).call _ _ _ _ _ _ h;exact(L8 j n).1 wl ah f args st v g l
theorem Xz{S:Nat->Option aL}(t:Qp S P)(B:f<100000){as:List AV}{g:aj}(y:(aZ S).call 0 0 f as []=some (.bool true,g)){W:World}(z:dg W G0 as args.toList)(x:AV.fJ as=true) :
  Calls P f args W λe l=>e=.returned (.bool true)/\l.os=W.os/\l.output=W.output/\W.heap.size<=l.heap.size/\∀b,b<W.heap.size->l.heap[b]?=W.heap[b]?:=by
 obtain⟨I,C,E,p,q⟩:=Tg t _ _ _ _ _ _ _ y;have j:∀b,cP b as args.toList+cV b G0.ls []=0:=λb=>by rw[eZ b _ _ x];simp[cV]
 have:=q W G0 args.toList z (aax W) (λb=>by rw[j b];omega);rw[p B]at this;refine this.mono λe l h=>?_;obtain⟨u,G',rfl,R,F,r⟩:=h;refine⟨by rw[bF.l6 R],r.os,r.out,r.size,λb v=>(r.AQ b v (j b)).2⟩
structure aps (S:Nat->Option aL)(C:Checked)(ts:List TypeId):Prop where
 ju:ownKnob C.prog.godebug=none
 tab:Qp S C.prog
 aN:Kids C.prog (· < C.prog.types.size)
 auH:∀t e,t<C.prog.types.size->C.prog.underlying t=some (.slice e)->0<C.prog.cellsOf e
 plain:Ig C.prog ts=true
theorem law_lifted{S:Nat->Option aL}{C:Checked}{ts:List TypeId}(M:aps S C ts){Q:Os}(y:Q.Started){fn:Func}{s:ChangeSpec}{r:List PathCond}{nG fresh x yx:Bool}{tb:TypeId}
  (I:C.prog.inits.idxOf? f=none)(L:C.prog.funcs[f]?=some fn)(hf:f<100000)
  (z:∃(w:World) (l:Tape) (i:Input),w.os=Q/\(w.forCall l i).Shaped C.prog/\i.vars=[]/\Input.okWide C.prog (w.forCall l i) .any w.heap.size f i/\
   s.pre6 enc C.prog fn r nG (w.forCall l i).memory i.args/\({}:Assume).holds C.prog (lone (Frame.enter C.prog f i.args .normal) [] (w.forCall l i)))
  (F:(fn.params.toList.all λt=>ts.contains t&&decide (t<C.prog.types.size))=true) (hv:s.vars=[]) (Z:fn.resultTypes = #[tb]) (N:C.prog.underlying tb=some .bool)
  (J:∀g:List (DataW H),g.length=fn.params.toList.length->(s.fn H g).results=[.lit (.bool true)]/\(s.fn H g).args=g/\(s.fn H g).vars=[])
  (fD:∀as,aft C.prog fn.params.toList as->∃E,(aZ S).call 0 0 f as []=some (.bool true,E)) :
  ReturnsInHanded {} C Q f .any (s.pre6 enc C.prog fn r nG) (s.post enc C.prog fn nG fresh x yx):=by
 refine returnsInHanded_of_change M.ju y I L z ?_;intro W base args g gs iP rG V _ _;have Y:∀t∈fn.params.toList,t∈ts/\t<C.prog.types.size:=λt X=>by
  have:=ac3.1 F t X;simpa using this
 obtain⟨p,q,R,hV,hb,_,_⟩:=id V;obtain⟨as,a1,a2,a3⟩:=Ma M.aN M.plain (λt X=>(Y t X).1) (λj t v e1 e2=>rG j t v (by simpa using e1) (by simpa using e2)) R;obtain⟨E,hc⟩:=fD as a2;have B:∀(U:List TypeId) (vs:List Value) (g:List (DataW H)) (p:List MemPlace),DataW.TrodAll enc C.prog W 0 (λ_=>true) true U vs g p->g.length=U.length:=by
  intro U;induction U with
  |nil=>intro vs g p h;cases vs with
   |nil=>cases g with
    |nil=>rfl|cons _ _=>exact h.elim
   |cons _ _=>cases g<;>exact h.elim
  |cons t U ih=>intro vs g p h;cases vs with
   |nil=>cases g<;>exact h.elim|cons v vs=>cases g with
    |nil=>exact h.elim|cons d g=>
     obtain⟨_,_,_,K,_⟩:=h;simp[ih vs g _ K]
 obtain⟨s1,s2,s3⟩:=J g (B _ _ _ _ R);refine(Xz M.tab hf hc a1 a3).mono λe W' h=>?_;obtain⟨rfl,h1,K,h3,h4⟩:=h;exact⟨_,rfl,aay M.aN M.auH (λt X=>(Y t X).2) V hv Z N s1 s2 s3 h1 K h3 h4⟩
end Ax
namespace Ax
open Go
def B5(S:Nat->Option aL)(P:Program):Nat->List (Option aL)->Bool
 |_,[]=>true|k,none::l=>B5 S P (k+1) l|k,some g::l=>Vf S P g&&(decide (100000<=k)||g.Sc==k)&&B5 S P (k+1) l
theorem zk{S:Nat->Option aL}{P:Program}:∀{l:List (Option aL)}{k:Nat},B5 S P k l=true->∀(i:Nat) g,l[i]?=some (some g)->Vf S P g=true/\(k+i<100000->g.Sc=k+i)
 |[],_,_,i,g,h=>by simp at h|none::l,k,h,i,g,j=>by
  cases i with
  |zero=>simp at j|succ i=>
   have:=zk (l:=l) (k:=k+1) h i g (by simpa using j);rw[show k+1+i=k+(i+1) by omega]at this;exact this
 |some s::l,k,h,i,g,j=>by
  simp only[B5,Ee,aet,aA,cD]at h;obtain⟨⟨p,r⟩,q⟩:=h;cases i with
  |zero=>
   simp at j;subst j;exact⟨p,λt=>by omega⟩
  |succ i=>
   have:=zk (l:=l) (k:=k+1) q i g (by simpa using j);rw[show k+1+i=k+(i+1) by omega]at this;exact this
theorem afu{tbl MN:List (Option aL)}{P:Program}(p:B5 (ZC tbl MN) P 0 tbl=true)(q:B5 (ZC tbl MN) P 100000 MN=true):Qp (ZC tbl MN) P:=by
 intro f l g;unfold ZC at g;split at g;cases j:tbl[f]? with
 |none=>rw[j]at g;cases g|some x=>
  rw[j]at g;simp only[ahB]at g;subst g;have:=zk p f l j;exact⟨this.1,λh=>by have:=this.2 (by omega);omega⟩
 rename_i F;cases j:MN[f-100000]? with
 |none=>rw[j]at g;cases g|some x=>
  rw[j]at g;simp only[ahB]at g;subst g;have:=zk q (f-100000) l j;exact⟨this.1,λh=>au h F⟩
end Ax
