/- Part of a proof. -/
import Derived.Test.YtachcambnjecnaaGreatA4
import Derived.Scope
import Derived.ChangeStays
import Derived.ChangeSame
import Derived.ChangeOld
import Derived.ChangeArms
import Derived.JoinedOf
import Derived.RowKit3
import Derived.ReadAgain
import Derived.Handed

namespace Ax
open Go
variable {S:Nat->Option aH}{P:Program}{O:lE}{wl af n:Nat}
variable {dJ:Array Oper}{m:List aK}{cn:List (Nat×Nat)}{T:Nat->St}{xp:Option (Nat×Nat×aj)}
structure Spc (S:Nat->Option aH)(O:lE)(wl af:Nat)(m:List aK)(cn:List (Nat×Nat))(T:Nat->St)(p q:Nat)(X:aj):Prop where
 lt:p<q
 ql:q<m.length
 mem:(100000+p,q)∈cn
 wp:∀a,m[p]?=some a->a.op.pZ S=true/\a.guard=none
 wq:∀a,m[q]?=some a->a.op.pZ S=true/\a.guard=none
 gap:∀(j:Nat) o,p<j->j<q->m[j]?=some o->o.op.pZ S=false
 un:∀i j,i<100000->(100000+i,j)∈cn->i=p/\j=q
 cl:∀k w,(k,w)∈cn->k<100000->w=p\/w=q->(100000*(k+2)+p,q)∈cn
 x1:∀a,m[q]?=some a->∀e bx gD,tV O wl af a.op (a.args.map (Kz (T q).env)) (T q).st bx=some (e,(T (q+1)).st,gD)->tV O wl af a.op (a.args.map (Kz (T q).env)) (T p).st bx=some (e,X,gD)
 x2:∀a,m[p]?=some a->∀e bx gD,tV O wl af a.op (a.args.map (Kz (T p).env)) (T p).st bx=some (e,(T (p+1)).st,gD)->tV O wl af a.op (a.args.map (Kz (T p).env)) X bx=some (e,(T (q+1)).st,gD)
 rd:∀k,(100000*(k+2)+p,q)∈cn->∀o,m[k]?=some o->cW O wl af o (T k) (T (k+1)) X=true
structure Kt (S:Nat->Option aH)(P:Program)(O:lE)(wl af n:Nat)(dJ:Array Oper)(m:List aK)(cn:List (Nat×Nat))(T:Nat->St)(xp:Option (Nat×Nat×aj)):Prop where
 dr:Xf S P dJ n m cn
 tx:Text S O wl af m T
 pr:∀q w,q<100000->(q,w)∈cn->∀o,m[q]?=some o->cW O wl af o (T q) (T (q+1)) (T w).st=true/\cW O wl af o (T q) (T (q+1)) (T (w+1)).st=true
 sn:xp=none->∀i j,i<100000->(100000+i,j) ∉ cn
 sp:∀p q X,xp=some (p,q,X)->Spc S O wl af m cn T p q X
 bo:∀(i:Nat) so j,m[i]?=some so->so.op.bg=some j->mc j (T 0).env=true
 pu:BH S O
theorem CH{i j:Nat}{a b:aK}(h:lu S cn i j a b=true):(∀t,t∈rB a->t ∉ yO b/\t ∉ rB b)/\(∀t,t∈rB b->t ∉ yO a):=by
 simp only[lu,Bool.and_eq_true,List.all_eq_true,Bool.not_eq_true',List.contains_eq_mem,decide_eq_false_iff_not]at h;exact⟨h.1.1.1.1.1.1,h.1.1.1.1.1.2⟩
theorem Hs{i j:Nat}{a b:aK}(h:lu S cn i j a b=true):(∀x,a.op.bW=some x->b.op.bA≠some x)/\(∀x,b.op.bW=some x->a.op.bA≠some x):=by
 simp only[lu,Bool.and_eq_true]at h;obtain⟨⟨⟨⟨⟨_,h1⟩,h2⟩,_⟩,_⟩,_⟩:=h;refine⟨λx hx=>?_,λx hx=>?_⟩;rw[hx]at h1;simpa using h1;rw[hx]at h2;simpa using h2
theorem zF{i j:Nat}{a b:aK}(h:lu S cn i j a b=true):(a.op.pZ S=true/\b.op.pZ S=true->(100000+i,j)∈cn)/\(a.op.KY=true\/b.op.pZ S=false\/a.op.pZ S=true\/(i,j)∈cn)/\(b.op.KY=true\/a.op.pZ S=false\/b.op.pZ S=true\/(j,i)∈cn):=by
 simp only[lu,Bool.and_eq_true,Bool.or_eq_true,Bool.not_eq_true',Bool.and_eq_false_iff,List.contains_eq_mem,decide_eq_true_eq]at h;obtain⟨⟨⟨_,h3⟩,h4⟩,h5⟩:=h;refine⟨λ⟨x,y⟩=>?_,by rcases h4 with ((h|h)|h)|h<;>simp[h],by rcases h5 with ((h|h)|h)|h<;>simp[h]⟩;rcases h3 with (h|h)|h;rw[x]at h;cases h;rw[y]at h;cases h;exact h
theorem Xh{op:eE}{x:Nat}(h:op.bW=some x):op.bA=some x:=by
 cases op<;>simp[eE.bW]at h<;>simp[eE.bA,h]
structure E7 (dJ:Array Oper)(m:List aK)(D:Nat->Bool)(k:Nat)(o:Oper)(so:aK):Prop where
 down:Qy dJ D
 ho:dJ[k]?=some o
 hs:m[k]?=some so
 pre:∀p∈oK o,D p=true
 new:D k=false
theorem E7.lu(hR:Kt S P O wl af n dJ m cn T xp){D:Nat->Bool}{k:Nat}{o:Oper}{so:aK}(h:E7 dJ m D k o so){j:Nat}{b:aK}(hj:m[j]?=some b)(hd:D j≠decide (j<k)) :
  (j<k/\D j=false/\lu S cn j k b so=true)\/(k<j/\D j=true/\lu S cn k j so b=true):=by
 rcases Nat.lt_trichotomy j k with h1|h1|h1;have:D j=false:=by rw[decide_eq_true h1]at hd;simpa using hd
 exact .inl ⟨h1,this,hR.dr.apA D h.down k o h.ho h.pre j b so h1 this hj h.hs⟩;subst h1;exact absurd (h.new.trans (by simp)) hd;have:D j=true:=by rw[decide_eq_false (by omega)]at hd;simpa using hd
 exact .inr ⟨h1,this,hR.dr.apB D h.down k j so b h1 h.new this h.hs hj⟩
section
variable {D:Nat->Bool}{k:Nat}{o:Oper}{so:aK}
theorem E7.lt(h:E7 dJ m D k o so):k<m.length:=(List.getElem?_eq_some_iff.1 h.hs).1
theorem E7.UG(hR:Kt S P O wl af n dJ m cn T xp)(h:E7 dJ m D k o so){t:Nat}(ht:t∈rB so\/t∈yO so):vT m T D t=dj (T k).env t:=by
 rw[<-QB hR.tx (Nat.le_of_lt h.lt)];refine nA λj hj hd=>?_;have hb:m[j]?=some m[j]:=List.getElem?_eq_getElem hj;simp only[KZ,hb];rw[if_neg];intro Ol;rcases h.lu hR hb hd with⟨_,_,ha⟩|⟨_,_,ha⟩;have:=(CH ha).1 t Ol;rcases ht with ht|ht;exact this.2 ht;exact this.1 ht;rcases ht with ht|ht;exact((CH ha).1 t ht).2 Ol;exact(CH ha).2 t Ol ht
theorem E7.box(hR:Kt S P O wl af n dJ m cn T xp)(h:E7 dJ m D k o so){b:Nat}(hb:so.op.bA=some b):vB m T D b=(T k).bx[b]?:=by
 rw[<-QC hR.tx (Nat.le_of_lt h.lt)];refine nA λj hj hd=>?_;have hm:m[j]?=some m[j]:=List.getElem?_eq_getElem hj;simp only[K0,hm];rw[if_neg];intro hw;rcases h.lu hR hm hd with⟨_,_,ha⟩|⟨_,_,ha⟩;exact(Hs ha).1 b hw hb;exact(Hs ha).2 b hw hb
def vX(S:Nat->Option aH)(m:List aK)(T:Nat->St)(xp:Option (Nat×Nat×aj))(D:Nat->Bool):aj:=match xp with
 |some (p,q,X)=>if D q && !D p then X else vS S m T D
 |none=>vS S m T D
theorem rC{D:Nat->Bool}(h:∀p q X,xp=some (p,q,X)->D q=true->D p=true):vX S m T xp D=vS S m T D:=by
 unfold vX;cases xp with
 |none=>rfl|some x=>
  obtain⟨p,q,X⟩:=x;simp only;rw[if_neg];intro hc;simp only[Bool.and_eq_true,Bool.not_eq_true']at hc;rw[h p q X rfl hc.1]at hc;cases hc.2
theorem DI{D:Nat->Bool}{p q:Nat}{X:aj}(hx:xp=some (p,q,X))(h1:D q=true)(h2:D p=false):vX S m T xp D=X:=by
 unfold vX;rw[hx];simp[h1,h2]
theorem Kt.two(hR:Kt S P O wl af n dJ m cn T xp){i j:Nat}{a b:aK}(hi:m[i]?=some a)(h:lu S cn i j a b=true)(ha:a.op.pZ S=true)(hb:b.op.pZ S=true):∃X,xp=some (i,j,X):=by
 have hm:=(zF h).1 ⟨ha,hb⟩;have rW:i<100000:=Nat.lt_trans (List.getElem?_eq_some_iff.1 hi).1 hR.dr.Gb;cases hx:xp with
 |none=>exact absurd hm (hR.sn hx i j rW)|some x=>
  obtain⟨p,q,X⟩:=x;obtain⟨rfl,rfl⟩:=(hR.sp p q X hx).un i j rW hm;exact⟨X,rfl⟩
theorem E7.QE(hR:Kt S P O wl af n dJ m cn T xp)(h:E7 dJ m D k o so)(hw:so.op.pZ S=true){j:Nat}{b:aK}(hj:m[j]?=some b)(hb:b.op.pZ S=true)(hd:D j≠decide (j<k)) :
  (j<k/\D j=false/\∃X,xp=some (j,k,X))\/(k<j/\D j=true/\∃X,xp=some (k,j,X)):=by
 rcases h.lu hR hj hd with⟨h1,h2,h3⟩|⟨h1,h2,h3⟩;exact .inl ⟨h1,h2,hR.two hj h3 hb hw⟩;exact .inr ⟨h1,h2,hR.two h.hs h3 hw hb⟩
theorem Kt.at(hR:Kt S P O wl af n dJ m cn T xp){D:Nat->Bool}{t:Nat}(ht:t<=m.length)(h:∀(j:Nat) b,m[j]?=some b->b.op.pZ S=true->D j=decide (j<t)):vS S m T D=(T t).st:=by
 rw[<-QD hR.tx ht];refine nA λj hj hd=>?_;have hm:m[j]?=some m[j]:=List.getElem?_eq_getElem hj;simp only[K1,hm];rw[if_neg];intro hjw;exact hd (h j _ hm hjw)
def nH(D:Nat->Bool)(k:Nat):Nat->Bool:=λj=>if j=k then true else D j
theorem qw{j:Nat}(h:j≠k):nH D k j=D j:=by simp[nH,h]
theorem zG:nH D k k=true:=by simp[nH]
theorem E7.Xi(hR:Kt S P O wl af n dJ m cn T xp)(h:E7 dJ m D k o so)(hw:so.op.pZ S=true) :
  (vX S m T xp D=(T k).st/\vX S m T xp (nH D k)=(T (k+1)).st)\/
  (∃p X,xp=some (p,k,X)/\vX S m T xp D=(T p).st/\vX S m T xp (nH D k)=X)\/
  (∃q X,xp=some (k,q,X)/\vX S m T xp D=X/\vX S m T xp (nH D k)=(T (q+1)).st):=by
 have hk:=h.lt;have plain:(∀(j:Nat) b,m[j]?=some b->b.op.pZ S=true->D j=decide (j<k))->vS S m T D=(T k).st/\vS S m T (nH D k)=(T (k+1)).st:=λkA=>by
  refine⟨hR.at (Nat.le_of_lt hk) kA,hR.at hk λj b hj hb=>?_⟩;by_cases tX:j=k;subst tX;rw[zG];simp;rw[qw tX,kA j b hj hb];exact decide_eq_decide.2 ⟨λh=>by omega,λh=>by omega⟩
 cases hx:xp with
 |none=>
  refine .inl ?_;have:=plain λj b hj hb=>Classical.byContradiction λhd=>by
   rcases h.QE hR hw hj hb hd with⟨_,_,X,e⟩|⟨_,_,X,e⟩<;>rw[hx]at e<;>cases e
  exact this
 |some x=>
  obtain⟨p,q,X⟩:=x;have sp:=hR.sp p q X hx;have UH:q<m.length:=sp.ql;have Pw:p<m.length:=Nat.lt_trans sp.lt UH;have UE:m[p]?=some m[p]:=List.getElem?_eq_getElem Pw;have hqm:m[q]?=some m[q]:=List.getElem?_eq_getElem UH;have hpw:=(sp.wp _ UE).1;have hqw:=(sp.wq _ hqm).1;have TT:=sp.lt;rw[<-hx];have other:∀(j:Nat) b,m[j]?=some b->b.op.pZ S=true->D j≠decide (j<k)->(j=p/\k=q/\D p=false)\/(k=p/\j=q/\D q=true):=λj b hj hb hd=>by
   rcases h.QE hR hw hj hb hd with⟨_,g,X',e⟩|⟨_,g,X',e⟩;rw[hx]at e;cases e;exact .inl ⟨rfl,rfl,g⟩;rw[hx]at e;cases e;exact .inr ⟨rfl,rfl,g⟩
  by_cases UI:k=q;subst UI;cases hDp:D p with
  |true=>
   refine .inl ?_;have kA:∀(j:Nat) b,m[j]?=some b->b.op.pZ S=true->D j=decide (j<k):=λj b hj hb=>Classical.byContradiction λhd=>by
    rcases other j b hj hb hd with⟨_,_,g⟩|⟨g,_,_⟩;rw[hDp]at g;cases g;omega
   rw[rC λp' q' X' e hq=>?_,rC λp' q' X' e hq=>?_];exact plain kA;rw[hx]at e;cases e;rw[qw (by omega)];exact hDp;rw[hx]at e;cases e;exact hDp
  |false=>
   refine .inr (.inl ⟨p,X,hx,?_,?_⟩);rw[rC λp' q' X' e hq=>by rw[hx]at e;cases e;rw[h.new]at hq;cases hq];refine hR.at (by omega) λj b hj hb=>?_;by_cases hjp:j=p;subst hjp;rw[hDp];simp;by_cases tX:j=k;subst tX;rw[h.new];symm;rw[decide_eq_false_iff_not];omega;by_cases Jf:p<j/\j<k;have:=sp.gap j b Jf.1 Jf.2 hj;rw[this]at hb;cases hb;have:D j=decide (j<k):=Classical.byContradiction λhd=>by
    rcases other j b hj hb hd with⟨g,_,_⟩|⟨g,_,_⟩;exact hjp g;omega
   rw[this];exact decide_eq_decide.2 ⟨λh=>by omega,λh=>by omega⟩;exact DI hx zG (by rw[qw (by omega)];exact hDp)
  by_cases hkp:k=p;subst hkp;cases hDq:D q with
  |false=>
   refine .inl ?_;have kA:∀(j:Nat) b,m[j]?=some b->b.op.pZ S=true->D j=decide (j<k):=λj b hj hb=>Classical.byContradiction λhd=>by
    rcases other j b hj hb hd with⟨_,g,_⟩|⟨_,_,g⟩;exact UI g;rw[hDq]at g;cases g
   rw[rC λp' q' X' e hq=>?_,rC λp' q' X' e hq=>?_];exact plain kA;rw[hx]at e;cases e;exact zG;rw[hx]at e;cases e;rw[hDq]at hq;cases hq
  |true=>
   refine .inr (.inr ⟨q,X,hx,DI hx hDq h.new,?_⟩);rw[rC λp' q' X' e hq=>by rw[hx]at e;cases e;exact zG];refine hR.at sp.ql λj b hj hb=>?_;by_cases tX:j=k;subst tX;rw[zG];symm;rw[decide_eq_true_iff];omega;rw[qw tX];by_cases hjq:j=q;subst hjq;rw[hDq];simp;by_cases Jf:k<j/\j<q;have:=sp.gap j b Jf.1 Jf.2 hj;rw[this]at hb;cases hb;have:D j=decide (j<k):=Classical.byContradiction λhd=>by
    rcases other j b hj hb hd with⟨g,_,_⟩|⟨_,g,_⟩;exact tX g;exact hjq g
   rw[this];exact decide_eq_decide.2 ⟨λh=>by omega,λh=>by omega⟩
  refine .inl ?_;have kA:∀(j:Nat) b,m[j]?=some b->b.op.pZ S=true->D j=decide (j<k):=λj b hj hb=>Classical.byContradiction λhd=>by
   rcases other j b hj hb hd with⟨_,g,_⟩|⟨g,_,_⟩;exact UI g;exact hkp g
  have ac4:D q=true->D p=true:=λhq=>Classical.byContradiction λhp=>by
   have YH:D p=false:=(by simpa using hp);have g1:=kA p _ UE hpw;have g2:=kA q _ hqm hqw;rw[YH]at g1;rw[hq]at g2;have g1:=of_decide_eq_false g1.symm;have g2:=of_decide_eq_true g2.symm;omega
  rw[rC λp' q' X' e hq=>?_,rC λp' q' X' e hq=>?_];exact plain kA;rw[hx]at e;cases e;rw[qw (λe=>UI e.symm)]at hq;rw[qw (λe=>hkp e.symm)];exact ac4 hq;rw[hx]at e;cases e;exact ac4 hq
theorem E7.still(h:E7 dJ m D k o so)(hR:Kt S P O wl af n dJ m cn T xp)(hw:so.op.pZ S=false):vX S m T xp (nH D k)=vX S m T xp D:=by
 have e:vS S m T (nH D k)=vS S m T D:=by
  refine nA λj hj hd=>?_;by_cases tX:j=k;subst tX;simp[K1,h.hs,hw];rw[qw tX]at hd;exact absurd rfl hd
 cases hx:xp with
 |none=>simp only[vX];exact e|some x=>
  obtain⟨p,q,X⟩:=x;have sp:=hR.sp p q X hx;have h1:p≠k:=λhe=>by subst he;have:=(sp.wp _ h.hs).1;rw[hw]at this;cases this
  have h2:q≠k:=λhe=>by subst he;have:=(sp.wq _ h.hs).1;rw[hw]at this;cases this
  simp only[vX,qw h1,qw h2,e]
theorem E7.ahh(hR:Kt S P O wl af n dJ m cn T xp)(h:E7 dJ m D k o so)(hn:so.op.KY=false)(hw:so.op.pZ S=false) :
  vX S m T xp D=(T k).st\/cW O wl af so (T k) (T (k+1)) (vX S m T xp D)=true:=by
 have nk:k<100000:=Nat.lt_trans h.lt hR.dr.Gb;by_cases TW:∃p q X,xp=some (p,q,X)/\D q=true/\D p=false;obtain⟨p,q,X,hx,hq,hp⟩:=TW;right;have sp:=hR.sp p q X hx;rw[DI hx hq hp];refine sp.rd k ?_ so h.hs;have UH:q<m.length:=sp.ql;have Pw:p<m.length:=Nat.lt_trans sp.lt UH;have UE:m[p]?=some m[p]:=List.getElem?_eq_getElem Pw;have hqm:m[q]?=some m[q]:=List.getElem?_eq_getElem UH;rcases Nat.lt_trichotomy k q with UI|UI|UI;have ha:=hR.dr.apB D h.down k q so _ UI h.new hq h.hs hqm;rcases (zF ha).2.1 with e|e|e|e;rw[hn]at e;cases e;rw[(sp.wq _ hqm).1]at e;cases e;rw[hw]at e;cases e;exact sp.cl k q e nk (.inr rfl);subst UI;rw[h.new]at hq;cases hq;have ha:=hR.dr.apA D h.down k o h.ho h.pre p _ so (by have:=sp.lt;omega) hp UE h.hs;rcases (zF ha).2.2 with e|e|e|e;rw[hn]at e;cases e;rw[(sp.wp _ UE).1]at e;cases e;rw[hw]at e;cases e;exact sp.cl k p e nk (.inl rfl);rw[rC λp q X hx hq=>Classical.byContradiction λhp=>TW ⟨p,q,X,hx,hq,by simpa using hp⟩];obtain⟨p,h1,h2,h3,h4⟩:=MN (S:=S) (m:=m) (T:=T) D m.length (Nat.le_refl _);have hv:vS S m T D=(T p).st:=h2;have hk:=h.lt;have pair:∀(w:Nat) b,m[w]?=some b->b.op.pZ S=true->D w≠decide (w<k)->(k,w)∈cn:=by
  intro w b hb hbw hd;rcases h.lu hR hb hd with⟨_,_,ha⟩|⟨_,_,ha⟩;rcases (zF ha).2.2 with e|e|e|e;rw[hn]at e;cases e;rw[hbw]at e;cases e;rw[hw]at e;cases e;exact e;rcases (zF ha).2.1 with e|e|e|e;rw[hn]at e;cases e;rw[hbw]at e;cases e;rw[hw]at e;cases e;exact e
 by_cases hpk:p<=k;obtain⟨d,hd⟩:∃d,k=p+d:=⟨k-p,by omega⟩;rcases MO S m p d (by omega) with hg|⟨w,b,g1,g2,g3,g4,g5⟩;left;rw[hv,hd];exact(zD hR.tx d (by omega) hg).symm;right;have hDw:=h4 w b g1 (by have:=(List.getElem?_eq_some_iff.1 g3).1;omega) g3 g4;have hp:=pair w b g3 g4 (by rw[hDw,decide_eq_true (by omega)];simp);have e:(T p).st=(T w).st:=by
  obtain⟨d',DJ⟩:∃d,w=p+d:=⟨w-p,by omega⟩;rw[DJ];exact(zD hR.tx d' (by have:=(List.getElem?_eq_some_iff.1 g3).1;omega) λj so a1 a2=>g5 j so a1 (by omega)).symm
 rw[hv,e];exact(hR.pr k w nk hp so h.hs).1;right;rcases h3 with h3|⟨q,b,rfl,g1,g2,g3⟩;omega;have hp:=pair q b g1 g3 (by
  by_cases hq:q=k;subst hq;rw[h.new]at g2;cases g2;rw[g2,decide_eq_false (by omega)];simp)
 rw[hv];exact(hR.pr k q nk hp so h.hs).2
theorem E7.Xj(hR:Kt S P O wl af n dJ m cn T xp)(h:E7 dJ m D k o so)(t:Nat):vT m T (nH D k) t=if t∈rB so then dj (T (k+1)).env t else vT m T D t:=by
 have:=Jb (init:=dj (T 0).env) (ze:=KZ m T) (D:=D) (D':=nH D k) (x:=t) (j:=k) h.lt h.new (λj=>rfl) λj h1 h2 h3 h4=>by
  have hb:m[j]?=some m[j]:=List.getElem?_eq_getElem h2;have ha:=hR.dr.apB D h.down k j so _ h1 h.new h3 h.hs hb;simp only[KZ,h.hs]at h4;simp only[KZ,hb];rw[if_neg];intro Ol;by_cases ht:t∈rB so;exact((CH ha).1 t ht).2 Ol;rw[if_neg ht]at h4;exact h4 rfl
 refine this.trans ?_;simp only[KZ,h.hs];split
 rfl
 rfl
theorem E7.Xk(hR:Kt S P O wl af n dJ m cn T xp)(h:E7 dJ m D k o so)(b:Nat):vB m T (nH D k) b=if so.op.bW=some b then (T (k+1)).bx[b]? else vB m T D b:=by
 have:=Jb (init:=λb=>(T 0).bx[b]?) (ze:=K0 m T) (D:=D) (D':=nH D k) (x:=b) (j:=k) h.lt h.new (λj=>rfl) λj h1 h2 h3 h4=>by
  have hb:m[j]?=some m[j]:=List.getElem?_eq_getElem h2;have ha:=hR.dr.apB D h.down k j so _ h1 h.new h3 h.hs hb;simp only[K0,h.hs]at h4;simp only[K0,hb];rw[if_neg];intro Ol;by_cases ht:so.op.bW=some b;exact(Hs ha).1 b ht (Xh Ol);rw[if_neg ht]at h4;exact h4 rfl
 refine this.trans ?_;simp only[K0,h.hs];split
 rfl
 rfl
end
end Ax
namespace Ax
open Go
variable {S:Nat->Option aH}{P:Program}{O:lE}{wl af n:Nat}
variable {dJ:Array Oper}{m:List aK}{cn:List (Nat×Nat)}{T:Nat->St}{xp:Option (Nat×Nat×aj)}
variable {w0 w w':World}{G0 G G':bp}{β gZ:List nh}{A0:Nat->Nat}{a:Act}{bx:bF}
structure At (S:Nat->Option aH)(n:Nat)(m:List aK)(T:Nat->St)(xp:Option (Nat×Nat×aj))(w0:World)(G0:bp)(A0:Nat->Nat)(D:Nat->Bool)(w:World)(G:bp)(β:List nh)(a:Act)(bx:bF):Prop where
 fs:FS w G β a (vT m T D) bx (vX S m T xp D) n
 mv:Mv w0 G0 A0 w G (uV β a (vT m T D) bx (vX S m T xp D) G n)
 bb:∀b,bx[b]?=vB m T D b
 bl:bx.length=(T 0).bx.length
 fp:∀(i:Nat) so j,m[i]?=some so->so.op.bg=some j->D i=false->∀t,(vT m T D t).pH j=true
theorem Text.UF(h:Text S O wl af m T):∀{j:Nat},j<=m.length->(T j).bx.length=(T 0).bx.length
 |0,_=>rfl|j+1,hj=>by
  have hs:m[j]?=some m[j]:=List.getElem?_eq_getElem (by omega);rw[(h.one j _ hs).UF,h.UF (by omega)]
theorem K2{e f:fq}(h:e.fG f=true):e=f:=by
 cases e<;>cases f<;>simp[fq.fG]at h
 rfl
 rw[GW _ _ h];obtain⟨rfl,rfl⟩:=h;rfl
theorem K3{op:eE}(h:op.KY=false):op.bA=none:=by
 cases op<;>simp[eE.KY,eE.bA]at h ⊢
theorem Om{η:Nat->fq}{j:Nat}(h:∀t,(η t).pH j=true)(s:Src):(AK η s).pH j=true:=by
 cases s with
 |const a=>rfl|tmp t mv=>
  cases mv with
  |true=>exact h t|false=>
   have:=h t;simp only[AK];cases he:η t with
   |none=>rfl|val v=>rfl|fp i k=>rw[he]at this;exact this
theorem AW{η Px:Nat->fq}:∀{l:List Src},(∀t∈UD l,η t=Px t)->l.map (AK η)=l.map (AK Px)
 |[],_=>rfl|.tmp t mv::l,h=>by
  simp only[List.map_cons];rw[AW (l:=l) λu hu=>h u (List.mem_cons_of_mem _ hu)];have:=h t List.mem_cons_self;cases mv<;>simp only[AK,this]
 |.const a::l,h=>by
  simp only[List.map_cons];rw[AW (l:=l) λu hu=>h u hu]
  rfl
theorem zH{Q:Exit->Act->World->Prop}(hR:Kt S P O wl af n dJ m cn T xp)(hO:jX S P O){D:Nat->Bool}{k:Nat}{o:Oper}{so:aK}(h:E7 dJ m D k o so)(hA:At S n m T xp w0 G0 A0 D w G β a bx){K:Act->World->Prop}
  (hK:∀w' G' gZ a' gD,At S n m T xp w0 G0 A0 (nH D k) w' G' gZ a' gD->K a' w'):wpOp P dJ Q k K a w:=by
 have one:=hR.tx.one k so h.hs;have hwe:ur (vT m T D) so.guard=o8 (T k).env so.guard:=by
  rw[F7];cases hg:so.guard with
  |none=>rfl|some x=>
   obtain⟨t,b⟩:=x;have:=h.UG hR (t:=t) (.inr (by simp[yO,hg]));simp only[ur,this]
 obtain⟨b,hb⟩:∃b,o8 (T k).env so.guard=some b:=by
  cases hw:o8 (T k).env so.guard with
  |none=>exact absurd hw one.wan|some b=>exact⟨b,rfl⟩
 refine MJ (wl:=wl) (af:=af) h.ho (hR.dr.get k o so h.ho h.hs) hO hA.fs hA.mv.one (hwe.trans hb) (λhbf a' f1 f2=>?_) (λhbt=>?_);subst hbf;obtain⟨n1,n2,n3⟩:=one.non hb;have e1:kD (vT m T D) so.dst (.val .undef)=vT m T (nH D k):=by
  funext t;rw[h.Xj hR];split;rename_i ht;rw[n1];simp only[kD];split
  rfl
  exact h.UG hR (.inl ht);rename_i ht;simp only[rB,List.mem_append,Option.mem_toList,not_or]at ht;simp only[kD];rw[if_neg ht.1]
 have e2:vX S m T xp (nH D k)=vX S m T xp D:=by
  by_cases hw:so.op.pZ S=true;rcases h.Xi hR hw with⟨e1,e2⟩|⟨p,X,hx,_⟩|⟨q,X,hx,_⟩;rw[e1,e2,n3];have:=(hR.sp p k X hx).wq so h.hs;rw[this.2]at hb;cases hb;have:=(hR.sp k q X hx).wp so h.hs;rw[this.2]at hb;cases hb;exact h.still hR (by simpa using hw)
 rw[e1,<-e2]at f1;rw[e1,<-e2]at f2;refine hK w G β a' bx ⟨f1,?_,λx=>?_,hA.bl,λi si j hi hj hD t=>?_⟩;rw[e2]at f2 ⊢;exact hA.mv.trans f2;rw[h.Xk hR,hA.bb];split;rename_i hx;rw[n2];exact h.box hR (Xh hx)
 rfl
 have jn:i≠k/\D i=false:=by
  unfold nH at hD;by_cases QF:i=k;rw[if_pos QF]at hD;cases hD;rw[if_neg QF]at hD;exact⟨QF,hD⟩
 rw[<-e1];simp only[kD];split
 rfl
 exact hA.fp i si j hi hj jn.2 t;subst hbt;obtain⟨e,ha,y2⟩:=one.yes hb;have yc:so.args.map (Kz (T k).env)=so.args.map (AK (vT m T D)):=by
  rw[List.map_congr_left (g:=AK (dj (T k).env)) λx _=>CF _ x];exact(AW λt ht=>h.UG hR (.inr (by simp[yO,ht]))).symm
 rw[yc]at ha;have QG:tV O wl af so.op (so.args.map (AK (vT m T D))) (vX S m T xp D) (T k).bx=some (e,vX S m T xp (nH D k),(T (k+1)).bx):=by
  by_cases hw:so.op.pZ S=true;rcases h.Xi hR hw with⟨e1,e2⟩|⟨p,X,hx,e1,e2⟩|⟨q,X,hx,e1,e2⟩;rw[e1,e2];exact ha;rw[e1,e2,<-yc];rw[<-yc]at ha;exact(hR.sp p k X hx).x1 so h.hs _ _ _ ha;rw[e1,e2,<-yc];rw[<-yc]at ha;exact(hR.sp k q X hx).x2 so h.hs _ _ _ ha;have Gd:so.op.pZ S=false:=by simpa using hw
  rw[h.still hR Gd];have iu:=one.YG Gd;by_cases hn:so.op.KY=true;exact UB hn _ ha;have Od:so.op.KY=false:=by simpa using hn
  rcases h.ahh hR Od Gd with hs|hs;rw[hs];rw[iu]at ha;exact ha;unfold cW at hs;rw[hb]at hs;simp only at hs;rw[yc]at hs;split at hs;rename_i e' bV gD K4;have ahj:=MK hR.pu Gd K4;subst ahj;have Qs:=K3 Od;obtain⟨rfl,_⟩:=Hr Qs (T k).bx K4;obtain⟨hbx,_⟩:=Hr Qs (T k).bx ha;rw[hbx];split at hs;rename_i d hd;have:=K2 hs;rw[y2]at this;simp only[kD,hd,if_true]at this;subst this;exact K4;cases hs;cases hs
 obtain⟨yN,b1,b2,b3,b4,b5,_⟩:=Je (yN:=bx) (by rw[hA.bl,hR.tx.UF (Nat.le_of_lt h.lt)]) (λb hb=>by rw[hA.bb];exact h.box hR hb) QG;refine⟨e,vX S m T xp (nH D k),yN,b1,λj hj t _ _=>hA.fp k so j h.hs hj h.new t,λw' G' gZ a' f1 f2=>?_⟩;have e1:kD (jL (vT m T D) (qv so.args)) so.dst e=vT m T (nH D k):=by
  funext t;rw[h.Xj hR];split;rename_i ht;rw[y2];simp only[kD,jL];split
  rfl
  split
  rfl
  exact h.UG hR (.inl ht);rename_i ht;simp only[rB,List.mem_append,Option.mem_toList,not_or]at ht;simp only[kD,jL];rw[if_neg ht.1,if_neg ht.2]
 rw[e1]at f1 f2;refine hK w' G' gZ a' yN ⟨f1,hA.mv.trans f2,λx=>?_,b3.trans hA.bl,λi si j hi hj hD t=>?_⟩;rw[h.Xk hR];split;rename_i hx;exact b4 x hx;rename_i hx;rw[b5 x hx,hA.bb];have jn:i≠k/\D i=false:=by
  unfold nH at hD;by_cases QF:i=k;rw[if_pos QF]at hD;cases hD;rw[if_neg QF]at hD;exact⟨QF,hD⟩
 rw[<-e1];simp only[kD,jL];split;refine YE b1 (λx hx=>?_) λhn=>?_;obtain⟨s,_,rfl⟩:=List.mem_map.1 hx;exact Om (λt=>hA.fp i si j hi hj jn.2 t) s;rcases Nat.lt_or_gt_of_ne jn.1 with hl|hl;exact hR.dr.Xg i k si so j hl hi h.hs hj hn;exact hR.dr.Xg k i so si j hl h.hs hi hn hj;split
 rfl
 exact hA.fp i si j hi hj jn.2 t
def jg(fK:Array Bool):Nat->Bool:=λk=>fK.getD k false
theorem QH{Q:Exit->Act->World->Prop}(hR:Kt S P O wl af n dJ m cn T xp)(hO:jX S P O)
  (hQ:∀w' G' gZ a' gD D,(∀k,k<m.length->D k=true)->At S n m T xp w0 G0 A0 D w' G' gZ a' gD->Q .normal a' w') :
  ∀(fuel:Nat) (fK:Array Bool) (a:Act) (w:World) (G:bp) (β:List nh) (bx:bF),fK.size=dJ.size->Qy dJ (jg fK)->gY (λk=>if jg fK k then 0 else 1) dJ.size<=fuel->
   At S n m T xp w0 G0 A0 (jg fK) w G β a bx->wpAny P .any dJ Q fuel fK a w:=by
 have Fs:∀(fK:Array Bool) (a:Act) (w:World) (G:bp) (β:List nh) (bx:bF),fK.size=dJ.size->At S n m T xp w0 G0 A0 (jg fK) w G β a bx->Region.ready .any dJ fK=[]->Q .normal a w:=by
  intro fK a w G β bx dH hA hr;refine hQ w G β a bx _ (λk=>?_) hA;induction k using Nat.strongRecOn with
  |_ k ih=>
   intro hk;cases hd:jg fK k with
   |true=>rfl|false=>
    exfalso;rw[hR.dr.len]at hk;have ho:dJ[k]?=some dJ[k]:=(by simp[hk]);have:k∈Region.ready .any dJ fK:=by
     rw[mem_ready];refine⟨?_,dJ[k],ho,λe he hb=>?_⟩;have KN:k<fK.size:=(by omega);simp only[jg,Array.getD,KN,dif_pos]at hd ⊢;exact hd;have hp:e.on∈oK dJ[k]:=by
      unfold oK;exact List.mem_map.2 ⟨e,List.mem_filter.2 ⟨by simpa using he,hb⟩,rfl⟩
     have aX:=hR.dr.lt k dJ[k] ho e.on hp;exact ih e.on aX (by rw[hR.dr.len];omega)
    rw[hr]at this;cases this
 intro fuel;induction fuel with
 |zero=>
  intro fK a w G β bx dH hD hf hA;have kA:∀k,k<dJ.size->jg fK k=true:=λk hk=>by
   have:=vZ (f:=λk=>if jg fK k then 0 else 1) hk;cases hd:jg fK k with
   |true=>rfl|false=>simp only[hd,Bool.false_eq_true,if_false]at this;omega
  have hr:Region.ready .any dJ fK=[]:=by
   rw[List.eq_nil_iff_forall_not_mem];intro j hj;rw[mem_ready]at hj;obtain⟨h1,o,ho,_⟩:=hj;have hk:=(Array.getElem?_eq_some_iff.1 ho).1;have h2:=kA j hk;have KN:j<fK.size:=(by omega);simp only[jg,Array.getD,KN,dif_pos]at h1 h2;rw[h1]at h2;cases h2
  exact⟨hr,Fs fK a w G β bx dH hA hr⟩
 |succ fuel ih=>
  intro fK a w G β bx dH hD hf hA;refine⟨Fs fK a w G β bx dH hA,λi hi=>?_⟩;rw[mem_ready]at hi;obtain⟨h1,o,ho,h3⟩:=hi;have hk:=(Array.getElem?_eq_some_iff.1 ho).1;have hkm:i<m.length:=by rw[hR.dr.len];exact hk
  have hs:m[i]?=some m[i]:=List.getElem?_eq_getElem hkm;have KN:i<fK.size:=by omega
  have vk:jg fK i=false:=by
   simp only[jg,Array.getD,KN,dif_pos]at h1 ⊢;exact h1
  have ac6:∀p∈oK o,jg fK p=true:=by
   intro p hp;unfold oK at hp;obtain⟨e,he,rfl⟩:=List.mem_map.1 hp;obtain⟨he1,he2⟩:=List.mem_filter.1 he;exact h3 e (by simpa using he1) he2
  have ahk:E7 dJ m (jg fK) i o m[i]:=⟨hD,ho,hs,ac6,vk⟩;have MP:jg (fK.setIfInBounds i true)=nH (jg fK) i:=by
   funext j;by_cases hj:j=i;subst hj;simp[jg,nH,KN];simp[jg,nH,hj,show ¬i=j from λe=>hj e.symm]
  refine zH hR hO ahk hA λw' G' gZ a' gD MH=>?_;rw[<-MP]at MH;refine ih _ a' w' G' gZ gD (by simp[dH]) ?_ ?_ MH;intro j oj Pz hj p hp;rw[MP]at hj ⊢;unfold nH at hj ⊢;by_cases hji:j=i;subst hji;rw[ho]at Pz;cases Pz;split
  rfl
  exact ac6 p hp;rw[if_neg hji]at hj;split
  rfl
  exact hD j oj Pz hj p hp;have h5:=tD (f:=λk=>if jg (fK.setIfInBounds i true) k then 0 else 1) (g:=λk=>if jg fK k then 0 else 1) (d:=i) hk λt ht=>by
   rw[MP];simp[nH,ht]
  have e1:jg (fK.setIfInBounds i true) i=true:=by rw[MP];simp[nH]
  simp only[e1,vk,if_true,Bool.false_eq_true,if_false]at h5;omega
theorem K5{wl af:Nat}{st bV:aj}{i v x y:Nat}{cs:List AV}(h:cu wl af st (.ptr i v x y) cs=some bV):∃o,bV=st.set i o/\∀(kP:aj),kP[i]?=st[i]?->cu wl af kP (.ptr i v x y) cs=some (kP.set i o):=by
 unfold cu at h;simp only at h;split at h;rename_i v' sz rows iu;split at h;rename_i hc;split at h;rename_i r hr;split at h;rename_i hl;simp only[Option.some.injEq]at h;refine⟨_,h.symm,λkP h2=>?_⟩;unfold cu;simp only[h2,iu,if_pos hc,hr,if_pos hl];cases h;cases h;cases h;cases h
theorem Ge{O:lE}{wl af:Nat}{n:Nat}{st bV:aj}{bx gD:bF}{i v x y:Nat}{u:AV}{e:fq}(h:tV O wl af (.store n) [.val (.ptr i v x y),.val u] st bx=some (e,bV,gD)) :
  ∃o,bV=st.set i o/\gD=bx/\∀(kP:aj) (yN:bF),kP[i]?=st[i]?->tV O wl af (.store n) [.val (.ptr i v x y),.val u] kP yN=some (e,kP.set i o,yN):=by
 simp only[tV,aW]at h;split at h;rename_i hc;split at h;rename_i s1 hw;cases h;obtain⟨o,h1,h2⟩:=K5 hw;refine⟨o,h1,rfl,λkP yN he=>?_⟩;simp only[tV,aW,if_pos hc,h2 kP he];cases h;cases h
theorem Jg{id:Nat}{Q:Exit->Act->World->Prop}{s e:St}(hm:MM S P dJ n m cn=true)(hO:jX S P O)(hP:BH S O)(_hs:FT w G β a s n)(h1:∀b,hJ β a s G n b<=1)(he:iB O wl af m cn s=some e)
  (YI:∀d,FT { w with drawn:=d } G β a s n/\∀w' G' A',Mv { w with drawn:=d } G (hJ β a s G n) w' G' A'->Mv w G (hJ β a s G n) w' G' A')
  (hQ:∀w' G' gZ a',FT w' G' gZ a' e n->Mv w G (hJ β a s G n) w' G' (hJ gZ a' e G' n)->Q .normal a' w'):(Code.region id dJ true).wp P Q a w:=by
 have hd:=Qz hm;unfold iB at he;split at he;cases he;rename_i e' ga hr;split at he;rename_i hc;cases he;simp only[Bool.and_eq_true,List.all_eq_true]at hc;obtain⟨r1,r2,r3,r4⟩:=BI hr
 let T:Nat->St:=λk=>(ga[k]?).getD s
 have hT:∀(i:Nat) x,ga[i]?=some x->T i=x:=λi x hx=>by simp only[T,hx,Option.getD_some]
 have tx:Text S O wl af m T:=⟨λi so hi=>by
  obtain⟨x,y,a1,a2,a3⟩:=r4 i so hi;rw[hT i x a1,hT (i+1) y a2];exact ahe hP a3⟩
 obtain⟨xp,hsn,nF⟩:∃xp:Option (Nat×Nat×aj),(xp=none->∀i j,i<100000->(100000+i,j) ∉ cn)/\∀p q X,xp=some (p,q,X)->Spc S O wl af m cn T p q X:=by
  by_cases hex:∃p q,p<100000/\(100000+p,q)∈cn;obtain⟨p,q,hp,TT⟩:=hex;obtain⟨t1,⟨a,b,t2,t3,t4,t5,t6,t7⟩,t8,t9,t10⟩:=hd.xt p q hp TT;have UH:q<m.length:=(List.getElem?_eq_some_iff.1 t3).1;have hxs:=hc.1 _ TT;unfold gQ at hxs;simp only[show ¬100000+p<100000 by omega,if_false,show (100000+p) % 100000=p by omega]at hxs;cases hX:Yi wl af m ga p q with
  |none=>rw[hX]at hxs;cases hxs|some X=>
   refine⟨some (p,q,X),⟨λh=>(by cases h),λp' q' X' h=>?_⟩⟩;cases h;have Jf:(T q).st=(T (p+1)).st:=by
    obtain⟨d,DJ⟩:∃d,q=p+1+d:=⟨q-(p+1),by omega⟩;rw[DJ];exact zD tx d (by omega) λj so a1 a2 a3=>t8 j so (by omega) (by omega) a3
   unfold Yi at hX;split at hX;rename_i a' s' b' t' g1 g2 g3 g4;rw[t2]at g1;cases g1;rw[t3]at g3;cases g3;have Cg:=hT p s' g2;have ht':=hT q t' g4;subst Cg ht';split at hX;rename_i ao av bo bv ma i vi xi yi ui mb j vj xj yj uj k1 k2 k3 k4;split at hX;cases hX;rename_i Cf;split at hX;rename_i e0 X0 b0 ac7;cases hX;have ac8:tV O wl af (.store mb) [.val (.ptr j vj xj yj),.val uj] (T p).st []=some (e0,X,b0):=ac7;obtain⟨ob,o1,o2,o3⟩:=Ge ac8;have ahl:=tx.one p a t2;obtain⟨ep,ap,_⟩:=ahl.yes (by rw[t6];rfl);rw[k1,k2]at ap;obtain⟨oa,p1,p2,p3⟩:=Ge ap;have ahm:=tx.one q b t3;obtain⟨eq,aq,_⟩:=ahm.yes (by rw[t7];rfl);rw[k3,k4]at aq;have ac9:(T q).st[j]?=(T p).st[j]?:=(by rw[Jf,p1,List.getElem?_set_ne Cf]);have q1:(T (q+1)).st=(T q).st.set j ob:=by
    have:=o3 (T q).st (T q).bx ac9;rw[this]at aq;simp only[Option.some.injEq,Prod.mk.injEq]at aq;exact aq.2.1.symm
   refine⟨t1,UH,TT,λa' K4=>?_,λa' K4=>?_,t8,t10,t9,λa' K4 e bx gD hh=>?_,λa' K4 e bx gD hh=>?_,λk hk o ho=>?_⟩;rw[t2]at K4;cases K4;exact⟨by rw[k1];rfl,t6⟩;rw[t3]at K4;cases K4;exact⟨by rw[k3];rfl,t7⟩;rw[t3]at K4;cases K4;rw[k3,k4]at hh ⊢;rw[o3 (T q).st bx ac9]at hh;simp only[Option.some.injEq,Prod.mk.injEq]at hh;rw[o3 (T p).st bx rfl,hh.1,hh.2.2,o1];rw[t2]at K4;cases K4;rw[k1,k2]at hh ⊢;rw[p3 (T p).st bx rfl]at hh;simp only[Option.some.injEq,Prod.mk.injEq]at hh;rw[p3 X bx (by rw[o1,List.getElem?_set_ne (λe=>Cf e.symm)]),hh.1,hh.2.2,q1,Jf,p1,o1,List.set_comm _ _ Cf];have:=hc.1 _ hk;unfold gQ at this;simp only[show ¬100000*(k+2)+p<100000 by omega,if_false,show (100000*(k+2)+p) % 100000=p by omega,show ¬100000*(k+2)+p<200000 by omega,show (100000*(k+2)+p) / 100000-2=k by omega]at this;have hX2:Yi wl af m ga p q=some X:=by
    unfold Yi;simp only[t2,t3,g2,g4,k1,k2,k3,k4,if_neg Cf,ac7]
   rw[hX2]at this;simp only at this;split at this;rename_i o' x y g5 g6 g7;rw[ho]at g5;cases g5;rw[hT k x g6,hT (k+1) y g7];exact this;cases this;cases hX;cases hX;cases hX
  exact⟨none,⟨λ_ i j hi Cf=>hex ⟨i,j,hi,Cf⟩,λ_ _ _ h=>(by cases h)⟩⟩
 have hR:Kt S P O wl af n dJ m cn T xp:=by
  refine⟨hd,tx,λq w UH hqw o ho=>?_,hsn,nF,λi so j hi hj=>?_,hP⟩;have:=hc.1 (q,w) hqw;unfold gQ at this;simp only[UH,if_true]at this;split at this;rename_i o' x y x' y' g1 g2 g3 g4 g5;rw[ho]at g1;cases g1;rw[hT q x g2,hT (q+1) y g3,hT w x' g4,hT (w+1) y' g5];simpa only [Bool.and_eq_true] using this;cases this;have:=hc.2 so (dn hi);unfold bG at this;rw[hj]at this;rw[hT 0 s r2];exact this
 have h0:T 0=s:=hT 0 s r2;have QI:jg (Array.replicate dJ.size false)=λ_=>false:=by
  funext k;simp only[jg,Array.getD,Array.size_replicate,Array.getInternal_eq_getElem,Array.getElem_replicate];split<;>rfl
 have QJ:∀{K V:Type} (init:K->V) (ze:Nat->K->Option V) (N:Nat) (x:K),pO init ze (λ_=>false) N x=init x:=by
  intro K V init ze N x;induction N with
  |zero=>rfl|succ N ih=>simp only[pO,ih];rfl
 obtain⟨d1,d2⟩:=YI (w.drawn+1);refine wp_region_any hd.fol (QH (w0:={ w with drawn:=w.drawn+1 }) (G0:=G) (A0:=hJ β a s G n) hR hO (λw' G' gZ a' gD D hD hA=>?_) dJ.size _ a _ G β s.bx (by simp) ?_ ?_ ?_);have kA:∀{K V:Type} (init:K->V) (ze:Nat->K->Option V) (x:K),pO init ze D m.length x=pO init ze (λk=>decide (k<m.length)) m.length x:=λinit ze x=>nA λk hk jn=>by
  rw[hD k hk,decide_eq_true hk]at jn;exact absurd rfl jn
 have hTe:T m.length=e:=hT _ e r3;have e1:vT m T D=dj e.env:=by
  funext t;rw[<-hTe,<-QB tx (Nat.le_refl _)];exact kA _ _ t
 have e2:vX S m T xp D=e.st:=by
  rw[rC λp q X hx _=>hD p (by have:=nF p q X hx;have:=this.lt;have:=(nF p q X hx).ql;omega)];rw[<-hTe,<-QD tx (Nat.le_refl _)];exact kA _ _ ()
 have e3:gD=e.bx:=by
  apply List.ext_getElem?;intro b;rw[hA.bb b,<-hTe,<-QC tx (Nat.le_refl _)];exact kA _ _ b
 have f1:=hA.fs;have f2:=hA.mv;rw[e1,e2,e3]at f1 f2;exact hQ w' G' gZ a' f1 (d2 _ _ _ f2);intro j o _ hj;rw[QI]at hj;cases hj;rw[QI];have:∀N,gY (λ_=>1) N=N:=λN=>by induction N with|zero=>rfl|succ N ih=>simp[gY,ih]
 simp[this];rw[QI];have e1:vT m T (λ_=>false)=dj s.env:=by funext t;rw[<-h0];exact QJ _ _ _ t
 have e2:vX S m T xp (λ_=>false)=s.st:=by rw[rC λp q X _ h=>by cases h];rw[<-h0];exact QJ _ _ _ ()
 refine⟨?_,?_,λb=>?_,by rw[h0],λi so j hi hj _ t=>?_⟩;rw[e1,e2];exact d1;rw[e1,e2];exact Mv.refl h1;rw[<-h0];exact(QJ _ _ _ b).symm;rw[e1,<-h0];exact Ds (hR.bo i so j hi hj) t;cases he
end Ax
namespace Ax
open Go
variable {S:Nat->Option aH}{P:Program}{O:lE}{wl af n:Nat}
variable {w w':World}{G G':bp}{β gZ:List nh}{a:Act}{s s':St}
def DK:Code->Code
 |.scope c=>DK c|c=>c
def Ht(S:Nat->Option aH)(P:Program)(n:Nat)(dJ:Array Oper)(draw:Bool)(m:List aK):Option (List (Nat×Nat))->Bool
 |none=>!draw&&rA S P dJ n dJ.toList m|some cn=>draw&&MM S P dJ n m cn
def jA(S:Nat->Option aH)(P:Program)(n:Nat):bw->Code->Bool
 |.skip,c=>match DK c with|.skip=>true|_=>false
 |.region m draw _,c=>match DK c with
  |.region _ dJ d=>Ht S P n dJ d m draw|_=>false
 |.seq x y,c=>match x with
  |.TR _=>jA S P n y c|.Ff _ _=>jA S P n y c|.vg _ _=>jA S P n y c|x=>match DK c with
   |.seq a b=>jA S P n x a&&jA S P n y b|_=>false
 |.cond t _ x _ y,c=>match DK c with
  |.cond u a b=>KC u t&&jA S P n x a&&jA S P n y b|_=>false
 |.block i x,c=>match DK c with
  |.block j a=>i==j&&jA S P n x a|_=>false
 |.loop x,c=>match DK c with
  |.loop a=>jA S P n x a|_=>false
 |.exit i,c=>match DK c with
  |.exit j=>i==j|_=>false
 |.ret,c=>match DK c with
  |.ret=>true|_=>false
 |.TR _,_=>false|.Ff _ _,_=>false|.vg _ _,_=>false
def DL:Ex->Exit
 |.normal=>.normal|.exit id=>.exit id|.ret _=>.ret
def Pst(n:Nat)(rs:List iE)(A:Nat->Nat)(w:World)(G:bp)(x:Ex)(s':St)(w':World)(G':bp)(gZ:List nh)(a':Act):Prop:=
 ∃sr,FT w' G' gZ a' sr n/\Mv w G A w' G' (hJ gZ a' sr G' n)/\(match x with|.ret v=>xS sr rs=some v/\s'.st=sr.st|_=>s'=sr)
theorem Pst.trans{rs:List iE}{A A1:Nat->Nat}{w1:World}{G1:bp}{x:Ex}{a':Act}(h:Mv w G A w1 G1 A1)(k:Pst n rs A1 w1 G1 x s' w' G' gZ a'):Pst n rs A w G x s' w' G' gZ a':=by
 obtain⟨sr,h1,h2,h3⟩:=k;exact⟨sr,h1,h.trans h2,h3⟩
def Hu(P:Program)(c:Code)(Q:Exit->Act->World->Prop)(a:Act)(w:World):Prop:=
 ∀(b:Frame) (k:List Item) (cs:List Frame),∃e a' w',Q e a' w'/\Arrives P (lone (b.at a (.code c::.inLoop c::k)) cs w) b k cs e a' w'
theorem Jh{c:Code}{Q:Exit->Act->World->Prop}{w:World}(h:c.wp P (Exit.then (Hu P c Q) Q) a w):Hu P c Q a w:=by
 intro b k cs;obtain⟨e,QK,QL,hq,Ji⟩:=h b (.inLoop c::k) cs;cases e with
 |normal=>
  obtain⟨aho,ahp,ahq,adb,UJ⟩:=hq b k cs;exact⟨aho,ahp,ahq,adb,.of_steps (Steps.trans Ji (.one step_inLoop)) UJ⟩
 |exit id=>exact⟨_,QK,QL,hq,.pass (x:=.inLoop c) rfl (λ_ _=>.inl (by simp)) Ji⟩|goto l=>exact⟨_,QK,QL,hq,.pass (x:=.inLoop c) rfl (λ_ _=>.inl (by simp)) Ji⟩|ret=>exact⟨_,QK,QL,hq,.pass (x:=.inLoop c) rfl (λ_ _=>.inl (by simp)) Ji⟩|panic ch=>exact⟨_,QK,QL,hq,.pass (x:=.inLoop c) rfl (λ_ _=>.inl (by simp)) Ji⟩|outgrown=>exact⟨_,QK,QL,hq,.pass (x:=.inLoop c) rfl (λ_ _=>.inl (by simp)) Ji⟩
theorem Jj{c:Code}{Q:Exit->Act->World->Prop}{w:World}(h:Hu P c Q a w):(Code.loop c).wp P Q a w:=by
 intro b k cs;obtain⟨e,a',w',hq,Ji⟩:=h b k cs;exact⟨e,a',w',hq,.of_steps (.one step_loop) Ji⟩
theorem qx{Q:Exit->Act->World->Prop}{w:World}:∀{c:Code},(DK c).wp P (Exit.noGoto Q) a w->c.wp P Q a w
 |.scope c,h=>wp_scope_straight (qx (c:=c) (wp_mono h λe _ _ he=>by cases e<;>exact he))|.skip,h|.region ..,h|.seq ..,h|.cond ..,h|.block ..,h|.loop ..,h|.rangeFunc ..,h|.exit _,h|.label _,h|.goto _,h|.refuse _,h|.ret,h=>wp_mono h λe _ _ he=>by
  cases e<;>first|exact he|exact he.elim
def xg(S:Nat->Option aH)(P:Program)(O:lE):Prop:=
 ∀wl af rs c s x s',O.loop wl af rs c s=some (x,s')->∀code n,jA S P n c code=true->∀(w:World) (G:bp) (β:List nh) (a:Act),FT w G β a s n->(∀b,hJ β a s G n b<=1)->
  ∀(Q:Exit->Act->World->Prop),(∀w' G' gZ a',Pst n rs (hJ β a s G n) w G x s' w' G' gZ a'->Q (DL x) a' w')->Hu P code Q a w
theorem FT.clear(h:FT w G β a s n)(l:List Nat):FT w G β a { s with env:=jI l s.env } n/\∀b,hJ β a { s with env:=jI l s.env } G n b<=hJ β a s G n b:=
 FS.Qu h λt=>by
  simp only[um];split;exact .inr rfl;exact .inl rfl
theorem FT.ade(h:FT w G β a s n)(c:Src)(l:List Nat):FT w G β a { s with env:=jI l (oB s.env c) } n/\∀b,hJ β a { s with env:=jI l (oB s.env c) } G n b<=hJ β a s G n b:=
 FS.Qu h λt=>by
  have h1:=tC t [c] s.env;simp only[List.foldl_cons,List.foldl_nil]at h1;simp only[um,h1];split;exact .inr rfl;split;exact .inr rfl;exact .inl rfl
theorem Mv.QM{A A' A'':Nat->Nat}(h:Mv w G A w' G' A')(hl:∀b,A'' b<=A' b):Mv w G A w' G' A'':=
 h.Qo (λ_=>Nat.le_refl _) (λb hb=>Nat.le_trans (hl b) (h.gu b hb)) λb=>Nat.le_trans (hl b) (h.one b)
theorem xh(w:World)(G:bp)(d:Nat):sJ w G { w with drawn:=d } G:=⟨λ_ _ hi=>⟨rfl,hi⟩,λ_ loc h=>⟨loc,h,Nat.le_refl _,λ_=>rfl⟩⟩
theorem FT.drawn(h:FT w G β a s n)(d:Nat):FT { w with drawn:=d } G β a s n where
 I6:=h.I6
 size:=h.size
 tW:=λt=>(h.tW t).jK (xh w G d) λ_ _=>⟨rfl,rfl⟩
 lt:=h.lt
 inv:=vP h.inv (xh w G d) rfl (λ_ _=>⟨rfl,rfl⟩) h.inv.nO
 box:=ny h.box (xh w G d) λ_ _=>⟨rfl,rfl⟩
theorem Mv.drawn{A A':Nat->Nat}{d:Nat}(h:Mv { w with drawn:=d } G A w' G' A'):Mv w G A w' G' A':=
 ⟨(xh w G d).trans h.jK,h.gu,h.one,λb hb h0=>h.vM b hb h0,h.size,h.os,h.out⟩
theorem YJ{t:Nat}{v v':AV}{bV:aj}(hs:FT w G β a s n)(h1:∀b,hJ β a s G n b<=1)(hv:dj s.env t=.val v)(hf:jm wl v s.st=some (v',bV)) :
  ∃G',FT w G' β a ⟨zh s.env t (.val v'),s.bx,bV⟩ n/\Mv w G (hJ β a s G n) w G' (hJ β a ⟨zh s.env t (.val v'),s.bx,bV⟩ G' n):=by
 have htn:t<n:=by
  rcases Nat.lt_or_ge t n with h|h;exact h;rw[hs.lt t h]at hv;cases hv
 have Fq:=hs.tW t;rw[hv]at Fq;obtain⟨G',hF,hr,jy⟩:=yK (w:=w) hs.inv (λb=>by have:=h1 b;unfold hJ uV at this;omega) Fq hf;have KK:∀b,cM b (.val v') (lR a t)=0:=λb=>fz b _ _ jy;have iu:∀b,0<cM b (dj s.env t) (lR a t)\/True:=λ_=>.inr trivial;have DA:∀b,gY (λu=>cM b (dj (zh s.env t (.val v')) u) (lR a u)) n<=gY (λu=>cM b (dj s.env u) (lR a u)) n:=λb=>CD λu _=>by
  rw[vY];by_cases hu:u=t;subst hu;rw[if_pos rfl,KK b];omega;rw[if_neg hu];exact Nat.le_refl _
 have DN:∀b,0<gY (λu=>cM b (dj s.env u) (lR a u)) n+gW b β s.bx->eS w G w G' b:=λb hb=>⟨hF.vM b (by have:=h1 b;unfold hJ uV at this;omega),rfl⟩;have hle:∀b,hJ β a ⟨zh s.env t (.val v'),s.bx,bV⟩ G' n b<=hJ β a s G n b:=λb=>by
  have e1:=DA b;have e2:=hF.gu b;show gY (λu=>cM b (dj (zh s.env t (.val v')) u) (lR a u)) n+gW b β s.bx+cA b G'.ls bV<=gY (λu=>cM b (dj s.env u) (lR a u)) n+gW b β s.bx+cA b G.ls s.st;omega
 refine⟨G',⟨hs.I6,hs.size,λu=>?_,λu hu=>?_,hF.inv,ny (bx:=s.bx) hs.box hF.jK λb hb=>DN b (by omega)⟩,⟨hF.jK,λb _=>hle b,λb=>Nat.le_trans (hle b) (h1 b),λb hb h0=>?_,Nat.le_refl _,rfl,rfl⟩⟩;show kQ w G' β (dj (zh s.env t (.val v')) u) (lR a u);rw[vY];by_cases hu:u=t;subst hu;rw[if_pos rfl];exact hr;rw[if_neg hu];refine(hs.tW u).jK hF.jK λb hb=>DN b ?_;have IQ:u<n:=by
  rcases Nat.lt_or_ge u n with h|h;exact h;rw[hs.lt u h]at hb;simp[cM]at hb
 have:=vZ (f:=λu=>cM b (dj s.env u) (lR a u)) IQ;omega;show dj (zh s.env t (.val v')) u=.none;rw[vY,if_neg (by omega)];exact hs.lt u hu;have:cA b G.ls s.st=0:=by unfold hJ uV at h0;omega
 exact⟨hF.vM b this,rfl⟩
theorem zJ{wl:Nat}{v v':AV}{st bV:aj}(h:jm wl v st=some (v',bV)):v'.cy=true:=by
 unfold jm at h;split at h;split at h;split at h;split at h;cases h;rfl;cases h;cases h;cases h;cases h;rfl;cases h
theorem zq.put{row:List AV}{g:nh}{k:Nat}{v:AV}{u:Value}(h:zq w G row g)(hk:k<row.length)(hu:g.vals[k]?=some u)(hr:bC w G v u)(hc:v.cy=true):zq w G (ag row k [v]) g:=by
 have hv:cG w G [v] [u]:=⟨rfl,λi c x h1 h2=>by
  cases i with
  |zero=>simp at h1 h2;subst h1;subst h2;exact hr|succ i=>simp at h1⟩
 have hs:ag g.vals k [u]=g.vals:=by
  have ow:k<g.vals.length:=(List.getElem?_eq_some_iff.1 hu).1;have e:=uh g.vals k 1 (by omega);have e2:(g.vals.drop k).take 1=[u]:=by
   rw[List.drop_eq_getElem_cons ow];simp[(List.getElem?_eq_some_iff.1 hu).2]
  rw[e2]at e;exact e
 refine⟨?_,jV h.E5 (by simp[AV.bq,hc]) (by simp;omega),?_⟩;have:=h.tW.ag hv (n:=k) (by simp;omega)
 rwa [hs]at this
 rcases h.sM with⟨h1,h2⟩|⟨b,c,e,h1,h2,h3,h4,h5⟩;subst h2;simp at hk;exact .inr ⟨b,c,e,h1,h2,by rw[eW];exact h3,h4,h5⟩
theorem UK{j k:Nat}{row:List AV}{v v':AV}{bV:aj}(hs:FT w G β a s n)(h1:∀b,hJ β a s G n b<=1)(hr:s.bx[j]?=some row)(hv:row[k]?=some v)(hf:jm wl v s.st=some (v',bV)) :
  ∃G',FT w G' β a ⟨s.env,s.bx.set j (ag row k [v']),bV⟩ n/\Mv w G (hJ β a s G n) w G' (hJ β a ⟨s.env,s.bx.set j (ag row k [v']),bV⟩ G' n):=by
 have xm:=(List.getElem?_eq_some_iff.1 hr).1;have eL:=(List.getElem?_eq_some_iff.1 hv).1;obtain⟨g,hg⟩:∃g,β[j]?=some g:=⟨_,List.getElem?_eq_getElem (by rw[hs.box.len];exact xm)⟩;have hbx:=hs.box.box j row g hr hg;obtain⟨u,hu⟩:∃u,g.vals[k]?=some u:=⟨_,List.getElem?_eq_getElem (by rw[<-hbx.tW.1];exact eL)⟩;obtain⟨G',hF,fR,jy⟩:=yK (w:=w) hs.inv (λb=>by have:=h1 b;unfold hJ uV at this;omega) (hbx.tW.2 k v u hv hu) hf;have kC:=zJ hf;have DN:∀b,0<gY (λu=>cM b (dj s.env u) (lR a u)) n+gW b β s.bx->eS w G w G' b:=λb hb=>⟨hF.vM b (by have:=h1 b;unfold hJ uV at this;omega),rfl⟩;have hbc:∀b,gW b β (s.bx.set j (ag row k [v']))<=gW b β s.bx:=λb=>by
  have e1:=zp b β s.bx j g row g (ag row k [v']) hg hr;have e2:β.set j g=β:=by
   obtain⟨hj,e⟩:=List.getElem?_eq_some_iff.1 hg;rw[<-e];exact List.set_getElem_self _
  have Cg:ag g.vals k [u]=g.vals:=by
   have ow:k<g.vals.length:=(List.getElem?_eq_some_iff.1 hu).1;have e:=uh g.vals k 1 (by omega);have e2:(g.vals.drop k).take 1=[u]:=by
    rw[List.drop_eq_getElem_cons ow];simp[(List.getElem?_eq_some_iff.1 hu).2]
   rw[e2]at e;exact e
  have e3:=ri b row [v'] g.vals [u] k hbx.tW.1 rfl (by simp;omega);rw[Cg]at e3;have e4:cv b [v'] [u]=0:=by simp only[cv,fz b v' u jy]
  rw[e2]at e1;omega
 have hle:∀b,hJ β a ⟨s.env,s.bx.set j (ag row k [v']),bV⟩ G' n b<=hJ β a s G n b:=λb=>by
  have e1:=hbc b;have e2:=hF.gu b;show gY (λu=>cM b (dj s.env u) (lR a u)) n+gW b β (s.bx.set j (ag row k [v']))+cA b G'.ls bV<=gY (λu=>cM b (dj s.env u) (lR a u)) n+gW b β s.bx+cA b G.ls s.st;omega
 have hB:=ny (bx:=s.bx) hs.box hF.jK λb hb=>DN b (by omega);refine⟨G',⟨hs.I6,hs.size,λu=>?_,hs.lt,hF.inv,⟨by simpa using hB.len,λi r x e1 e2=>?_⟩⟩,⟨hF.jK,λb _=>hle b,λb=>Nat.le_trans (hle b) (h1 b),λb hb h0=>?_,Nat.le_refl _,rfl,rfl⟩⟩;refine(hs.tW u).jK hF.jK λb hb=>DN b ?_;have IQ:u<n:=by
  rcases Nat.lt_or_ge u n with h|h;exact h;rw[hs.lt u h]at hb;simp[cM]at hb
 have:=vZ (f:=λu=>cM b (dj s.env u) (lR a u)) IQ;omega;simp only[List.getElem?_set]at e1;by_cases Cf:j=i;subst Cf;rw[if_pos rfl,if_pos xm]at e1;cases e1;rw[hg]at e2;cases e2;exact(hB.box j row g hr hg).put eL hu fR kC;rw[if_neg Cf]at e1;exact hB.box i r x e1 e2;have:cA b G.ls s.st=0:=by unfold hJ uV at h0;omega
 exact⟨hF.vM b this,rfl⟩
theorem QN{wl af:Nat}{st kM kP:aj}{id cz i k off:Nat}{v v':AV}{u:Value}(hI:jQ w G st)(hX:∀b,cA b G.ls st<=1)(hp:bC w G (.ptr id cz i k) u)
  (hr:dA st (.ptr id cz i (k+off)) 1=some [v])(hf:jm wl v st=some (v',kM))(hw:cu wl af kM (.ptr id cz i (k+off)) [v']=some kP):∃G',It w G st G' kP:=by
 unfold dA at hr;simp only at hr;split at hr;rename_i ve sz rows iu;split at hr;rename_i hve;subst hve;split at hr;rename_i r cZ;obtain⟨loc,b,o,c,e,xs,hl,E6,Ce,jv,He,AN,g8,gT,iC,hle,hlen,jz,KP,mF,fA⟩:=zw hI hp iu cZ;obtain⟨jO,Ys,IV⟩:=rj hr;have KD:k+off<r.length:=by omega
 have hv:r[k+off]?=some v:=by
  have:((r.drop (k+off)).take 1)[0]?=some v:=by rw[<-jO];rfl
  rw[List.getElem?_take,if_pos (by omega),List.getElem?_drop]at this;exact this
 obtain⟨x,hx⟩:∃x,xs[k+off]?=some x:=⟨_,List.getElem?_eq_getElem (by rw[<-mF.1];exact KD)⟩;obtain⟨G',hF,fR,jy⟩:=yK hI hX (mF.2 _ _ _ hv hx) hf;have kC:=zJ hf;have YH:bC w G' (.ptr id ve i k) u:=hp.AR hF.jK rfl;unfold cu at hw;simp only at hw;split at hw;rename_i ve1 sz1 QO Fl;split at hw;rename_i adg;simp only[Bool.and_eq_true,decide_eq_true_eq]at adg;obtain⟨rfl,_⟩:=adg;split at hw;rename_i r1 MQ;split at hw;rename_i cL;cases hw;obtain⟨UL,b1,o1,c1,e1,TX,Uv,ahs,aht,Jk,YK,ahu,adh,akG,YL,ahv,adi,adj,UM,Qm,MS⟩:=zw hF.inv YH Fl MQ;have hk1:k+off<r1.length:=by simp only[List.length_singleton]at cL;omega
 obtain⟨x1,hx1⟩:∃x,TX[k+off]?=some x:=⟨_,List.getElem?_eq_getElem (by rw[<-Qm.1];exact hk1)⟩;rw[He]at YK;simp only[Value.pointer.injEq,Option.some.injEq,Addr.mk.injEq,and_true]at YK;obtain⟨hb,ho⟩:=YK;have hxx:x1=x:=by
  have a1:=fA i xs (k+off) x KP hx;have a2:=MS i TX (k+off) x1 UM hx1;rw[hb,show o+(i*sz+(k+off))=o1+(i*sz1+(k+off)) by omega,a2]at a1;cases a1;rfl
 subst hxx;have hs:ag TX (k+off) [x1]=TX:=by
  have e:=uh TX (k+off) 1 (by have:=(List.getElem?_eq_some_iff.1 hx1).1;omega);have e2:(TX.drop (k+off)).take 1=[x1]:=by
   rw[List.drop_eq_getElem_cons (List.getElem?_eq_some_iff.1 hx1).1];simp[(List.getElem?_eq_some_iff.1 hx1).2]
  rw[e2]at e;exact e
 have adk:cG w G' (ag r1 (k+off) [v']) TX:=by
  have Fk:cG w G' [v'] [x1]:=⟨rfl,λi c x h1 h2=>by
   cases i with
   |zero=>simp at h1 h2;subst h1;subst h2;exact fR|succ i=>simp at h1⟩
  have:=Qm.ag Fk (n:=k+off) (by simp;omega)
  rwa [hs]at this
 have vk:qZ w G' (.rows ve1 sz1 (QO.set i (ag r1 (k+off) [v']))) UL:=by
  refine⟨ahs,aht,dg.2 λr' xU=>?_,λr' xU=>?_,by simp[Jk.len],Jk.size,by simp[Jk.tq],λi' r' Ks h1 h2=>?_,.inr ⟨b1,o1,c1,e1,ahu,adh,YL,ahv,by simpa using adi,adj,MS⟩⟩;rcases List.mem_or_eq_of_mem_set xU with h|h;exact dg.1 Jk.FJ r' h;rw[h,eW];exact dg.1 Jk.FJ r1 (dn MQ);rcases List.mem_or_eq_of_mem_set xU with h|h;exact Jk.E5 r' h;rw[h];exact jV (Jk.E5 r1 (dn MQ)) (by simp[AV.bq,kC]) (by simpa using cL);rw[List.getElem?_set]at h1;by_cases KQ:i=i';subst KQ;rw[if_pos rfl]at h1;split at h1;cases h1;rw[UM]at h2;cases h2;exact adk;cases h1;rw[if_neg KQ]at h1;exact Jk.uc i' r' Ks h1 h2
 refine⟨G',hF.trans ⟨sJ.refl w G',CA hF.inv (sJ.refl w G') (gb _ _ _ Uv).symm (λ_ _ _ _ _ _ _ _=>⟨rfl,rfl⟩) vk hF.inv.nO,λb'=>?_,λ_ _=>rfl⟩⟩;have h1:=vL b' G'.ls kM id UL _ UL (.rows ve1 sz1 (QO.set i (ag r1 (k+off) [v']))) Uv Fl;rw[gb _ _ _ Uv]at h1;have h4:=tr b' QO UL.vals i r1 TX (ag r1 (k+off) [v']) TX MQ UM;rw[gb _ _ _ UM]at h4;have e3:=ri b' r1 [v'] TX [x1] (k+off) Qm.1 rfl (by simp;omega);rw[hs]at e3;have e4:cv b' [v'] [x1]=0:=by simp only[cv,fz b' v' x1 jy]
 simp only[je]at h1;omega;cases hw;cases hw;cases hw;cases hw;cases hr;cases hr;cases hr
theorem On{wl af:Nat}{st kM kP:aj}{id cz i k off:Nat}{v v':AV}{u:Value}(hI:jQ w G st)(hX:∀b,cA b G.ls st<=1)(hp:bC w G (.ptr id cz i k) u)
  (hr:dA st (.ptr id cz i (k+off)) 1=some [v])(hf:o9 wl v st=some (v',kM))(hw:cu wl af kM (.ptr id cz i (k+off)) [v']=some kP):∃G',It w G st G' kP:=by
 unfold o9 at hf;split at hf;rename_i lF eU;cases hf;unfold dA at hr;simp only at hr;split at hr;rename_i ve sz rows iu;split at hr;rename_i hve;subst hve;split at hr;rename_i r cZ;obtain⟨jO,Ys,IV⟩:=rj hr;have KD:k+off<r.length:=by omega
 have hv:r[k+off]?=some (.raw lF eU):=by
  have:((r.drop (k+off)).take 1)[0]?=some (.raw lF eU):=by rw[<-jO];rfl
  rw[List.getElem?_take,if_pos (by omega),List.getElem?_drop]at this;exact this
 have Kp:id<st.length:=(List.getElem?_eq_some_iff.1 iu).1;have Fl:(st++[dz.rows 0 lF eU])[id]?=some (.rows ve sz rows):=by rw[List.getElem?_append_left Kp];exact iu
 unfold cu at hw;simp only[Fl,cZ]at hw;split at hw;split at hw;cases hw;exact Ut hI hp iu cZ hv;cases hw;cases hw;cases hr;cases hr;cases hr;exact QN hI hX hp hr hf hw
theorem UN{wl af:Nat}{t id cz i k off:Nat}{v v':AV}{kM kP:aj}(hs:FT w G β a s n)(h1:∀b,hJ β a s G n b<=1)(ht:dj s.env t=.val (.ptr id cz i k))
  (hr:dA s.st (.ptr id cz i (k+off)) 1=some [v])(hf:o9 wl v s.st=some (v',kM))(hw:cu wl af kM (.ptr id cz i (k+off)) [v']=some kP) :
  ∃G',FT w G' β a ⟨s.env,s.bx,kP⟩ n/\Mv w G (hJ β a s G n) w G' (hJ β a ⟨s.env,s.bx,kP⟩ G' n):=by
 have Fq:kQ w G β (dj s.env t) (lR a t):=hs.tW t;rw[ht]at Fq;obtain⟨G',hF⟩:=On hs.inv (λb=>by have:=h1 b;unfold hJ uV at this;omega) Fq hr hf hw;have DN:∀b,0<gY (λu=>cM b (dj s.env u) (lR a u)) n+gW b β s.bx->eS w G w G' b:=λb hb=>⟨hF.vM b (by have:=h1 b;unfold hJ uV at this;omega),rfl⟩;have hle:∀b,hJ β a ⟨s.env,s.bx,kP⟩ G' n b<=hJ β a s G n b:=λb=>by
  have e2:=hF.gu b;show gY (λu=>cM b (dj s.env u) (lR a u)) n+gW b β s.bx+cA b G'.ls kP<=gY (λu=>cM b (dj s.env u) (lR a u)) n+gW b β s.bx+cA b G.ls s.st;omega
 refine⟨G',⟨hs.I6,hs.size,λu=>?_,hs.lt,hF.inv,ny (bx:=s.bx) hs.box hF.jK λb hb=>DN b (by omega)⟩,⟨hF.jK,λb _=>hle b,λb=>Nat.le_trans (hle b) (h1 b),λb hb h0=>?_,Nat.le_refl _,rfl,rfl⟩⟩;refine(hs.tW u).jK hF.jK λb hb=>DN b ?_;have IQ:u<n:=by
  rcases Nat.lt_or_ge u n with h|h;exact h;rw[hs.lt u h]at hb;simp[cM]at hb
 have:=vZ (f:=λu=>cM b (dj s.env u) (lR a u)) IQ;omega;have:cA b G.ls s.st=0:=by unfold hJ uV at h0;omega
 exact⟨hF.vM b this,rfl⟩
end Ax
namespace Ax
open Go
variable {S:Nat->Option aH}{P:Program}{O:lE}{wl af n:Nat}
theorem xq{Q:Exit->Act->World->Prop}{x:Ex}{a:Act}{w:World}(h:Q (DL x) a w):Exit.noGoto Q (DL x) a w:=by
 cases x<;>exact h
theorem Oo{x y:bw}{c:Code}(h:jA S P n (.seq x y) c=true):(∃t,x=.TR t/\jA S P n y c=true)\/(∃j k,x=.Ff j k/\jA S P n y c=true)\/(∃j k,x=.vg j k/\jA S P n y c=true)\/(∃a b,DK c=.seq a b/\jA S P n x a=true/\jA S P n y b=true):=by
 unfold jA at h;split at h;exact .inl ⟨_,rfl,h⟩;exact .inr (.inl ⟨_,_,rfl,h⟩);exact .inr (.inr (.inl ⟨_,_,rfl,h⟩));split at h;rename_i a b he;simp only[Bool.and_eq_true]at h;exact .inr (.inr (.inr ⟨a,b,he,h.1,h.2⟩));cases h
theorem sR(hO:jX S P O)(hL:xg S P O)(hP:BH S O){rs:List iE}:∀(c:bw)(code:Code)(s s':St)(x:Ex)(w:World)(G:bp)(β:List nh)(a:Act)(Q:Exit->Act->World->Prop),
  jA S P n c code=true->FT w G β a s n->(∀b,hJ β a s G n b<=1)->iW O wl af rs c s=some (x,s')->
  (∀w' G' gZ a',Pst n rs (hJ β a s G n) w G x s' w' G' gZ a'->Q (DL x) a' w')->code.wp P Q a w
 |.skip,code,s,s',x,w,G,β,a,Q,hm,hs,h1,he,hQ=>by
  refine qx ?_;simp only[iW,Option.some.injEq,Prod.mk.injEq]at he;obtain⟨rfl,rfl⟩:=he;unfold jA at hm;split at hm;rename_i hp;rw[hp];exact wp_skip (hQ w G β a ⟨s,hs,Mv.refl h1,rfl⟩);cases hm
 |.region m draw dm,code,s,s',x,w,G,β,a,Q,hm,hs,h1,he,hQ=>by
  refine qx ?_;unfold jA at hm;split at hm;rename_i id dJ d hp;rw[hp];unfold iW at he;cases draw with
  |none=>
   simp only[Ht,Bool.and_eq_true,Bool.not_eq_true']at hm;obtain⟨rfl,hm⟩:=hm;simp only at he;split at he;rename_i s1 I5;cases he;refine wp_region ?_;have:=DB (Q:=Exit.noGoto Q) hO dJ.toList m 0 w G β a s rfl hm hs h1 I5 λw' G' gZ a' f1 f2=>by
    obtain⟨g1,g2⟩:=f1.clear dm;exact hQ w' G' gZ a' ⟨_,g1,f2.QM g2,rfl⟩
   rw[List.range_eq_range'];simpa using this;cases he
  |some cn=>
   simp only[Ht,Bool.and_eq_true]at hm;obtain⟨rfl,hm⟩:=hm;simp only at he;split at he;rename_i s1 I5;cases he;exact Jg (Q:=Exit.noGoto Q) hm hO hP hs h1 I5 (λd=>⟨hs.drawn d,λ_ _ _ h=>h.drawn⟩) λw' G' gZ a' f1 f2=>by
    obtain⟨g1,g2⟩:=f1.clear dm;exact hQ w' G' gZ a' ⟨_,g1,f2.QM g2,rfl⟩
   cases he
  cases hm
 |.seq c1 c2,code,s,s',x,w,G,β,a,Q,hm,hs,h1,he,hQ=>by
  rcases Oo hm with⟨t,rfl,UO⟩|⟨j,k,rfl,UO⟩|⟨t,off,rfl,UO⟩|⟨a1,b1,hp,hm1,UO⟩;unfold iW at he;cases hc:iW O wl af rs (.TR t) s with
  |none=>rw[hc]at he;cases he|some y=>
   obtain⟨x1,s1⟩:=y;rw[hc]at he;unfold iW at hc;cases hv:dj s.env t with
   |none=>rw[hv]at hc;cases hc|fp j k=>rw[hv]at hc;cases hc|val v=>
    rw[hv]at hc;simp only at hc;cases hf:jm wl v s.st with
    |none=>rw[hf]at hc;cases hc|some y=>
     obtain⟨v',bV⟩:=y;rw[hf]at hc;cases hc;obtain⟨G',f1,f2⟩:=YJ hs h1 hv hf;exact sR hO hL hP c2 code _ s' x w G' β a Q UO f1 f2.one he λw' G2 Qv a2 hp=>hQ w' G2 Qv a2 (hp.trans f2)
  unfold iW at he;cases hc:iW O wl af rs (.Ff j k) s with
  |none=>rw[hc]at he;cases he|some y=>
   obtain⟨x1,s1⟩:=y;rw[hc]at he;unfold iW at hc;cases hb:s.bx[j]? with
   |none=>rw[hb]at hc;cases hc|some row=>
    rw[hb]at hc;simp only at hc;cases hv:row[k]? with
    |none=>rw[hv]at hc;cases hc|some v=>
     rw[hv]at hc;simp only at hc;cases hf:jm wl v s.st with
     |none=>rw[hf]at hc;cases hc|some y=>
      obtain⟨v',bV⟩:=y;rw[hf]at hc;cases hc;obtain⟨G',f1,f2⟩:=UK hs h1 hb hv hf;exact sR hO hL hP c2 code _ s' x w G' β a Q UO f1 f2.one he λw' G2 Qv a2 hp=>hQ w' G2 Qv a2 (hp.trans f2)
  unfold iW at he;cases hc:iW O wl af rs (.vg t off) s with
  |none=>rw[hc]at he;cases he|some y=>
   obtain⟨x1,s1⟩:=y;rw[hc]at he;obtain⟨rfl,id,cz,i,k,v,v',kM,kP,g1,g2,g3,g4,rfl⟩:=C1 hc;simp only at he;obtain⟨G',f1,f2⟩:=UN hs h1 g1 g2 g3 g4;exact sR hO hL hP c2 code _ s' x w G' β a Q UO f1 f2.one he λw' G2 Qv a2 hp=>hQ w' G2 Qv a2 (hp.trans f2)
  refine qx ?_;rw[hp];refine wp_seq ?_;unfold iW at he;cases hc:iW O wl af rs c1 s with
  |none=>rw[hc]at he;cases he|some y=>
   obtain⟨x1,s1⟩:=y;rw[hc]at he;refine sR hO hL hP c1 a1 s s1 x1 w G β a _ hm1 hs h1 hc λw' G' gZ a' Xl=>?_;cases x1 with
   |normal=>
    obtain⟨sr,g1,g2,g3⟩:=Xl;simp only at g3;subst g3;exact sR hO hL hP c2 b1 s1 s' x w' G' gZ a' _ UO g1 g2.one he λw2 G2 Qv a2 uv=>xq (hQ w2 G2 Qv a2 (uv.trans g2))
   |exit id=>cases he;exact hQ w' G' gZ a' Xl|ret v=>cases he;exact hQ w' G' gZ a' Xl
 |.cond t ca c1 cb c2,code,s,s',x,w,G,β,a,Q,hm,hs,h1,he,hQ=>by
  refine qx ?_;unfold jA at hm;split at hm;rename_i u a1 b1 hp;rw[hp];simp only[Bool.and_eq_true]at hm;obtain⟨⟨hms,hm1⟩,UO⟩:=hm;unfold iW at he;have YM:=(MI hs.tW hms).1;have hb:∀b,vF s.env t=some b->a.eval u=.bool b:=λb hb=>by
   unfold vF at hb;rw[CF]at hb;split at hb;rename_i b' oG;cases hb;rw[oG]at YM;exact bC.jT YM;cases hb
  split at he;rename_i hr;obtain⟨g1,g2⟩:=FT.ade hs t ca;refine wp_cond_true (hb _ hr) (sR hO hL hP c1 a1 _ s' x w G β a _ hm1 g1 (λb=>Nat.le_trans (g2 b) (h1 b)) he λw' G' gZ a' hp=>xq (hQ w' G' gZ a' (hp.trans ((Mv.refl h1).QM g2))));rename_i hr;obtain⟨g1,g2⟩:=FT.ade hs t cb;refine wp_cond_false (hb _ hr) (sR hO hL hP c2 b1 _ s' x w G β a _ UO g1 (λb=>Nat.le_trans (g2 b) (h1 b)) he λw' G' gZ a' hp=>xq (hQ w' G' gZ a' (hp.trans ((Mv.refl h1).QM g2))));cases he;cases hm
 |.block id c1,code,s,s',x,w,G,β,a,Q,hm,hs,h1,he,hQ=>by
  refine qx ?_;unfold jA at hm;split at hm;rename_i j a1 hp;rw[hp];simp only[Bool.and_eq_true,beq_iff_eq]at hm;obtain⟨rfl,hm1⟩:=hm;refine wp_block ?_;unfold iW at he;cases hc:iW O wl af rs c1 s with
  |none=>rw[hc]at he;cases he|some y=>
   obtain⟨x1,s1⟩:=y;rw[hc]at he;refine sR hO hL hP c1 a1 s s1 x1 w G β a _ hm1 hs h1 hc λw' G' gZ a' Xl=>?_;cases x1 with
   |normal=>cases he;exact hQ w' G' gZ a' Xl|exit i=>
    simp only at he;simp only[DL,Exit.inBlock];split at he;rename_i hi;cases he;rw[if_pos hi];exact hQ w' G' gZ a' Xl;rename_i hi;cases he;rw[if_neg hi];exact hQ w' G' gZ a' Xl
   |ret v=>cases he;exact hQ w' G' gZ a' Xl
  cases hm
 |.loop c1,code,s,s',x,w,G,β,a,Q,hm,hs,h1,he,hQ=>by
  refine qx ?_;unfold jA at hm;split at hm;rename_i a1 hp;rw[hp];unfold iW at he;exact Jj (hL wl af rs c1 s x s' he a1 n hm w G β a hs h1 _ λw' G' gZ a' hp=>xq (hQ w' G' gZ a' hp));cases hm
 |.exit id,code,s,s',x,w,G,β,a,Q,hm,hs,h1,he,hQ=>by
  refine qx ?_;simp only[iW,Option.some.injEq,Prod.mk.injEq]at he;obtain⟨rfl,rfl⟩:=he;unfold jA at hm;split at hm;rename_i j hp;rw[hp];simp only[beq_iff_eq]at hm;subst hm;exact wp_exit (hQ w G β a ⟨s,hs,Mv.refl h1,rfl⟩);cases hm
 |.ret,code,s,s',x,w,G,β,a,Q,hm,hs,h1,he,hQ=>by
  refine qx ?_;unfold jA at hm;split at hm;rename_i hp;rw[hp];unfold iW at he;split at he;rename_i v hv;cases he;exact wp_ret (hQ w G β a ⟨s,hs,Mv.refl h1,hv,rfl⟩);cases he;cases hm
 |.TR t,code,s,s',x,w,G,β,a,Q,hm,hs,h1,he,hQ=>by
  simp[jA]at hm
 |.Ff j k,code,s,s',x,w,G,β,a,Q,hm,hs,h1,he,hQ=>by
  simp[jA]at hm
 |.vg t off,code,s,s',x,w,G,β,a,Q,hm,hs,h1,he,hQ=>by
  simp[jA]at hm
def MU(S:Nat->Option aH)(P:Program)(sf:aH):Bool:=
 match P.funcs[sf.eO]? with
 |some fn=>match fn.body with
  |some code => !(fn.name == "runtime.NumGoroutine") && jA S P fn.ntmps sf.body code && yM P fn.results.toList sf.results && v8 (oJ sf.results) && v8 (DC sf.results) && decide (sf.aF ≤ fn.ntmps)
  |none=>false
 |none=>false
def Jl(S:Nat->Option aH)(P:Program):Prop:=∀f sf,S f=some sf->MU S P sf=true/\(f<100000->sf.eO=f)
def Cl(b:Nat)(args:List AV)(vs:List Value)(k t:Nat):Nat:=if k<=t then (match args[t-k]?,vs[t-k]? with|some v,some u=>gu b v u|_,_=>0) else 0
theorem Jm{w:World}{G:bp}(b:Nat):∀(args:List AV)(vs:List Value)(k N:Nat),args.length=vs.length->k+args.length<=N->
  gY (Cl b args vs k) N=cv b args vs
 |[],[],k,N,_,_=>by
  have:gY (Cl b [] [] k) N=gY (λ_=>0) N:=oH λt _=>by simp[Cl]
  rw[this,F2];rfl
 |v::args,u::vs,k,N,hl,hN=>by
  have ih:=Jm (w:=w) (G:=G) b args vs (k+1) N (by simpa using hl) (by simp at hN;omega);have:=tD (f:=Cl b (v::args) (u::vs) k) (g:=Cl b args vs (k+1)) (d:=k) (n:=N) (by simp at hN;omega) λt ht=>by
    unfold Cl;by_cases hk:k<=t;have h1:k+1<=t:=(by omega);have h2:t-k=(t-(k+1))+1:=(by omega);simp only[hk,h1,if_true,h2,List.getElem?_cons_succ];have h1:¬k+1<=t:=(by omega);simp only[hk,h1,if_false]
  have e1:Cl b (v::args) (u::vs) k k=gu b v u:=by simp[Cl]
  have e2:Cl b args vs (k+1) k=0:=by unfold Cl;rw[if_neg (by omega)]
  rw[e1,e2,ih]at this;simp only[cv];omega
 |[],_::_,_,_,h,_=>by simp at h|_::_,[],_,_,h,_=>by simp at h
end Ax
namespace Ax
open Go
variable {S:Nat->Option aH}{P:Program}{O:lE}{wl af n:Nat}
variable {w w':World}{G G':bp}{β gZ:List nh}{a:Act}{s s':St}
theorem UP{fn:Func}{rs:List iE}{v:AV}(hs:FT w G β a s n)(hm:yM P fn.results.toList rs=true)(h1:v8 (oJ rs)=true)(h2:v8 (DC rs)=true)(hr:xS s rs=some v) :
  ∃u,(results fn a.tmps).run P w=.ok u w/\bC w G v u/\∀b,gu b v u+cA b G.ls s.st<=hJ β a s G n b:=by
 unfold xS at hr;cases jv:yC s rs with
 |none=>rw[jv]at hr;cases hr|some vs=>
  obtain⟨us,k1,k2,k3⟩:=Ga hs _ rs vs hm jv;have k4:=I9 k1;rw[jv]at hr;have hle:∀b,cv b vs us+cA b G.ls s.st<=hJ β a s G n b:=λb=>by
   have e1:=k3 b;have e2:=zz (f:=λt=>cM b (dj s.env t) (lR a t)) (n:=n) (λt ht=>by rw[hs.lt t ht];rfl) _ (xd h1);have e3:=zz (f:=tE b β s.bx) (n:=s.bx.length) (λt ht=>by
    unfold tE;rw[List.getElem?_eq_none ht];split;rename_i h;cases h
    rfl) _ (xd h2)
   have e4:=Ja b β s.bx;unfold hJ uV;omega
  match vs,us,k2,hle,hr,k4 with
  |[v1],[u],k2,hle,hr,k4=>
   cases hr;refine⟨u,k4,k2.2 0 _ u rfl rfl,λb=>?_⟩;have:=hle b;simp only[cv]at this;omega
  |[],us,k2,hle,hr,k4=>
   have:us=[]:=by have:=k2.1;simpa using this.symm
   subst this;cases hr;exact⟨_,k4,.fm _ _ rfl λi c v h=>by simp at h,λb=>by have:=hle b;simpa [gu,Ok] using this⟩
  |v1::v2::vs,us,k2,hle,hr,k4=>
   cases hr;match us,k2,hle,k4 with
   |[],k2,_,_=>have:=k2.1;simp at this|[_],k2,_,_=>have:=k2.1;simp at this|u1::u2::us,k2,hle,k4=>
    exact⟨_,k4,.fm _ _ (by simpa using k2.1) λi c v h k=>k2.2 i c v h (by simpa using k),λb=>by have:=hle b;simpa [gu,Ok] using this⟩
  |[_],[],k2,_,_,_=>have:=k2.1;simp at this|[_],_::_::_,k2,_,_,_=>have:=k2.1;simp at this
theorem Hv{m:Mode}{st kM bV:aj}{v v':AV}{u:Value}{A:Nat->Nat}(hI0:jQ w G st)(hk:dQ (m.vh st.length wl) (m.oC st.length af) st kM)(hf:m.lG st v kM=some (v',bV))(hr:bC w' G' v u)(hI:jQ w' G' kM)
  (hM:Mv w G A w' G' (λb=>gu b v u+cA b G'.ls kM)):∃G2,bC w' G2 v' u/\jQ w' G2 bV/\Mv w G A w' G2 (λb=>gu b v' u+cA b G2.ls bV):=by
 have adm:(m=.pure\/m=.kh)->F3 st.length kM:=λh=>by
  have hl:m.oC st.length af=st.length:=by rcases h with rfl|rfl<;>rfl
  rw[hl]at hk;exact hk.af st.length (Nat.le_refl _) (Nat.le_refl _) hI0.acX
 have cut:v.ax=true->F3 st.length kM->∃G2,bC w' G2 v u/\jQ w' G2 (kM.take st.length)/\Mv w G A w' G2 (λb=>gu b v u+cA b G2.ls (kM.take st.length)):=by
  intro hp hl;have hc:∀b,gu b v u+cA b (G'.cut st.length).ls (kM.take st.length)<=gu b v u+cA b G'.ls kM:=λb=>by
   have:=F4 b st.length G'.ls kM;simp only[bp.cut];omega
  refine⟨G'.cut st.length,hr.Dt (jf _ v hp),hI.Dt hl,?_⟩;exact⟨UA hM.jK (by rw[hI0.len];exact Nat.le_refl _),λb hb=>Nat.le_trans (hc b) (hM.gu b hb),λb=>Nat.le_trans (hc b) (hM.one b),λb hb h0=>hM.vM b hb h0,hM.size,hM.os,hM.out⟩
 cases m with
 |zi=>
  simp only[Mode.lG,Option.some.injEq,Prod.mk.injEq]at hf;obtain⟨rfl,rfl⟩:=hf;exact⟨G',hr,hI,hM⟩
 |pure=>
  simp only[Mode.lG]at hf;split at hf;rename_i hp;cases hf;obtain⟨G2,c1,c2,c3⟩:=cut hp (adm (.inl rfl));have:kM.take st.length=st:=by
   apply List.ext_getElem?;intro i;rw[List.getElem?_take];split;rename_i hi;exact hk.low i (by simpa [Mode.vh] using hi) hi;rename_i hi;rw[List.getElem?_eq_none (by omega)]
  rw[this]at c2 c3;exact⟨G2,c1,c2,c3⟩;cases hf
 |kh=>
  simp only[Mode.lG]at hf;split at hf;rename_i hp;cases hf;exact cut hp (adm (.inr rfl));cases hf
theorem K6(w:World)(G:bp)(k:Nat):lH w G (List.replicate k ⟨none,[]⟩) (List.replicate k []) where
 len:=by simp
 box:=λj row g h1 h2=>by
  rw[List.getElem?_replicate]at h1 h2;split at h1;rename_i hj;rw[if_pos hj]at h2;cases h1;cases h2;exact⟨⟨rfl,λi c v h=>by simp at h⟩,rfl,.inl ⟨rfl,rfl⟩⟩;cases h1
theorem DO(b:Nat):∀k,gW b (List.replicate k ⟨none,[]⟩) (List.replicate k [])=0
 |0=>by simp[gW]|k+1=>by simp[List.replicate_succ,gW,DO b k,cv]
theorem zK(hT:Jl S P)(hO:jX S P O)(hL:xg S P O)(hP:BH S O)(hK:rz O){f:Nat}{sf:aH}(hf:S f=some sf){args:List AV}{st bV:aj}{v:AV}(hc:ff O wl af sf args st=some (v,bV)) :
  Oh P sf.eO/\(f<100000->sf.eO=f)/\
  ∀(w:World) (G:bp) (vs:List Value),cG w G args vs->jQ w G st->(∀b,cv b args vs+cA b G.ls st<=1)->
   Calls P sf.eO vs.toArray w λe w'=>∃u G',e=.returned u/\bC w' G' v u/\jQ w' G' bV/\
    Mv w G (λb=>cv b args vs+cA b G.ls st) w' G' (λb=>gu b v u+cA b G'.ls bV):=by
 obtain⟨hm,ahx⟩:=hT f sf hf;unfold MU at hm;split at hm;rename_i fn Gf;split at hm;rename_i code Xm;simp only[Bool.and_eq_true,Bool.not_eq_true',decide_eq_true_eq]at hm;obtain⟨⟨⟨⟨⟨adn,pP⟩,Oq⟩,hnt⟩,Qs⟩,hnp⟩:=hm;refine⟨⟨fn,Gf,adn,by rw[Xm];rfl⟩,ahx,λw G vs hR hI h1=>?_⟩;unfold ff at hc;split at hc;rename_i hlen;split at hc;rename_i x s ado;split at hc;rename_i v1 Fs;refine calls_of_wp Gf Xm ?_;have Xc:vs.length=args.length:=hR.1.symm;have dH:(vs.toArray++Array.replicate (fn.ntmps-vs.toArray.size) undef).size=fn.ntmps:=by
  simp only[Array.size_append,List.size_toArray,Array.size_replicate];omega
 let a0:Act:={ tmps:=vs.toArray++Array.replicate (fn.ntmps-vs.toArray.size) undef,defers:=[] }
 have adp:∀t u,vs[t]?=some u->lR a0 t=u:=λt u hu=>by
  have aX:=(List.getElem?_eq_some_iff.1 hu).1;have:a0.tmps[t]?=some u:=by
   show (vs.toArray++Array.replicate (fn.ntmps-vs.toArray.size) undef)[t]?=some u;rw[Array.getElem?_append];simp[aX,(List.getElem?_eq_some_iff.1 hu).2]
  simp[lR,this]
 have hη:∀t,dj (pI sf args st).env t=if t∈sf.dm then .none else (match args[t]? with|some v=>.val v|none=>.none):=λt=>by
  simp only[pI,um,F1,Nat.zero_le,if_true,Nat.sub_zero]
  rfl
 have hFT:FT w G (List.replicate sf.aP ⟨none,[]⟩) a0 (pI sf args st) fn.ntmps:=by
  refine⟨rfl,by show fn.ntmps<=(vs.toArray++Array.replicate (fn.ntmps-vs.toArray.size) undef).size;omega,λt=>?_,λt ht=>?_,hI,K6 w G sf.aP⟩;rw[hη];split
  trivial
  split;rename_i v0 hv0;have aX:t<vs.length:=by rw[Xc];exact(List.getElem?_eq_some_iff.1 hv0).1
  have hu:=List.getElem?_eq_getElem aX;rw[adp t _ hu];exact hR.2 t v0 _ hv0 hu
  trivial
  rw[hη,List.getElem?_eq_none (by omega)];simp
 have YN:∀b,hJ (List.replicate sf.aP ⟨none,[]⟩) a0 (pI sf args st) G fn.ntmps b<=cv b args vs+cA b G.ls st:=λb=>by
  have e1:=Jm (w:=w) (G:=G) b args vs 0 fn.ntmps Xc.symm (by omega);have e2:gY (λt=>cM b (dj (pI sf args st).env t) (lR a0 t)) fn.ntmps<=gY (Cl b args vs 0) fn.ntmps:=CD λt _=>by
   rw[hη];simp only[Cl,Nat.zero_le,if_true,Nat.sub_zero];split;simp[cM];cases hv0:args[t]? with
   |none=>simp[cM]|some v0=>
    have aX:t<vs.length:=(by rw[Xc];exact(List.getElem?_eq_some_iff.1 hv0).1);have hu:=List.getElem?_eq_getElem aX;rw[adp t _ hu,hu];exact Nat.le_refl _
  have e3:=DO b sf.aP;unfold hJ uV;show gY (λt=>cM b (dj (pI sf args st).env t) (lR a0 t)) fn.ntmps+gW b (List.replicate sf.aP ⟨none,[]⟩) (List.replicate sf.aP [])+cA b G.ls st<=_;omega
 have h0:∀b,hJ (List.replicate sf.aP ⟨none,[]⟩) a0 (pI sf args st) G fn.ntmps b<=1:=λb=>Nat.le_trans (YN b) (h1 b);refine sR hO hL hP sf.body code _ s x w G _ a0 _ pP hFT h0 ado λw' G' gZ a' hp=>?_;obtain⟨sr,g1,g2,g3⟩:=hp;have adq:dQ (sf.mode.vh st.length wl) (sf.mode.oC st.length af) st s.st:=jW hK ado;have lG:xS sr sf.results=some v1->s.st=sr.st->a'.defers=[]/\∃u,(results fn a'.tmps).run P w'=.ok u w'/\∃u' G',(Ending.returned u)=.returned u'/\bC w' G' v u'/\jQ w' G' bV/\
   Mv w G (λb=>cv b args vs+cA b G.ls st) w' G' (λb=>gu b v u'+cA b G'.ls bV):=by
  intro Yl iu;obtain⟨u,r1,r2,r3⟩:=UP g1 Oq hnt Qs Yl;have hMv:Mv w G (λb=>cv b args vs+cA b G.ls st) w' G' (λb=>gu b v1 u+cA b G'.ls s.st):=by
   rw[iu];have g3:=g2.QM r3;exact g3.Qo YN (λb hb=>Nat.le_trans (g3.gu b hb) (YN b)) g3.one
  have ahz:jQ w' G' s.st:=by rw[iu];exact g1.inv
  obtain⟨G2,c1,c2,c3⟩:=Hv hI adq hc r2 ahz hMv;exact⟨g1.I6,u,r1,u,G2,rfl,c1,c2,c3⟩
 cases x with
 |normal=>
  simp only at g3;subst g3;exact lG Fs rfl
 |exit id=>cases Fs|ret v2=>
  cases Fs;exact lG g3.1 g3.2
 cases hc;cases hc;cases hc;cases hm;cases hm
theorem DP{sf:aH}{args:List AV}{st bV:aj}{v:AV}(h:ff O wl af sf args st=some (v,bV))(hm:sf.mode=.pure):v.ax=true/\bV=st:=by
 unfold ff at h;split at h;split at h;split at h;rw[hm]at h;simp only[Mode.lG]at h;split at h;rename_i hp;cases h;exact⟨hp,rfl⟩;cases h;cases h;cases h;cases h
theorem zM(hT:Jl S P)(hO:jX S P O)(hL:xg S P O)(hP:BH S O)(hK:rz O){f:Nat}{sf:aH}(hf:S f=some sf){args:List AV}{st bV:aj}{v:AV}(hc:fQ O wl af sf args st=some (v,bV)) :
  Oh P sf.eO/\(f<100000->sf.eO=f)/\
  ∀(w:World) (G:bp) (vs:List Value),cG w G args vs->jQ w G st->(∀b,cv b args vs+cA b G.ls st<=1)->
   Calls P sf.eO vs.toArray w λe w'=>∃u G',e=.returned u/\bC w' G' v u/\jQ w' G' bV/\
    Mv w G (λb=>cv b args vs+cA b G.ls st) w' G' (λb=>gu b v u+cA b G'.ls bV):=by
 unfold fQ at hc;split at hc;rename_i Kn;simp only[zk,Bool.and_eq_true,decide_eq_true_eq]at Kn;obtain⟨hm,hpa⟩:=Kn;simp only[Option.map_eq_some_iff]at hc;obtain⟨⟨v0,st0⟩,yJ,hx⟩:=hc;cases hx;obtain⟨He,rfl⟩:=DP yJ hm;obtain⟨h1,h2,h3⟩:=zK hT hO hL hP hK hf yJ;refine⟨h1,h2,λw G vs hR hI mh=>?_⟩;have YO:∀(i:Nat) c,args[i]?=some c->c.under 0=true:=λi c hc=>jf 0 c ((gH args).1 hpa c (dn hc));have hI0:jQ w (G.cut 0) []:=by
  have:=hI.Dt (n:=0) λid ob h=>by omega
  simpa using this
 have UQ:∀b,cA b (G.cut 0).ls []=0:=λb=>by simp[cA]
 refine(h3 w (G.cut 0) vs ⟨hR.1,λi c v e1 e2=>(hR.2 i c v e1 e2).Dt (YO i c e1)⟩ hI0 λb=>by rw[UQ b];have:=mh b;omega).mono λe w' he=>?_;obtain⟨u,G',rfl,r1,r2,r3⟩:=he;have sP:∀b,cA b G'.ls []=0:=λb=>by simp[cA]
 have hS:sJ w G w' ⟨G.ls,G'.mN⟩:=⟨λb o hi=>r3.jK.PW b o hi,λid loc hl=>⟨loc,hl,Nat.le_refl _,λ_=>rfl⟩⟩;have DN:∀b,b<w.heap.size->cv b args vs=0->eS w G w' ⟨G.ls,G'.mN⟩ b:=λb hb h0=>by
  have:=r3.vM b hb (by rw[h0,UQ b]);exact this
 have hIs:jQ w' ⟨G.ls,G'.mN⟩ st:=vP hI hS rfl (λb hb=>DN b (hI.held hb) (by have:=mh b;omega)) r2.nO;have fR:bC w' ⟨G.ls,G'.mN⟩ v0 u:=by
  have h0:=r1.Dt (n:=0) (jf 0 v0 He);exact h0.jK ⟨λb o hi=>⟨rfl,hi⟩,λid loc hl=>by simp[bp.cut]at hl⟩ λb _=>⟨rfl,rfl⟩
 refine⟨u,⟨G.ls,G'.mN⟩,rfl,fR,hIs,hS,λb hb=>?_,λb=>?_,λb hb h0=>DN b hb (by omega),r3.size,r3.os,r3.out⟩;have:=r3.gu b hb;rw[sP b,UQ b]at this;show gu b v0 u+cA b G.ls st<=_;omega;have h4:=r3.one b;rw[sP b]at h4;show gu b v0 u+cA b G.ls st<=1;by_cases hb:b<w.heap.size;have h5:=r3.gu b hb;rw[sP b,UQ b]at h5;have:=mh b;omega;have:cA b G.ls st=0:=by
  rcases Nat.eq_zero_or_pos (cA b G.ls st) with h|h;exact h;exact absurd (hI.held h) hb
 omega;exact zK hT hO hL hP hK hf hc
theorem Gg(hT:Jl S P):∀n,jX S P (qo S n)/\xg S P (qo S n)
 |0=>⟨λwl af f args st v bV h=>by simp[qo]at h,λwl af rs c s x s' h=>by simp[qo]at h⟩
 |n+1=>by
  obtain⟨i1,i2⟩:=Gg hT n;refine⟨λwl af f args st v bV h=>?_,λwl af rs c s x s' h code m hm w G β a hs h1 Q hQ=>?_⟩;simp only[qo]at h;split at h;rename_i sf hsf;exact⟨sf,hsf,zM hT i1 i2 (Jd S n) (F5 S n) hsf h⟩;cases h;simp only[qo]at h;refine Jh ?_;cases hc:iW (qo S n) wl af rs c s with
  |none=>rw[hc]at h;cases h|some y=>
   obtain⟨x1,s1⟩:=y;rw[hc]at h;refine sR i1 i2 (Jd S n) c code s s1 x1 w G β a _ hm hs h1 hc λw' G' gZ a' hp=>?_;cases x1 with
   |normal=>
    obtain⟨sr,g1,g2,g3⟩:=hp;simp only at g3;subst g3;exact i2 wl af rs c s1 x s' h code m hm w' G' gZ a' g1 g2.one Q λw2 G2 Qv a2 uv=>hQ w2 G2 Qv a2 (uv.trans g2)
   |exit id=>cases h;exact hQ w' G' gZ a' hp|ret v=>cases h;exact hQ w' G' gZ a' hp
end Ax
namespace Ax
open Go
variable {P:Program}{w w':World}{G G':bp}
def CI(P:Program)(ts:List TypeId):Bool:=ts.all λt=>decide (t<P.types.size)&&match P.underlying t with
 |some .bool|some (.int _)|some .string=>true|some (.slice e)=>ts.contains e&&decide (0<P.cellsOf e)|some (.struct fs)=>fs.toList.all λf=>ts.contains f.type|_=>false
mutual
inductive Ty (P:Program):TypeId->List AV->Prop
 |bool {t:TypeId} (h:P.underlying t=some .bool) (b:Bool):Ty P t [.bool b]
 |int {t:TypeId} {k:IntKind} (h:P.underlying t=some (.int k)) (n:Int) (h1:k.min<=n) (h2:n<=k.max):Ty P t [.int k n]
 |str {t:TypeId} (h:P.underlying t=some .string) (l:List UInt8) (hn:l.length<=maxLen):Ty P t [.str l]
 |U {t e:TypeId} (h:P.underlying t=some (.slice e)):Ty P t [.U]
 |mL {t e:TypeId} (h:P.underlying t=some (.slice e)):Ty P t [.mL]
 |dM {t e:TypeId} (h:P.underlying t=some (.slice e)) (rows:List (List AV)) (hn:rows.length<=maxLen) (hl:∀r∈rows,r.length=P.cellsOf e) (h2:∀r∈rows,Ty P e r):Ty P t [.dM (P.cellsOf e) rows]
 |adr {t:TypeId} {fs:Array Field} (h:P.underlying t=some (.struct fs)) (as:List AV) (h2:QS P fs.toList as):Ty P t as
inductive QS (P:Program):List Field->List AV->Prop
 |nil:QS P [] []
 |cons {f:Field} {fs:List Field} {as bs:List AV} (hl:as.length=P.cellsOf f.type) (h1:Ty P f.type as) (h2:QS P fs bs):QS P (f::fs) (as++bs)
end
abbrev G0:bp:=⟨[],λ_=>none⟩
def yp(as:List AV):Prop:=AV.eZ as=true/\AV.ai as=true/\AV.bq as=true
theorem qN{a:AV}(h1:a.cD=true)(h2:a.ax=true)(h3:a.cy=true):yp [a]:=by
 refine⟨?_,?_,?_⟩<;>simp[AV.eZ,AV.ai,AV.bq,h1,h2,h3]
theorem Hw{as bs:List AV}(h:yp as)(k:yp bs):yp (as++bs):=by
 obtain⟨h1,h2,h3⟩:=h;obtain⟨k1,k2,k3⟩:=k;refine⟨(de _).2 λc hc=>?_,(gH _).2 λc hc=>?_,?_⟩;rcases List.mem_append.1 hc with h|h;exact(de _).1 h1 c h;exact(de _).1 k1 c h;rcases List.mem_append.1 hc with h|h;exact(gH _).1 h2 c h;exact(gH _).1 k2 c h;simp only[AV.bq,List.all_append,Bool.and_eq_true]at *;exact⟨h3,k3⟩
theorem tF{a:AV}{v:Value}(h:bC w G a v):cG w G [a] [v]:=⟨rfl,λi c u h1 h2=>by
 cases i with
 |zero=>simp at h1 h2;subst h1;subst h2;exact h|succ i=>simp at h1⟩
theorem UR{b o:Nat}(h:b<w.heap.size):Imm w G0 b o:=⟨h,λp hp=>by cases hp⟩
section
variable {H:Type}{enc:TypeId×Value->H}{ts:List TypeId}
theorem Gh{cs:List Value}:∀(fs:List Field)(o:Nat),(∀(j:Nat) f,fs[j]?=some f->f.offset=o+((fs.take j).map λf=>P.cellsOf f.type).sum)->cs.length=o+(fs.map λf=>P.cellsOf f.type).sum->
  (∀f∈fs,∃as,cG w G0 as ((cs.drop f.offset).take (P.cellsOf f.type))/\Ty P f.type as/\yp as)->∃as,cG w G0 as (cs.drop o)/\QS P fs as/\yp as
 |[],o,_,hl,_=>by
  simp at hl;have:cs.drop o=[]:=List.drop_eq_nil_of_le (by omega);rw[this];exact⟨[],⟨rfl,λi c v h=>by simp at h⟩,.nil,rfl,rfl,rfl⟩
 |f::fs,o,ho,hl,hf=>by
  have e0:f.offset=o:=by have:=ho 0 f rfl;simpa using this
  simp only[List.map_cons,List.sum_cons]at hl;obtain⟨bs,h1,h2,h3⟩:=Gh fs (o+P.cellsOf f.type) (λj g hg=>by
   have:=ho (j+1) g (by simpa using hg);simp only[List.take_succ_cons,List.map_cons,List.sum_cons]at this;omega) (by omega) (λg hg=>hf g (by simp[hg]))
  obtain⟨as,k1,k2,k3⟩:=hf f (by simp);rw[e0]at k1;have hlen:as.length=P.cellsOf f.type:=by
   rw[k1.1,List.length_take,List.length_drop];omega
  refine⟨as++bs,?_,.cons hlen k2 h2,Hw k3 h3⟩;have:cs.drop o=(cs.drop o).take (P.cellsOf f.type)++cs.drop (o+P.cellsOf f.type):=by
   rw[<-List.drop_drop,List.take_append_drop]
  rw[this];exact cG.append k1 h1
theorem US(hK:Kids P (· < P.types.size))(hp:CI P ts=true):∀(n:Nat)(t:TypeId)(cs:List Value)(x:DataW H×List MemPlace),t∈ts->DataW.trod enc P w 0 (λ_=>true) true n t cs=some x->
  ∃as,cG w G0 as cs/\Ty P t as/\yp as:=by
 intro n;induction n with
 |zero=>intro t cs x _ h;simp[DataW.trod]at h|succ n ih=>
  intro t cs x ht h;have K7:=List.all_eq_true.1 hp t ht;simp only[Bool.and_eq_true,decide_eq_true_eq]at K7;obtain⟨aX,K7⟩:=K7;split at K7;rename_i hu;obtain⟨b,rfl,rfl⟩:=DataW.trod_bool hu h;exact⟨[.bool b],tF (.bool b),.bool hu b,qN rfl rfl rfl⟩;rename_i k hu;obtain⟨m,rfl,rfl,hw⟩:=DataW.trod_int hu h;simp only[Lit.wf,Bool.and_eq_true,decide_eq_true_eq]at hw;exact⟨[.int k m],tF (.int k m),.int hu m hw.1 hw.2,qN rfl rfl rfl⟩;rename_i hu;obtain⟨s,rfl,rfl,cC⟩:=DataW.trod_string hu h;exact⟨[.str s.data.toList],tF (.str _ s rfl),.str hu _ (by simpa using cC),qN rfl rfl rfl⟩;rename_i e hu;simp only[Bool.and_eq_true,List.contains_eq_mem,decide_eq_true_eq]at K7;obtain⟨he,dH⟩:=K7;rcases DataW.trod_slice hu h with⟨rfl,rfl⟩|⟨a,len,cap,elems,rest,m,hm,rfl,rfl,_,hlc,hcm,E8,ads,Ql,_⟩;exact⟨[.U],tF .U,.U hu,qN rfl rfl rfl⟩;cases hm;by_cases g8:cap=0;subst g8;have:len=0:=by omega
  subst this;exact⟨[.mL],tF (.mL a),.mL hu,qN rfl rfl rfl⟩;have cZ:∀i,i<cap->∃Iu y,w.cells? 0 (a.add (i*P.cellsOf e)) (P.cellsOf e)=some Iu/\DataW.trod enc P w 0 (λ_=>true) true n e Iu=some y:=by
   intro i hi;by_cases E9:i<len;have h1:=ads i E9;have h2:∃y,elems[i]?=some y:=⟨_,List.getElem?_eq_getElem (by omega)⟩;obtain⟨y,hy⟩:=h2;rw[hy,Option.bind_eq_some_iff]at h1;obtain⟨Iu,e1,e2⟩:=h1;exact⟨Iu,y,e1,e2⟩;obtain⟨nj,hr⟩:=Ql rfl;have h1:=hr (i-len) (by omega);rw[show len+(i-len)=i by omega]at h1;have h2:∃y,rest[i-len]?=some y:=⟨_,List.getElem?_eq_getElem (by omega)⟩;obtain⟨y,hy⟩:=h2;rw[hy,Option.bind_eq_some_iff]at h1;obtain⟨Iu,e1,e2⟩:=h1;exact⟨Iu,y,e1,e2⟩
  have Xn:a.spot=none:=by
   obtain⟨Iu,y,e1,_⟩:=cZ 0 (by omega);obtain⟨_,g2,g3⟩:=World.cells?_some e1;have h0:=g3 0 dH;have:∃v,Iu[0]?=some v:=⟨_,List.getElem?_eq_getElem (by omega)⟩;obtain⟨v,hv⟩:=this;rw[hv]at h0;have:=World.cell?_spot h0;simpa [Addr.add] using this
  obtain⟨jF,off,spot⟩:=a;simp only at Xn;subst Xn;have NX:∀off k,Addr.add ⟨jF,off,none⟩ k=⟨jF,off+k,none⟩:=λoff k=>by
   unfold Addr.add;split;rename_i h0;subst h0;rfl
   rfl
  have Jn:∀i,i<len->∃r,(r.length=P.cellsOf e/\Ty P e r/\yp r)/\∀(j:Nat) c,r[j]?=some c->∃v,w.cell? ⟨jF,off+(i*P.cellsOf e+j),none⟩=some v/\bC w G0 c v:=by
   intro i hi;obtain⟨Iu,y,e1,e2⟩:=cZ i (by omega);obtain⟨_,g2,g3⟩:=World.cells?_some e1;obtain⟨r,r1,r2,r3⟩:=ih e Iu y he e2;have nj:r.length=P.cellsOf e:=(by rw[r1.1,g2]);refine⟨r,⟨nj,r2,r3⟩,λj c hc=>?_⟩;have hj:j<P.cellsOf e:=(by rw[<-nj];exact(List.getElem?_eq_some_iff.1 hc).1);have h0:=g3 j hj;have hv:∃v,Iu[j]?=some v:=⟨_,List.getElem?_eq_getElem (by omega)⟩;obtain⟨v,hv⟩:=hv;rw[hv,NX,NX]at h0;refine⟨v,by rw[<-h0];congr 2;omega,r1.2 j c v hc hv⟩
  have key:∀m,m<=len->∃rows:List (List AV),rows.length=m/\∀(i:Nat) r,rows[i]?=some r->(r.length=P.cellsOf e/\Ty P e r/\yp r)/\∀(j:Nat) c,r[j]?=some c->∃v,w.cell? ⟨jF,off+(i*P.cellsOf e+j),none⟩=some v/\bC w G0 c v:=by
   intro m;induction m with
   |zero=>intro _;exact⟨[],rfl,λi r h=>by simp at h⟩|succ m ihm=>
    intro hm;obtain⟨rows,l1,l2⟩:=ihm (by omega);obtain⟨r,hr⟩:=Jn m (by omega);refine⟨rows++[r],by simp[l1],λi r' hi=>?_⟩;by_cases him:i<m;rw[List.getElem?_append_left (by omega)]at hi;exact l2 i r' hi;rw[List.getElem?_append_right (by omega)]at hi;have:i-rows.length=0:=by
     rcases Nat.eq_zero_or_pos (i-rows.length) with h|h;exact h;rw[List.getElem?_eq_none (by simp;omega)]at hi;cases hi
    rw[this]at hi;simp at hi;subst hi;have:i=m:=by omega
    subst this;exact hr
  obtain⟨rows,l1,l2⟩:=key len (Nat.le_refl _);have AO:∀r∈rows,r.length=P.cellsOf e/\Ty P e r/\yp r:=λr hr=>by
   obtain⟨i,hi,rfl⟩:=List.mem_iff_getElem.1 hr;exact(l2 i _ (List.getElem?_eq_getElem hi)).1
  have fR:bC w G0 (.dM (P.cellsOf e) rows) (.slice (some ⟨jF,off,none⟩) rows.length cap):=by
   refine .dM (P.cellsOf e) rows ⟨jF,off,none⟩ cap rfl (by omega) ?_ (λr hr=>(AO r hr).2.2.1) (λr hr=>(AO r hr).2.2.2.1) (λr hr=>(AO r hr).2.2.2.2) (λi r j c h1 h2=>?_) (λi r j c v h1 h2 h3=>?_);simp only[bL,List.all_eq_true,beq_iff_eq];exact λr hr=>(AO r hr).1;obtain⟨v,e1,_⟩:=(l2 i r h1).2 j c h2;exact⟨UR (World.block_lt_of_cell? w ⟨jF,off+(i*P.cellsOf e+j),none⟩ e1:jF<w.heap.size),v,e1⟩;obtain⟨v',e1,e2⟩:=(l2 i r h1).2 j c h2;rw[e1]at h3;cases h3;exact e2
  rw[l1]at fR;exact⟨[.dM (P.cellsOf e) rows],tF fR,(.dM hu rows (by omega) (λr hr=>(AO r hr).1) (λr hr=>(AO r hr).2.1)),qN rfl rfl rfl⟩;rename_i fs hu;simp only[List.all_eq_true,List.contains_eq_mem,decide_eq_true_eq]at K7;obtain⟨xs,m,hm,rfl,hl,hlen,hf⟩:=DataW.trod_struct hu h;cases hm;obtain⟨_,k2,k3⟩:=hK.struct aX hu;obtain⟨as,h1,h2,h3⟩:=Gh (P:=P) (w:=w) (cs:=cs) fs.toList 0 (λj f hf=>by rw[k3 j f hf];omega) (by rw[hl,k2];omega) λf hfm=>by
   obtain⟨i,hi,rfl⟩:=List.mem_iff_getElem.1 hfm;have hg:fs.toList[i]?=some fs.toList[i]:=List.getElem?_eq_getElem hi;have h1:=hf i fs.toList[i] (by simp);have hy:∃y,xs[i]?=some y:=⟨_,List.getElem?_eq_getElem (by rw[hlen];simpa using hi)⟩;obtain⟨y,hy⟩:=hy;rw[hy]at h1;exact ih _ _ y (K7 _ hfm) h1
  exact⟨as,by simpa using h1,.adr hu as h2,h3⟩;cases K7
def TyV(P:Program)(t:TypeId)(a:AV):Prop:=(∃fs as,P.underlying t=some (.struct fs)/\a=.agg as/\Ty P t as)\/((∀fs,P.underlying t≠some (.struct fs))/\Ty P t [a])
def UT(P:Program):List TypeId->List AV->Prop
 |[],[]=>True|t::ts,a::as=>TyV P t a/\UT P ts as|_,_=>False
theorem QT(hK:Kids P (· < P.types.size))(hp:CI P ts=true){r:Reach}{base:Nat}{t:TypeId}{v:Value}{d:DataW H}{ps:List MemPlace}(ht:t∈ts)(cY:Value.okWide P w r base t v)
  (h:DataW.Trod enc P w 0 (λ_=>true) true t v d ps):∃a,bC w G0 a v/\TyV P t a/\a.cD=true:=by
 obtain⟨n,hn⟩:=h;obtain⟨as,h1,h2,h3⟩:=US hK hp n t _ _ ht hn;have one:v.cells = #[v]->(∀fs,P.underlying t≠some (.struct fs))->∃a,bC w G0 a v/\TyV P t a/\a.cD=true:=by
  intro hc hs;rw[hc]at h1;obtain⟨e1,e2⟩:=h1;match as,e1,e2,h2,h3 with
  |[a],_,e2,h2,h3=>exact⟨a,e2 0 a v rfl rfl,.inr ⟨hs,h2⟩,by have:=h3.1;simpa [AV.eZ] using this⟩
 have K7:=List.all_eq_true.1 hp t ht;simp only[Bool.and_eq_true,decide_eq_true_eq]at K7;obtain⟨_,K7⟩:=K7;split at K7;rename_i hu;obtain⟨b,rfl⟩:=WideShapes.okWide_bool hu cY;exact one rfl λfs h=>by rw[hu]at h;cases h
 rename_i k hu;obtain⟨b,rfl⟩:=WideShapes.okWide_int hu cY;exact one rfl λfs h=>by rw[hu]at h;cases h
 rename_i hu;obtain⟨b,rfl⟩:=WideShapes.okWide_string hu cY;exact one rfl λfs h=>by rw[hu]at h;cases h
 rename_i e hu;obtain⟨a,l,c,rfl⟩:=WideShapes.okWide_slice hu cY;exact one rfl λfs h=>by rw[hu]at h;cases h
 rename_i fs hu;obtain⟨cs,rfl,_⟩:=WideShapes.okWide_struct hu cY;refine⟨.agg as,.agg as cs (by simpa [Value.cells] using h1.1) λi c v e1 e2=>h1.2 i c v e1 (by simpa [Value.cells] using e2),.inl ⟨fs,as,hu,rfl,h2⟩,?_⟩;simp only[AV.cD];exact h3.1;cases K7
theorem Gi(hK:Kids P (· < P.types.size))(hp:CI P ts=true){r:Reach}{base:Nat}:∀{us:List TypeId}{vs:List Value}{ds:List (DataW H)}{ps:List MemPlace},(∀t∈us,t∈ts)->
  (∀(j:Nat) t v,us[j]?=some t->vs[j]?=some v->Value.okWide P w r base t v)->DataW.TrodAll enc P w 0 (λ_=>true) true us vs ds ps->∃as,cG w G0 as vs/\UT P us as/\AV.eZ as=true
 |[],[],[],_,_,_,_=>⟨[],⟨rfl,λi c v h=>by simp at h⟩,trivial,rfl⟩
 |t::us,v::vs,d::ds,ps,hu,hv,h=>by
  obtain⟨p,q,h1,h2,rfl⟩:=h;obtain⟨a,a1,a2,a3⟩:=QT hK hp (hu t (by simp)) (hv 0 t v rfl rfl) h1;obtain⟨as,b1,b2,b3⟩:=Gi hK hp (λt ht=>hu t (by simp[ht])) (λj t v e1 e2=>hv (j+1) t v (by simpa using e1) (by simpa using e2)) h2;exact⟨a::as,cG.cons a1 b1,⟨a2,b2⟩,by simp[AV.eZ,a3,b3]⟩
 |[],_::_,_,_,_,_,h=>h.elim|[],[],_::_,_,_,_,h=>h.elim|_::_,[],_,_,_,_,h=>h.elim|_::_,_::_,[],_,_,_,h=>h.elim
theorem yq(hK:Kids P (· < P.types.size))(hz:∀t e,t<P.types.size->P.underlying t=some (.slice e)->0<P.cellsOf e){sp:Nat->Bool}(QU:∀b,b<w.heap.size->w'.heap[b]?=w.heap[b]?):∀{us:List TypeId}{vs:List Value}{ds:List (DataW H)}{ps:List MemPlace},(∀t∈us,t<P.types.size)->
  DataW.TrodAll enc P w 0 (λ_=>true) true us vs ds ps->(∀p∈ps,sp p.block=true)->DataW.TrodAll enc P w' 0 sp true us vs ds ps
 |[],[],[],_,_,h,_=>h|t::us,v::vs,d::ds,ps,hu,h,hs=>by
  obtain⟨p,q,⟨n,h1⟩,h2,rfl⟩:=h;refine⟨p,q,⟨n,DataW.trod_stays hK (fun {t e}=>hz t e) (λh=>by cases h) (hu t (by simp)) h1 (λx hx=>?_) λx hx=>hs x (by simp[hx])⟩,yq hK hz QU (λt ht=>hu t (by simp[ht])) h2 (λx hx=>hs x (by simp[hx])),rfl⟩;have aX:=DataW.trod_lt n t _ _ h1 x hx;cases x with
  |cell b off=>simp only[World.sameAt,World.cell?,QU b aX]|map b=>exact QU b aX
 |[],_::_,_,_,_,h,_=>h.elim|[],[],_::_,_,_,h,_=>h.elim|_::_,[],_,_,_,h,_=>h.elim|_::_,_::_,[],_,_,h,_=>h.elim
theorem QV(w:World):jQ w G0 []:=⟨rfl,λid ob loc h=>by simp at h,λb p h=>by cases h⟩
theorem Hx{may:MemPlace->Prop}(h1:w'.os=w.os)(h2:w'.output=w.output)(h3:∀b,b<w.heap.size->w'.heap[b]?=w.heap[b]?):w.keptBut w' may:=by
 refine⟨h1,h2,λi hi=>?_⟩;rw[h3 i hi];have:=Array.getElem?_eq_getElem hi;rw[this];cases w.heap[i] with
 |cells c t fr=>exact⟨rfl,rfl,rfl,λ_ _=>rfl⟩|map es clock=>exact .inr ⟨rfl,rfl⟩|_=>rfl
theorem Jo(_hsz:w.heap.size<=w'.heap.size)(h3:∀b,b<w.heap.size->w'.heap[b]?=w.heap[b]?)(a:Addr)(ha:a.block<w.heap.size):w'.frozen? a=w.frozen? a:=by
 simp only[World.frozen?,h3 a.block ha]
end
end Ax
namespace Ax
open Go Go.ChangeShapes
variable {P:Program}{w w':World}{G G':bp}{H:Type}{enc:TypeId×Value->H}
theorem QW{f:Func}{s:ChangeSpec}{lu fresh handsOn uW:Bool}{W W':World}{args:Array Value}{ds gs:List (DataW H)}{before:List MemPlace}{tb:TypeId}
  (hK:Kids P (· < P.types.size))(hz:∀t e,t<P.types.size->P.underlying t=some (.slice e)->0<P.cellsOf e)(UU:∀t∈f.params.toList,t<P.types.size)
  (hW:DataW.Whole enc P f.params.toList s.vars lu W args.toList ds gs before) (hv:s.vars=[]) (Fq:f.resultTypes = #[tb]) (htb:P.underlying tb=some .bool)
  (hr:(s.fn H ds).results=[.lit (.bool true)]) (ha:(s.fn H ds).args=ds) (Cb:(s.fn H ds).vars=[])
  (h1:W'.os=W.os) (h2:W'.output=W.output) (h4:W.heap.size<=W'.heap.size) (h3:∀b,b<W.heap.size->W'.heap[b]?=W.heap[b]?) :
  s.post enc P f lu fresh handsOn uW W args (.bool true) W':=by
 have hW':=hW;obtain⟨p,q,hA,hV,rfl,Cc,hn⟩:=hW';rw[hv]at hV;cases gs with
 |cons _ _=>exact hV.elim|nil=>
  have hq:q=[]:=hV;subst hq;simp only[List.append_nil]at hW Cc hn;have iu:∀sp:Nat->Bool,(∀x∈p,sp x.block=true)->DataW.TrodAll enc P W' 0 sp true f.params.toList args.toList ds p:=λsp nF=>yq hK hz h3 UU hA nF;have UW:∀x∈p,x.block<W.heap.size:=DataW.TrodAll.lt hA;have hold:∀x∈p,(λb=>decide (b<W.heap.size)) x.block=true:=λx hx=>by simpa using UW x hx
  have nj:(Value.bool true).resultList f.resultTypes.size=[.bool true]:=by rw[Fq];rfl
  have Oq:∀(b:Nat) (sp:Nat->Bool) (hd:Bool),DataW.TrodAll enc P W' b sp hd f.resultTypes.toList ((Value.bool true).resultList f.resultTypes.size) (s.fn H (ds++[])).results []:=λb sp hd=>by
   rw[List.append_nil,hr,nj,Fq];exact⟨[],[],⟨1,by simp[DataW.trod,htb,Value.cells]⟩,rfl,rfl⟩
  refine⟨ds,[],p,[],p,[],hW,Oq _ _ _,by rw[List.append_nil,ha];exact iu _ hold,by rw[hv,List.append_nil,Cb];rfl,Hx h1 h2 h3,λ_=>?_⟩;refine⟨λj t r e1 e2=>?_,[DataW.lit (.bool true)]++ds,[],p,⟨p,[],?_,(by rw[hv];exact(rfl:DataW.TrodVars enc P W' (λ_=>true) [] [] [])),by simp,?_,?_⟩,?_⟩;rw[Fq]at e1;rw[nj]at e2;cases j with
  |zero=>
   simp at e1 e2;subst e1;subst e2;exact RowKit.okWide_bool_mk htb true
  |succ j=>simp at e1
  have:=trodAll_append (iu _ (λ_ _=>rfl)) (Oq 0 (λ_=>true) true);simpa [hr] using this;intro b off hp;rw[Jo h4 h3 _ (UW _ hp)];exact Cc b off hp;exact hn;intro x hx _;exact hx
theorem K8{S:Nat->Option aH}(hT:Jl S P):jX S P (bh S):=λwl af f args st v bV h=>by
 obtain⟨n,hn⟩:=(th S).call _ _ _ _ _ _ h;exact(Gg hT n).1 wl af f args st v bV hn
theorem Ot{S:Nat->Option aH}(hT:Jl S P){f:FuncId}(hf:f<100000){as:List AV}{bV:aj}(hc:(bh S).call 0 0 f as []=some (.bool true,bV)){W:World}{args:Array Value}(hR:cG W G0 as args.toList)(jy:AV.eZ as=true) :
  Calls P f args W λe W'=>e=.returned (.bool true)/\W'.os=W.os/\W'.output=W.output/\W.heap.size<=W'.heap.size/\∀b,b<W.heap.size->W'.heap[b]?=W.heap[b]?:=by
 obtain⟨sf,h1,h2,h3,h4⟩:=K8 hT _ _ _ _ _ _ _ hc;have hz:∀b,cv b as args.toList+cA b G0.ls []=0:=λb=>by rw[eF b _ _ jy];simp[cA]
 have:=h4 W G0 args.toList hR (QV W) (λb=>by rw[hz b];omega);rw[h3 hf]at this;refine this.mono λe W' h=>?_;obtain⟨u,G',rfl,r1,r2,r3⟩:=h;refine⟨by rw[bC.jT r1],r3.os,r3.out,r3.size,λb hb=>(r3.vM b hb (hz b)).2⟩
structure adt (S:Nat->Option aH)(C:Checked)(ts:List TypeId):Prop where
 iO:ownKnob C.prog.godebug=none
 tab:Jl S C.prog
 aC:Kids C.prog (· < C.prog.types.size)
 ahB:∀t e,t<C.prog.types.size->C.prog.underlying t=some (.slice e)->0<C.prog.cellsOf e
 plain:CI C.prog ts=true
theorem law_lifted{S:Nat->Option aH}{C:Checked}{ts:List TypeId}(hh:adt S C ts){os:Os}(started:os.Started){f:FuncId}{fn:Func}{s:ChangeSpec}{conds:List PathCond}{lu fresh handsOn uW:Bool}{tb:TypeId}
  (YP:C.prog.inits.idxOf? f=none)(Gf:C.prog.funcs[f]?=some fn)(hf:f<100000)
  (witness:∃(w:World) (tape:Tape) (i:Input),w.os=os/\(w.forCall tape i).Shaped C.prog/\i.vars=[]/\Input.okWide C.prog (w.forCall tape i) .any w.heap.size f i/\
   s.pre6 enc C.prog fn conds lu (w.forCall tape i).memory i.args/\({}:Assume).holds C.prog (lone (Frame.enter C.prog f i.args .normal) [] (w.forCall tape i)))
  (UU:(fn.params.toList.all λt=>ts.contains t&&decide (t<C.prog.types.size))=true) (hv:s.vars=[]) (Fq:fn.resultTypes = #[tb]) (htb:C.prog.underlying tb=some .bool)
  (adu:∀ds:List (DataW H),ds.length=fn.params.toList.length->(s.fn H ds).results=[.lit (.bool true)]/\(s.fn H ds).args=ds/\(s.fn H ds).vars=[])
  (ct:∀as,UT C.prog fn.params.toList as->∃bV,(bh S).call 0 0 f as []=some (.bool true,bV)) :
  ReturnsInHanded {} C os f .any (s.pre6 enc C.prog fn conds lu) (s.post enc C.prog fn lu fresh handsOn uW):=by
 refine returnsInHanded_of_change hh.iO started YP Gf witness ?_;intro W base args ds gs before cY hW _ _;have hp:∀t∈fn.params.toList,t∈ts/\t<C.prog.types.size:=λt ht=>by
  have:=List.all_eq_true.1 UU t ht;simpa using this
 obtain⟨p,q,hA,hV,hb,_,_⟩:=id hW;obtain⟨as,a1,a2,a3⟩:=Gi hh.aC hh.plain (λt ht=>(hp t ht).1) (λj t v e1 e2=>cY j t v (by simpa using e1) (by simpa using e2)) hA;obtain⟨bV,hc⟩:=ct as a2;have hlen:∀(us:List TypeId) (vs:List Value) (ds:List (DataW H)) (p:List MemPlace),DataW.TrodAll enc C.prog W 0 (λ_=>true) true us vs ds p->ds.length=us.length:=by
  intro us;induction us with
  |nil=>intro vs ds p h;cases vs with
   |nil=>cases ds with
    |nil=>rfl|cons _ _=>exact h.elim
   |cons _ _=>cases ds<;>exact h.elim
  |cons t us ih=>intro vs ds p h;cases vs with
   |nil=>cases ds<;>exact h.elim|cons v vs=>cases ds with
    |nil=>exact h.elim|cons d ds=>
     obtain⟨_,_,_,h2,_⟩:=h;simp[ih vs ds _ h2]
 obtain⟨s1,s2,s3⟩:=adu ds (hlen _ _ _ _ hA);refine(Ot hh.tab hf hc a1 a3).mono λe W' h=>?_;obtain⟨rfl,h1,h2,h3,h4⟩:=h;exact⟨_,rfl,QW hh.aC hh.ahB (λt ht=>(hp t ht).2) hW hv Fq htb s1 s2 s3 h1 h2 h3 h4⟩
end Ax
namespace Ax
open Go
def xu(S:Nat->Option aH)(P:Program):Nat->List (Option aH)->Bool
 |_,[]=>true|k,none::l=>xu S P (k+1) l|k,some sf::l=>MU S P sf&&(decide (100000<=k)||sf.eO==k)&&xu S P (k+1) l
theorem uw{S:Nat->Option aH}{P:Program}:∀{l:List (Option aH)}{k:Nat},xu S P k l=true->∀(i:Nat) sf,l[i]?=some (some sf)->MU S P sf=true/\(k+i<100000->sf.eO=k+i)
 |[],_,_,i,sf,h=>by simp at h|none::l,k,h,i,sf,hi=>by
  cases i with
  |zero=>simp at hi|succ i=>
   have:=uw (l:=l) (k:=k+1) h i sf (by simpa using hi);rw[show k+1+i=k+(i+1) by omega]at this;exact this
 |some s::l,k,h,i,sf,hi=>by
  simp only[xu,Bool.and_eq_true,Bool.or_eq_true,decide_eq_true_eq,beq_iff_eq]at h;obtain⟨⟨h1,h2⟩,h3⟩:=h;cases i with
  |zero=>
   simp at hi;subst hi;exact⟨h1,λhk=>by omega⟩
  |succ i=>
   have:=uw (l:=l) (k:=k+1) h3 i sf (by simpa using hi);rw[show k+1+i=k+(i+1) by omega]at this;exact this
theorem UX{T5 GR:List (Option aH)}{P:Program}(h1:xu (PU T5 GR) P 0 T5=true)(h2:xu (PU T5 GR) P 100000 GR=true):Jl (PU T5 GR) P:=by
 intro f sf hf;unfold PU at hf;split at hf;cases hg:T5[f]? with
 |none=>rw[hg]at hf;cases hf|some x=>
  rw[hg]at hf;simp only[Option.getD_some]at hf;subst hf;have:=uw h1 f sf hg;exact⟨this.1,λh=>by have:=this.2 (by omega);omega⟩
 rename_i aX;cases hg:GR[f-100000]? with
 |none=>rw[hg]at hf;cases hf|some x=>
  rw[hg]at hf;simp only[Option.getD_some]at hf;subst hf;have:=uw h2 (f-100000) sf hg;exact⟨this.1,λh=>absurd h aX⟩
end Ax
