/- Part of a proof. -/
import Derived.Test.YtachcambnjecnaaGreatA4
import Derived.Scope
import Derived.ChangeStays
import Derived.ChangeSame
import Derived.ChangeOld
import Derived.ChangeArms
import Derived.JoinedOf
import Derived.RowKit3
import Derived.ReadAgain
import Derived.Handed

namespace Ax
open Go
variable {S:Nat->Option aH}{P:Program}{O:lE}{wl af n:Nat}
variable {dG:Array Oper}{m:List aK}{cn:List (Nat×Nat)}{T:Nat->St}{xp:Option (Nat×Nat×aj)}
structure Spc (S:Nat->Option aH)(O:lE)(wl af:Nat)(m:List aK)(cn:List (Nat×Nat))(T:Nat->St)(p q:Nat)(X:aj):Prop where
 lt:p<q
 ql:q<m.length
 mem:(100000+p,q)∈cn
 wp:∀a,m[p]?=some a->a.op.pW S=true/\a.guard=none
 wq:∀a,m[q]?=some a->a.op.pW S=true/\a.guard=none
 gap:∀(j:Nat) o,p<j->j<q->m[j]?=some o->o.op.pW S=false
 un:∀i j,i<100000->(100000+i,j)∈cn->i=p/\j=q
 cl:∀k w,(k,w)∈cn->k<100000->w=p\/w=q->(100000*(k+2)+p,q)∈cn
 x1:∀a,m[q]?=some a->∀e bx gC,tT O wl af a.op (a.args.map (Kv (T q).env)) (T q).st bx=some (e,(T (q+1)).st,gC)->tT O wl af a.op (a.args.map (Kv (T q).env)) (T p).st bx=some (e,X,gC)
 x2:∀a,m[p]?=some a->∀e bx gC,tT O wl af a.op (a.args.map (Kv (T p).env)) (T p).st bx=some (e,(T (p+1)).st,gC)->tT O wl af a.op (a.args.map (Kv (T p).env)) X bx=some (e,(T (q+1)).st,gC)
 rd:∀k,(100000*(k+2)+p,q)∈cn->∀o,m[k]?=some o->cW O wl af o (T k) (T (k+1)) X=true
structure Kp (S:Nat->Option aH)(P:Program)(O:lE)(wl af n:Nat)(dG:Array Oper)(m:List aK)(cn:List (Nat×Nat))(T:Nat->St)(xp:Option (Nat×Nat×aj)):Prop where
 dr:Xb S P dG n m cn
 tx:Text S O wl af m T
 pr:∀q w,q<100000->(q,w)∈cn->∀o,m[q]?=some o->cW O wl af o (T q) (T (q+1)) (T w).st=true/\cW O wl af o (T q) (T (q+1)) (T (w+1)).st=true
 sn:xp=none->∀i j,i<100000->(100000+i,j) ∉ cn
 sp:∀p q X,xp=some (p,q,X)->Spc S O wl af m cn T p q X
 bo:∀(i:Nat) so j,m[i]?=some so->so.op.bg=some j->mc j (T 0).env=true
 pu:BF S O
theorem CE{i j:Nat}{a b:aK}(h:lu S cn i j a b=true):(∀t,t∈rA a->t ∉ yM b/\t ∉ rA b)/\(∀t,t∈rA b->t ∉ yM a):=by
 simp only[lu,Bool.and_eq_true,List.all_eq_true,Bool.not_eq_true',List.contains_eq_mem,decide_eq_false_iff_not]at h;exact⟨h.1.1.1.1.1.1,h.1.1.1.1.1.2⟩
theorem Ho{i j:Nat}{a b:aK}(h:lu S cn i j a b=true):(∀x,a.op.bW=some x->b.op.bA≠some x)/\(∀x,b.op.bW=some x->a.op.bA≠some x):=by
 simp only[lu,Bool.and_eq_true]at h;obtain⟨⟨⟨⟨⟨_,h1⟩,h2⟩,_⟩,_⟩,_⟩:=h;refine⟨λx hx=>?_,λx hx=>?_⟩;rw[hx]at h1;simpa using h1;rw[hx]at h2;simpa using h2
theorem zC{i j:Nat}{a b:aK}(h:lu S cn i j a b=true):(a.op.pW S=true/\b.op.pW S=true->(100000+i,j)∈cn)/\(a.op.KT=true\/b.op.pW S=false\/a.op.pW S=true\/(i,j)∈cn)/\(b.op.KT=true\/a.op.pW S=false\/b.op.pW S=true\/(j,i)∈cn):=by
 simp only[lu,Bool.and_eq_true,Bool.or_eq_true,Bool.not_eq_true',Bool.and_eq_false_iff,List.contains_eq_mem,decide_eq_true_eq]at h;obtain⟨⟨⟨_,h3⟩,h4⟩,h5⟩:=h;refine⟨λ⟨x,y⟩=>?_,by rcases h4 with ((h|h)|h)|h<;>simp[h],by rcases h5 with ((h|h)|h)|h<;>simp[h]⟩;rcases h3 with (h|h)|h;rw[x]at h;cases h;rw[y]at h;cases h;exact h
theorem Xd{op:eC}{x:Nat}(h:op.bW=some x):op.bA=some x:=by
 cases op<;>simp[eC.bW]at h<;>simp[eC.bA,h]
structure E3 (dG:Array Oper)(m:List aK)(D:Nat->Bool)(k:Nat)(o:Oper)(so:aK):Prop where
 down:Qt dG D
 ho:dG[k]?=some o
 hs:m[k]?=some so
 pre:∀p∈oI o,D p=true
 new:D k=false
theorem E3.lu(hR:Kp S P O wl af n dG m cn T xp){D:Nat->Bool}{k:Nat}{o:Oper}{so:aK}(h:E3 dG m D k o so){j:Nat}{b:aK}(hj:m[j]?=some b)(hd:D j≠decide (j<k)) :
  (j<k/\D j=false/\lu S cn j k b so=true)\/(k<j/\D j=true/\lu S cn k j so b=true):=by
 rcases Nat.lt_trichotomy j k with h1|h1|h1;have:D j=false:=by rw[decide_eq_true h1]at hd;simpa using hd
 exact .inl ⟨h1,this,hR.dr.apA D h.down k o h.ho h.pre j b so h1 this hj h.hs⟩;subst h1;exact absurd (h.new.trans (by simp)) hd;have:D j=true:=by rw[decide_eq_false (by omega)]at hd;simpa using hd
 exact .inr ⟨h1,this,hR.dr.apB D h.down k j so b h1 h.new this h.hs hj⟩
section
variable {D:Nat->Bool}{k:Nat}{o:Oper}{so:aK}
theorem E3.lt(h:E3 dG m D k o so):k<m.length:=(List.getElem?_eq_some_iff.1 h.hs).1
theorem E3.UC(hR:Kp S P O wl af n dG m cn T xp)(h:E3 dG m D k o so){t:Nat}(ht:t∈rA so\/t∈yM so):vT m T D t=di (T k).env t:=by
 rw[<-Qw hR.tx (Nat.le_of_lt h.lt)];refine ny λj hj hd=>?_;have hb:m[j]?=some m[j]:=List.getElem?_eq_getElem hj;simp only[KU,hb];rw[if_neg];intro Og;rcases h.lu hR hb hd with⟨_,_,ha⟩|⟨_,_,ha⟩;have:=(CE ha).1 t Og;rcases ht with ht|ht;exact this.2 ht;exact this.1 ht;rcases ht with ht|ht;exact((CE ha).1 t ht).2 Og;exact(CE ha).2 t Og ht
theorem E3.box(hR:Kp S P O wl af n dG m cn T xp)(h:E3 dG m D k o so){b:Nat}(hb:so.op.bA=some b):vB m T D b=(T k).bx[b]?:=by
 rw[<-Qx hR.tx (Nat.le_of_lt h.lt)];refine ny λj hj hd=>?_;have hm:m[j]?=some m[j]:=List.getElem?_eq_getElem hj;simp only[KW,hm];rw[if_neg];intro hw;rcases h.lu hR hm hd with⟨_,_,ha⟩|⟨_,_,ha⟩;exact(Ho ha).1 b hw hb;exact(Ho ha).2 b hw hb
def vX(S:Nat->Option aH)(m:List aK)(T:Nat->St)(xp:Option (Nat×Nat×aj))(D:Nat->Bool):aj:=match xp with
 |some (p,q,X)=>if D q && !D p then X else vS S m T D
 |none=>vS S m T D
theorem rB{D:Nat->Bool}(h:∀p q X,xp=some (p,q,X)->D q=true->D p=true):vX S m T xp D=vS S m T D:=by
 unfold vX;cases xp with
 |none=>rfl|some x=>
  obtain⟨p,q,X⟩:=x;simp only;rw[if_neg];intro hc;simp only[Bool.and_eq_true,Bool.not_eq_true']at hc;rw[h p q X rfl hc.1]at hc;cases hc.2
theorem DE{D:Nat->Bool}{p q:Nat}{X:aj}(hx:xp=some (p,q,X))(h1:D q=true)(h2:D p=false):vX S m T xp D=X:=by
 unfold vX;rw[hx];simp[h1,h2]
theorem Kp.two(hR:Kp S P O wl af n dG m cn T xp){i j:Nat}{a b:aK}(hi:m[i]?=some a)(h:lu S cn i j a b=true)(ha:a.op.pW S=true)(hb:b.op.pW S=true):∃X,xp=some (i,j,X):=by
 have hm:=(zC h).1 ⟨ha,hb⟩;have rV:i<100000:=Nat.lt_trans (List.getElem?_eq_some_iff.1 hi).1 hR.dr.F6;cases hx:xp with
 |none=>exact absurd hm (hR.sn hx i j rV)|some x=>
  obtain⟨p,q,X⟩:=x;obtain⟨rfl,rfl⟩:=(hR.sp p q X hx).un i j rV hm;exact⟨X,rfl⟩
theorem E3.Qz(hR:Kp S P O wl af n dG m cn T xp)(h:E3 dG m D k o so)(hw:so.op.pW S=true){j:Nat}{b:aK}(hj:m[j]?=some b)(hb:b.op.pW S=true)(hd:D j≠decide (j<k)) :
  (j<k/\D j=false/\∃X,xp=some (j,k,X))\/(k<j/\D j=true/\∃X,xp=some (k,j,X)):=by
 rcases h.lu hR hj hd with⟨h1,h2,h3⟩|⟨h1,h2,h3⟩;exact .inl ⟨h1,h2,hR.two hj h3 hb hw⟩;exact .inr ⟨h1,h2,hR.two h.hs h3 hw hb⟩
theorem Kp.at(hR:Kp S P O wl af n dG m cn T xp){D:Nat->Bool}{t:Nat}(ht:t<=m.length)(h:∀(j:Nat) b,m[j]?=some b->b.op.pW S=true->D j=decide (j<t)):vS S m T D=(T t).st:=by
 rw[<-Qy hR.tx ht];refine ny λj hj hd=>?_;have hm:m[j]?=some m[j]:=List.getElem?_eq_getElem hj;simp only[KX,hm];rw[if_neg];intro hjw;exact hd (h j _ hm hjw)
def nG(D:Nat->Bool)(k:Nat):Nat->Bool:=λj=>if j=k then true else D j
theorem qt{j:Nat}(h:j≠k):nG D k j=D j:=by simp[nG,h]
theorem zD:nG D k k=true:=by simp[nG]
theorem E3.Xe(hR:Kp S P O wl af n dG m cn T xp)(h:E3 dG m D k o so)(hw:so.op.pW S=true) :
  (vX S m T xp D=(T k).st/\vX S m T xp (nG D k)=(T (k+1)).st)\/
  (∃p X,xp=some (p,k,X)/\vX S m T xp D=(T p).st/\vX S m T xp (nG D k)=X)\/
  (∃q X,xp=some (k,q,X)/\vX S m T xp D=X/\vX S m T xp (nG D k)=(T (q+1)).st):=by
 have hk:=h.lt;have plain:(∀(j:Nat) b,m[j]?=some b->b.op.pW S=true->D j=decide (j<k))->vS S m T D=(T k).st/\vS S m T (nG D k)=(T (k+1)).st:=λku=>by
  refine⟨hR.at (Nat.le_of_lt hk) ku,hR.at hk λj b hj hb=>?_⟩;by_cases tV:j=k;subst tV;rw[zD];simp;rw[qt tV,ku j b hj hb];exact decide_eq_decide.2 ⟨λh=>by omega,λh=>by omega⟩
 cases hx:xp with
 |none=>
  refine .inl ?_;have:=plain λj b hj hb=>Classical.byContradiction λhd=>by
   rcases h.Qz hR hw hj hb hd with⟨_,_,X,e⟩|⟨_,_,X,e⟩<;>rw[hx]at e<;>cases e
  exact this
 |some x=>
  obtain⟨p,q,X⟩:=x;have sp:=hR.sp p q X hx;have UD:q<m.length:=sp.ql;have Pp:p<m.length:=Nat.lt_trans sp.lt UD;have UA:m[p]?=some m[p]:=List.getElem?_eq_getElem Pp;have hqm:m[q]?=some m[q]:=List.getElem?_eq_getElem UD;have hpw:=(sp.wp _ UA).1;have hqw:=(sp.wq _ hqm).1;have TO:=sp.lt;rw[<-hx];have other:∀(j:Nat) b,m[j]?=some b->b.op.pW S=true->D j≠decide (j<k)->(j=p/\k=q/\D p=false)\/(k=p/\j=q/\D q=true):=λj b hj hb hd=>by
   rcases h.Qz hR hw hj hb hd with⟨_,g,X',e⟩|⟨_,g,X',e⟩;rw[hx]at e;cases e;exact .inl ⟨rfl,rfl,g⟩;rw[hx]at e;cases e;exact .inr ⟨rfl,rfl,g⟩
  by_cases UE:k=q;subst UE;cases hDp:D p with
  |true=>
   refine .inl ?_;have ku:∀(j:Nat) b,m[j]?=some b->b.op.pW S=true->D j=decide (j<k):=λj b hj hb=>Classical.byContradiction λhd=>by
    rcases other j b hj hb hd with⟨_,_,g⟩|⟨g,_,_⟩;rw[hDp]at g;cases g;omega
   rw[rB λp' q' X' e hq=>?_,rB λp' q' X' e hq=>?_];exact plain ku;rw[hx]at e;cases e;rw[qt (by omega)];exact hDp;rw[hx]at e;cases e;exact hDp
  |false=>
   refine .inr (.inl ⟨p,X,hx,?_,?_⟩);rw[rB λp' q' X' e hq=>by rw[hx]at e;cases e;rw[h.new]at hq;cases hq];refine hR.at (by omega) λj b hj hb=>?_;by_cases hjp:j=p;subst hjp;rw[hDp];simp;by_cases tV:j=k;subst tV;rw[h.new];symm;rw[decide_eq_false_iff_not];omega;by_cases Jb:p<j/\j<k;have:=sp.gap j b Jb.1 Jb.2 hj;rw[this]at hb;cases hb;have:D j=decide (j<k):=Classical.byContradiction λhd=>by
    rcases other j b hj hb hd with⟨g,_,_⟩|⟨g,_,_⟩;exact hjp g;omega
   rw[this];exact decide_eq_decide.2 ⟨λh=>by omega,λh=>by omega⟩;exact DE hx zD (by rw[qt (by omega)];exact hDp)
  by_cases hkp:k=p;subst hkp;cases hDq:D q with
  |false=>
   refine .inl ?_;have ku:∀(j:Nat) b,m[j]?=some b->b.op.pW S=true->D j=decide (j<k):=λj b hj hb=>Classical.byContradiction λhd=>by
    rcases other j b hj hb hd with⟨_,g,_⟩|⟨_,_,g⟩;exact UE g;rw[hDq]at g;cases g
   rw[rB λp' q' X' e hq=>?_,rB λp' q' X' e hq=>?_];exact plain ku;rw[hx]at e;cases e;exact zD;rw[hx]at e;cases e;rw[hDq]at hq;cases hq
  |true=>
   refine .inr (.inr ⟨q,X,hx,DE hx hDq h.new,?_⟩);rw[rB λp' q' X' e hq=>by rw[hx]at e;cases e;exact zD];refine hR.at sp.ql λj b hj hb=>?_;by_cases tV:j=k;subst tV;rw[zD];symm;rw[decide_eq_true_iff];omega;rw[qt tV];by_cases hjq:j=q;subst hjq;rw[hDq];simp;by_cases Jb:k<j/\j<q;have:=sp.gap j b Jb.1 Jb.2 hj;rw[this]at hb;cases hb;have:D j=decide (j<k):=Classical.byContradiction λhd=>by
    rcases other j b hj hb hd with⟨g,_,_⟩|⟨_,g,_⟩;exact tV g;exact hjq g
   rw[this];exact decide_eq_decide.2 ⟨λh=>by omega,λh=>by omega⟩
  refine .inl ?_;have ku:∀(j:Nat) b,m[j]?=some b->b.op.pW S=true->D j=decide (j<k):=λj b hj hb=>Classical.byContradiction λhd=>by
   rcases other j b hj hb hd with⟨_,g,_⟩|⟨g,_,_⟩;exact UE g;exact hkp g
  have acZ:D q=true->D p=true:=λhq=>Classical.byContradiction λhp=>by
   have YB:D p=false:=(by simpa using hp);have g1:=ku p _ UA hpw;have g2:=ku q _ hqm hqw;rw[YB]at g1;rw[hq]at g2;have g1:=of_decide_eq_false g1.symm;have g2:=of_decide_eq_true g2.symm;omega
  rw[rB λp' q' X' e hq=>?_,rB λp' q' X' e hq=>?_];exact plain ku;rw[hx]at e;cases e;rw[qt (λe=>UE e.symm)]at hq;rw[qt (λe=>hkp e.symm)];exact acZ hq;rw[hx]at e;cases e;exact acZ hq
theorem E3.still(h:E3 dG m D k o so)(hR:Kp S P O wl af n dG m cn T xp)(hw:so.op.pW S=false):vX S m T xp (nG D k)=vX S m T xp D:=by
 have e:vS S m T (nG D k)=vS S m T D:=by
  refine ny λj hj hd=>?_;by_cases tV:j=k;subst tV;simp[KX,h.hs,hw];rw[qt tV]at hd;exact absurd rfl hd
 cases hx:xp with
 |none=>simp only[vX];exact e|some x=>
  obtain⟨p,q,X⟩:=x;have sp:=hR.sp p q X hx;have h1:p≠k:=λhe=>by subst he;have:=(sp.wp _ h.hs).1;rw[hw]at this;cases this
  have h2:q≠k:=λhe=>by subst he;have:=(sp.wq _ h.hs).1;rw[hw]at this;cases this
  simp only[vX,qt h1,qt h2,e]
theorem E3.ahb(hR:Kp S P O wl af n dG m cn T xp)(h:E3 dG m D k o so)(hn:so.op.KT=false)(hw:so.op.pW S=false) :
  vX S m T xp D=(T k).st\/cW O wl af so (T k) (T (k+1)) (vX S m T xp D)=true:=by
 have nj:k<100000:=Nat.lt_trans h.lt hR.dr.F6;by_cases TS:∃p q X,xp=some (p,q,X)/\D q=true/\D p=false;obtain⟨p,q,X,hx,hq,hp⟩:=TS;right;have sp:=hR.sp p q X hx;rw[DE hx hq hp];refine sp.rd k ?_ so h.hs;have UD:q<m.length:=sp.ql;have Pp:p<m.length:=Nat.lt_trans sp.lt UD;have UA:m[p]?=some m[p]:=List.getElem?_eq_getElem Pp;have hqm:m[q]?=some m[q]:=List.getElem?_eq_getElem UD;rcases Nat.lt_trichotomy k q with UE|UE|UE;have ha:=hR.dr.apB D h.down k q so _ UE h.new hq h.hs hqm;rcases (zC ha).2.1 with e|e|e|e;rw[hn]at e;cases e;rw[(sp.wq _ hqm).1]at e;cases e;rw[hw]at e;cases e;exact sp.cl k q e nj (.inr rfl);subst UE;rw[h.new]at hq;cases hq;have ha:=hR.dr.apA D h.down k o h.ho h.pre p _ so (by have:=sp.lt;omega) hp UA h.hs;rcases (zC ha).2.2 with e|e|e|e;rw[hn]at e;cases e;rw[(sp.wp _ UA).1]at e;cases e;rw[hw]at e;cases e;exact sp.cl k p e nj (.inl rfl);rw[rB λp q X hx hq=>Classical.byContradiction λhp=>TS ⟨p,q,X,hx,hq,by simpa using hp⟩];obtain⟨p,h1,h2,h3,h4⟩:=MH (S:=S) (m:=m) (T:=T) D m.length (Nat.le_refl _);have hv:vS S m T D=(T p).st:=h2;have hk:=h.lt;have pair:∀(w:Nat) b,m[w]?=some b->b.op.pW S=true->D w≠decide (w<k)->(k,w)∈cn:=by
  intro w b hb hbw hd;rcases h.lu hR hb hd with⟨_,_,ha⟩|⟨_,_,ha⟩;rcases (zC ha).2.2 with e|e|e|e;rw[hn]at e;cases e;rw[hbw]at e;cases e;rw[hw]at e;cases e;exact e;rcases (zC ha).2.1 with e|e|e|e;rw[hn]at e;cases e;rw[hbw]at e;cases e;rw[hw]at e;cases e;exact e
 by_cases hpk:p<=k;obtain⟨d,hd⟩:∃d,k=p+d:=⟨k-p,by omega⟩;rcases MI S m p d (by omega) with hg|⟨w,b,g1,g2,g3,g4,g5⟩;left;rw[hv,hd];exact(zB hR.tx d (by omega) hg).symm;right;have hDw:=h4 w b g1 (by have:=(List.getElem?_eq_some_iff.1 g3).1;omega) g3 g4;have hp:=pair w b g3 g4 (by rw[hDw,decide_eq_true (by omega)];simp);have e:(T p).st=(T w).st:=by
  obtain⟨d',DF⟩:∃d,w=p+d:=⟨w-p,by omega⟩;rw[DF];exact(zB hR.tx d' (by have:=(List.getElem?_eq_some_iff.1 g3).1;omega) λj so a1 a2=>g5 j so a1 (by omega)).symm
 rw[hv,e];exact(hR.pr k w nj hp so h.hs).1;right;rcases h3 with h3|⟨q,b,rfl,g1,g2,g3⟩;omega;have hp:=pair q b g1 g3 (by
  by_cases hq:q=k;subst hq;rw[h.new]at g2;cases g2;rw[g2,decide_eq_false (by omega)];simp)
 rw[hv];exact(hR.pr k q nj hp so h.hs).2
theorem E3.Xf(hR:Kp S P O wl af n dG m cn T xp)(h:E3 dG m D k o so)(t:Nat):vT m T (nG D k) t=if t∈rA so then di (T (k+1)).env t else vT m T D t:=by
 have:=I7 (init:=di (T 0).env) (zb:=KU m T) (D:=D) (D':=nG D k) (x:=t) (j:=k) h.lt h.new (λj=>rfl) λj h1 h2 h3 h4=>by
  have hb:m[j]?=some m[j]:=List.getElem?_eq_getElem h2;have ha:=hR.dr.apB D h.down k j so _ h1 h.new h3 h.hs hb;simp only[KU,h.hs]at h4;simp only[KU,hb];rw[if_neg];intro Og;by_cases ht:t∈rA so;exact((CE ha).1 t ht).2 Og;rw[if_neg ht]at h4;exact h4 rfl
 refine this.trans ?_;simp only[KU,h.hs];split
 rfl
 rfl
theorem E3.Xg(hR:Kp S P O wl af n dG m cn T xp)(h:E3 dG m D k o so)(b:Nat):vB m T (nG D k) b=if so.op.bW=some b then (T (k+1)).bx[b]? else vB m T D b:=by
 have:=I7 (init:=λb=>(T 0).bx[b]?) (zb:=KW m T) (D:=D) (D':=nG D k) (x:=b) (j:=k) h.lt h.new (λj=>rfl) λj h1 h2 h3 h4=>by
  have hb:m[j]?=some m[j]:=List.getElem?_eq_getElem h2;have ha:=hR.dr.apB D h.down k j so _ h1 h.new h3 h.hs hb;simp only[KW,h.hs]at h4;simp only[KW,hb];rw[if_neg];intro Og;by_cases ht:so.op.bW=some b;exact(Ho ha).1 b ht (Xd Og);rw[if_neg ht]at h4;exact h4 rfl
 refine this.trans ?_;simp only[KW,h.hs];split
 rfl
 rfl
end
end Ax
namespace Ax
open Go
variable {S:Nat->Option aH}{P:Program}{O:lE}{wl af n:Nat}
variable {dG:Array Oper}{m:List aK}{cn:List (Nat×Nat)}{T:Nat->St}{xp:Option (Nat×Nat×aj)}
variable {w0 w w':World}{G0 G G':bp}{β gZ:List m9}{A0:Nat->Nat}{a:Act}{bx:bF}
structure At (S:Nat->Option aH)(n:Nat)(m:List aK)(T:Nat->St)(xp:Option (Nat×Nat×aj))(w0:World)(G0:bp)(A0:Nat->Nat)(D:Nat->Bool)(w:World)(G:bp)(β:List m9)(a:Act)(bx:bF):Prop where
 fs:FS w G β a (vT m T D) bx (vX S m T xp D) n
 mv:Mv w0 G0 A0 w G (uT β a (vT m T D) bx (vX S m T xp D) G n)
 bb:∀b,bx[b]?=vB m T D b
 bl:bx.length=(T 0).bx.length
 fp:∀(i:Nat) so j,m[i]?=some so->so.op.bg=some j->D i=false->∀t,(vT m T D t).pE j=true
theorem Text.UB(h:Text S O wl af m T):∀{j:Nat},j<=m.length->(T j).bx.length=(T 0).bx.length
 |0,_=>rfl|j+1,hj=>by
  have hs:m[j]?=some m[j]:=List.getElem?_eq_getElem (by omega);rw[(h.one j _ hs).UB,h.UB (by omega)]
theorem KY{e f:fq}(h:e.fG f=true):e=f:=by
 cases e<;>cases f<;>simp[fq.fG]at h
 rfl
 rw[GO _ _ h];obtain⟨rfl,rfl⟩:=h;rfl
theorem KZ{op:eC}(h:op.KT=false):op.bA=none:=by
 cases op<;>simp[eC.KT,eC.bA]at h ⊢
theorem Oh{η:Nat->fq}{j:Nat}(h:∀t,(η t).pE j=true)(s:Src):(AI η s).pE j=true:=by
 cases s with
 |const a=>rfl|tmp t mv=>
  cases mv with
  |true=>exact h t|false=>
   have:=h t;simp only[AI];cases he:η t with
   |none=>rfl|val v=>rfl|fp i k=>rw[he]at this;exact this
theorem AT{η Pq:Nat->fq}:∀{l:List Src},(∀t∈Uz l,η t=Pq t)->l.map (AI η)=l.map (AI Pq)
 |[],_=>rfl|.tmp t mv::l,h=>by
  simp only[List.map_cons];rw[AT (l:=l) λu hu=>h u (List.mem_cons_of_mem _ hu)];have:=h t List.mem_cons_self;cases mv<;>simp only[AI,this]
 |.const a::l,h=>by
  simp only[List.map_cons];rw[AT (l:=l) λu hu=>h u hu]
  rfl
theorem zF{Q:Exit->Act->World->Prop}(hR:Kp S P O wl af n dG m cn T xp)(hO:jX S P O){D:Nat->Bool}{k:Nat}{o:Oper}{so:aK}(h:E3 dG m D k o so)(hA:At S n m T xp w0 G0 A0 D w G β a bx){K:Act->World->Prop}
  (hK:∀w' G' gZ a' gC,At S n m T xp w0 G0 A0 (nG D k) w' G' gZ a' gC->K a' w'):wpOp P dG Q k K a w:=by
 have one:=hR.tx.one k so h.hs;have hwe:uo (vT m T D) so.guard=o5 (T k).env so.guard:=by
  rw[F2];cases hg:so.guard with
  |none=>rfl|some x=>
   obtain⟨t,b⟩:=x;have:=h.UC hR (t:=t) (.inr (by simp[yM,hg]));simp only[uo,this]
 obtain⟨b,hb⟩:∃b,o5 (T k).env so.guard=some b:=by
  cases hw:o5 (T k).env so.guard with
  |none=>exact absurd hw one.wan|some b=>exact⟨b,rfl⟩
 refine MD (wl:=wl) (af:=af) h.ho (hR.dr.get k o so h.ho h.hs) hO hA.fs hA.mv.one (hwe.trans hb) (λhbf a' f1 f2=>?_) (λhbt=>?_);subst hbf;obtain⟨n1,n2,n3⟩:=one.non hb;have e1:kC (vT m T D) so.dst (.val .undef)=vT m T (nG D k):=by
  funext t;rw[h.Xf hR];split;rename_i ht;rw[n1];simp only[kC];split
  rfl
  exact h.UC hR (.inl ht);rename_i ht;simp only[rA,List.mem_append,Option.mem_toList,not_or]at ht;simp only[kC];rw[if_neg ht.1]
 have e2:vX S m T xp (nG D k)=vX S m T xp D:=by
  by_cases hw:so.op.pW S=true;rcases h.Xe hR hw with⟨e1,e2⟩|⟨p,X,hx,_⟩|⟨q,X,hx,_⟩;rw[e1,e2,n3];have:=(hR.sp p k X hx).wq so h.hs;rw[this.2]at hb;cases hb;have:=(hR.sp k q X hx).wp so h.hs;rw[this.2]at hb;cases hb;exact h.still hR (by simpa using hw)
 rw[e1,<-e2]at f1;rw[e1,<-e2]at f2;refine hK w G β a' bx ⟨f1,?_,λx=>?_,hA.bl,λi si j hi hj hD t=>?_⟩;rw[e2]at f2 ⊢;exact hA.mv.trans f2;rw[h.Xg hR,hA.bb];split;rename_i hx;rw[n2];exact h.box hR (Xd hx)
 rfl
 have jn:i≠k/\D i=false:=by
  unfold nG at hD;by_cases QA:i=k;rw[if_pos QA]at hD;cases hD;rw[if_neg QA]at hD;exact⟨QA,hD⟩
 rw[<-e1];simp only[kC];split
 rfl
 exact hA.fp i si j hi hj jn.2 t;subst hbt;obtain⟨e,ha,y2⟩:=one.yes hb;have ya:so.args.map (Kv (T k).env)=so.args.map (AI (vT m T D)):=by
  rw[List.map_congr_left (g:=AI (di (T k).env)) λx _=>CC _ x];exact(AT λt ht=>h.UC hR (.inr (by simp[yM,ht]))).symm
 rw[ya]at ha;have QB:tT O wl af so.op (so.args.map (AI (vT m T D))) (vX S m T xp D) (T k).bx=some (e,vX S m T xp (nG D k),(T (k+1)).bx):=by
  by_cases hw:so.op.pW S=true;rcases h.Xe hR hw with⟨e1,e2⟩|⟨p,X,hx,e1,e2⟩|⟨q,X,hx,e1,e2⟩;rw[e1,e2];exact ha;rw[e1,e2,<-ya];rw[<-ya]at ha;exact(hR.sp p k X hx).x1 so h.hs _ _ _ ha;rw[e1,e2,<-ya];rw[<-ya]at ha;exact(hR.sp k q X hx).x2 so h.hs _ _ _ ha;have F8:so.op.pW S=false:=by simpa using hw
  rw[h.still hR F8];have iu:=one.YA F8;by_cases hn:so.op.KT=true;exact Ux hn _ ha;have N8:so.op.KT=false:=by simpa using hn
  rcases h.ahb hR N8 F8 with hs|hs;rw[hs];rw[iu]at ha;exact ha;unfold cW at hs;rw[hb]at hs;simp only at hs;rw[ya]at hs;split at hs;rename_i e' bV gC K0;have ahd:=ME hR.pu F8 K0;subst ahd;have Qn:=KZ N8;obtain⟨rfl,_⟩:=Hl Qn (T k).bx K0;obtain⟨hbx,_⟩:=Hl Qn (T k).bx ha;rw[hbx];split at hs;rename_i d hd;have:=KY hs;rw[y2]at this;simp only[kC,hd,if_true]at this;subst this;exact K0;cases hs;cases hs
 obtain⟨yL,b1,b2,b3,b4,b5,_⟩:=Ja (yL:=bx) (by rw[hA.bl,hR.tx.UB (Nat.le_of_lt h.lt)]) (λb hb=>by rw[hA.bb];exact h.box hR hb) QB;refine⟨e,vX S m T xp (nG D k),yL,b1,λj hj t _ _=>hA.fp k so j h.hs hj h.new t,λw' G' gZ a' f1 f2=>?_⟩;have e1:kC (jL (vT m T D) (qp so.args)) so.dst e=vT m T (nG D k):=by
  funext t;rw[h.Xf hR];split;rename_i ht;rw[y2];simp only[kC,jL];split
  rfl
  split
  rfl
  exact h.UC hR (.inl ht);rename_i ht;simp only[rA,List.mem_append,Option.mem_toList,not_or]at ht;simp only[kC,jL];rw[if_neg ht.1,if_neg ht.2]
 rw[e1]at f1 f2;refine hK w' G' gZ a' yL ⟨f1,hA.mv.trans f2,λx=>?_,b3.trans hA.bl,λi si j hi hj hD t=>?_⟩;rw[h.Xg hR];split;rename_i hx;exact b4 x hx;rename_i hx;rw[b5 x hx,hA.bb];have jn:i≠k/\D i=false:=by
  unfold nG at hD;by_cases QA:i=k;rw[if_pos QA]at hD;cases hD;rw[if_neg QA]at hD;exact⟨QA,hD⟩
 rw[<-e1];simp only[kC,jL];split;refine Yy b1 (λx hx=>?_) λhn=>?_;obtain⟨s,_,rfl⟩:=List.mem_map.1 hx;exact Oh (λt=>hA.fp i si j hi hj jn.2 t) s;rcases Nat.lt_or_gt_of_ne jn.1 with hl|hl;exact hR.dr.Xc i k si so j hl hi h.hs hj hn;exact hR.dr.Xc k i so si j hl h.hs hi hn hj;split
 rfl
 exact hA.fp i si j hi hj jn.2 t
def jg(fK:Array Bool):Nat->Bool:=λk=>fK.getD k false
theorem QC{Q:Exit->Act->World->Prop}(hR:Kp S P O wl af n dG m cn T xp)(hO:jX S P O)
  (hQ:∀w' G' gZ a' gC D,(∀k,k<m.length->D k=true)->At S n m T xp w0 G0 A0 D w' G' gZ a' gC->Q .normal a' w') :
  ∀(fuel:Nat) (fK:Array Bool) (a:Act) (w:World) (G:bp) (β:List m9) (bx:bF),fK.size=dG.size->Qt dG (jg fK)->gX (λk=>if jg fK k then 0 else 1) dG.size<=fuel->
   At S n m T xp w0 G0 A0 (jg fK) w G β a bx->wpAny P .any dG Q fuel fK a w:=by
 have Fl:∀(fK:Array Bool) (a:Act) (w:World) (G:bp) (β:List m9) (bx:bF),fK.size=dG.size->At S n m T xp w0 G0 A0 (jg fK) w G β a bx->Region.ready .any dG fK=[]->Q .normal a w:=by
  intro fK a w G β bx dF hA hr;refine hQ w G β a bx _ (λk=>?_) hA;induction k using Nat.strongRecOn with
  |_ k ih=>
   intro hk;cases hd:jg fK k with
   |true=>rfl|false=>
    exfalso;rw[hR.dr.len]at hk;have ho:dG[k]?=some dG[k]:=(by simp[hk]);have:k∈Region.ready .any dG fK:=by
     rw[mem_ready];refine⟨?_,dG[k],ho,λe he hb=>?_⟩;have KJ:k<fK.size:=(by omega);simp only[jg,Array.getD,KJ,dif_pos]at hd ⊢;exact hd;have hp:e.on∈oI dG[k]:=by
      unfold oI;exact List.mem_map.2 ⟨e,List.mem_filter.2 ⟨by simpa using he,hb⟩,rfl⟩
     have aW:=hR.dr.lt k dG[k] ho e.on hp;exact ih e.on aW (by rw[hR.dr.len];omega)
    rw[hr]at this;cases this
 intro fuel;induction fuel with
 |zero=>
  intro fK a w G β bx dF hD hf hA;have ku:∀k,k<dG.size->jg fK k=true:=λk hk=>by
   have:=vW (f:=λk=>if jg fK k then 0 else 1) hk;cases hd:jg fK k with
   |true=>rfl|false=>simp only[hd,Bool.false_eq_true,if_false]at this;omega
  have hr:Region.ready .any dG fK=[]:=by
   rw[List.eq_nil_iff_forall_not_mem];intro j hj;rw[mem_ready]at hj;obtain⟨h1,o,ho,_⟩:=hj;have hk:=(Array.getElem?_eq_some_iff.1 ho).1;have h2:=ku j hk;have KJ:j<fK.size:=(by omega);simp only[jg,Array.getD,KJ,dif_pos]at h1 h2;rw[h1]at h2;cases h2
  exact⟨hr,Fl fK a w G β bx dF hA hr⟩
 |succ fuel ih=>
  intro fK a w G β bx dF hD hf hA;refine⟨Fl fK a w G β bx dF hA,λi hi=>?_⟩;rw[mem_ready]at hi;obtain⟨h1,o,ho,h3⟩:=hi;have hk:=(Array.getElem?_eq_some_iff.1 ho).1;have hkm:i<m.length:=by rw[hR.dr.len];exact hk
  have hs:m[i]?=some m[i]:=List.getElem?_eq_getElem hkm;have KJ:i<fK.size:=by omega
  have vg:jg fK i=false:=by
   simp only[jg,Array.getD,KJ,dif_pos]at h1 ⊢;exact h1
  have ac1:∀p∈oI o,jg fK p=true:=by
   intro p hp;unfold oI at hp;obtain⟨e,he,rfl⟩:=List.mem_map.1 hp;obtain⟨he1,he2⟩:=List.mem_filter.1 he;exact h3 e (by simpa using he1) he2
  have ahe:E3 dG m (jg fK) i o m[i]:=⟨hD,ho,hs,ac1,vg⟩;have MJ:jg (fK.setIfInBounds i true)=nG (jg fK) i:=by
   funext j;by_cases hj:j=i;subst hj;simp[jg,nG,KJ];simp[jg,nG,hj,show ¬i=j from λe=>hj e.symm]
  refine zF hR hO ahe hA λw' G' gZ a' gC MA=>?_;rw[<-MJ]at MA;refine ih _ a' w' G' gZ gC (by simp[dF]) ?_ ?_ MA;intro j oj Pu hj p hp;rw[MJ]at hj ⊢;unfold nG at hj ⊢;by_cases hji:j=i;subst hji;rw[ho]at Pu;cases Pu;split
  rfl
  exact ac1 p hp;rw[if_neg hji]at hj;split
  rfl
  exact hD j oj Pu hj p hp;have h5:=tA (f:=λk=>if jg (fK.setIfInBounds i true) k then 0 else 1) (g:=λk=>if jg fK k then 0 else 1) (d:=i) hk λt ht=>by
   rw[MJ];simp[nG,ht]
  have e1:jg (fK.setIfInBounds i true) i=true:=by rw[MJ];simp[nG]
  simp only[e1,vg,if_true,Bool.false_eq_true,if_false]at h5;omega
theorem K1{wl af:Nat}{st bV:aj}{i v x y:Nat}{cs:List AV}(h:cV wl af st (.ptr i v x y) cs=some bV):∃o,bV=st.set i o/\∀(kO:aj),kO[i]?=st[i]?->cV wl af kO (.ptr i v x y) cs=some (kO.set i o):=by
 unfold cV at h;simp only at h;split at h;rename_i v' sz rows iu;split at h;rename_i hc;split at h;rename_i r hr;split at h;rename_i hl;simp only[Option.some.injEq]at h;refine⟨_,h.symm,λkO h2=>?_⟩;unfold cV;simp only[h2,iu,if_pos hc,hr,if_pos hl];cases h;cases h;cases h;cases h
theorem F9{O:lE}{wl af:Nat}{n:Nat}{st bV:aj}{bx gC:bF}{i v x y:Nat}{u:AV}{e:fq}(h:tT O wl af (.store n) [.val (.ptr i v x y),.val u] st bx=some (e,bV,gC)) :
  ∃o,bV=st.set i o/\gC=bx/\∀(kO:aj) (yL:bF),kO[i]?=st[i]?->tT O wl af (.store n) [.val (.ptr i v x y),.val u] kO yL=some (e,kO.set i o,yL):=by
 simp only[tT,aV]at h;split at h;rename_i hc;split at h;rename_i s1 hw;cases h;obtain⟨o,h1,h2⟩:=K1 hw;refine⟨o,h1,rfl,λkO yL he=>?_⟩;simp only[tT,aV,if_pos hc,h2 kO he];cases h;cases h
theorem Jc{id:Nat}{Q:Exit->Act->World->Prop}{s e:St}(hm:MG S P dG n m cn=true)(hO:jX S P O)(hP:BF S O)(_hs:FT w G β a s n)(h1:∀b,hJ β a s G n b<=1)(he:iB O wl af m cn s=some e)
  (YC:∀d,FT { w with drawn:=d } G β a s n/\∀w' G' A',Mv { w with drawn:=d } G (hJ β a s G n) w' G' A'->Mv w G (hJ β a s G n) w' G' A')
  (hQ:∀w' G' gZ a',FT w' G' gZ a' e n->Mv w G (hJ β a s G n) w' G' (hJ gZ a' e G' n)->Q .normal a' w'):(Code.region id dG true).wp P Q a w:=by
 have hd:=Qu hm;unfold iB at he;split at he;cases he;rename_i e' ga hr;split at he;rename_i hc;cases he;simp only[Bool.and_eq_true,List.all_eq_true]at hc;obtain⟨r1,r2,r3,r4⟩:=BG hr
 let T:Nat->St:=λk=>(ga[k]?).getD s
 have hT:∀(i:Nat) x,ga[i]?=some x->T i=x:=λi x hx=>by simp only[T,hx,Option.getD_some]
 have tx:Text S O wl af m T:=⟨λi so hi=>by
  obtain⟨x,y,a1,a2,a3⟩:=r4 i so hi;rw[hT i x a1,hT (i+1) y a2];exact ag8 hP a3⟩
 obtain⟨xp,hsn,nE⟩:∃xp:Option (Nat×Nat×aj),(xp=none->∀i j,i<100000->(100000+i,j) ∉ cn)/\∀p q X,xp=some (p,q,X)->Spc S O wl af m cn T p q X:=by
  by_cases hex:∃p q,p<100000/\(100000+p,q)∈cn;obtain⟨p,q,hp,TO⟩:=hex;obtain⟨t1,⟨a,b,t2,t3,t4,t5,t6,t7⟩,t8,t9,t10⟩:=hd.xt p q hp TO;have UD:q<m.length:=(List.getElem?_eq_some_iff.1 t3).1;have hxs:=hc.1 _ TO;unfold gO at hxs;simp only[show ¬100000+p<100000 by omega,if_false,show (100000+p) % 100000=p by omega]at hxs;cases hX:Yc wl af m ga p q with
  |none=>rw[hX]at hxs;cases hxs|some X=>
   refine⟨some (p,q,X),⟨λh=>(by cases h),λp' q' X' h=>?_⟩⟩;cases h;have Jb:(T q).st=(T (p+1)).st:=by
    obtain⟨d,DF⟩:∃d,q=p+1+d:=⟨q-(p+1),by omega⟩;rw[DF];exact zB tx d (by omega) λj so a1 a2 a3=>t8 j so (by omega) (by omega) a3
   unfold Yc at hX;split at hX;rename_i a' s' b' t' g1 g2 g3 g4;rw[t2]at g1;cases g1;rw[t3]at g3;cases g3;have Cc:=hT p s' g2;have ht':=hT q t' g4;subst Cc ht';split at hX;rename_i ao av bo bv ma i vi xi yi ui mb j vj xj yj uj k1 k2 k3 k4;split at hX;cases hX;rename_i Cb;split at hX;rename_i e0 X0 b0 ac2;cases hX;have ac3:tT O wl af (.store mb) [.val (.ptr j vj xj yj),.val uj] (T p).st []=some (e0,X,b0):=ac2;obtain⟨ob,o1,o2,o3⟩:=F9 ac3;have ahf:=tx.one p a t2;obtain⟨ep,ap,_⟩:=ahf.yes (by rw[t6];rfl);rw[k1,k2]at ap;obtain⟨oa,p1,p2,p3⟩:=F9 ap;have ahg:=tx.one q b t3;obtain⟨eq,aq,_⟩:=ahg.yes (by rw[t7];rfl);rw[k3,k4]at aq;have ac4:(T q).st[j]?=(T p).st[j]?:=(by rw[Jb,p1,List.getElem?_set_ne Cb]);have q1:(T (q+1)).st=(T q).st.set j ob:=by
    have:=o3 (T q).st (T q).bx ac4;rw[this]at aq;simp only[Option.some.injEq,Prod.mk.injEq]at aq;exact aq.2.1.symm
   refine⟨t1,UD,TO,λa' K0=>?_,λa' K0=>?_,t8,t10,t9,λa' K0 e bx gC hh=>?_,λa' K0 e bx gC hh=>?_,λk hk o ho=>?_⟩;rw[t2]at K0;cases K0;exact⟨by rw[k1];rfl,t6⟩;rw[t3]at K0;cases K0;exact⟨by rw[k3];rfl,t7⟩;rw[t3]at K0;cases K0;rw[k3,k4]at hh ⊢;rw[o3 (T q).st bx ac4]at hh;simp only[Option.some.injEq,Prod.mk.injEq]at hh;rw[o3 (T p).st bx rfl,hh.1,hh.2.2,o1];rw[t2]at K0;cases K0;rw[k1,k2]at hh ⊢;rw[p3 (T p).st bx rfl]at hh;simp only[Option.some.injEq,Prod.mk.injEq]at hh;rw[p3 X bx (by rw[o1,List.getElem?_set_ne (λe=>Cb e.symm)]),hh.1,hh.2.2,q1,Jb,p1,o1,List.set_comm _ _ Cb];have:=hc.1 _ hk;unfold gO at this;simp only[show ¬100000*(k+2)+p<100000 by omega,if_false,show (100000*(k+2)+p) % 100000=p by omega,show ¬100000*(k+2)+p<200000 by omega,show (100000*(k+2)+p) / 100000-2=k by omega]at this;have hX2:Yc wl af m ga p q=some X:=by
    unfold Yc;simp only[t2,t3,g2,g4,k1,k2,k3,k4,if_neg Cb,ac2]
   rw[hX2]at this;simp only at this;split at this;rename_i o' x y g5 g6 g7;rw[ho]at g5;cases g5;rw[hT k x g6,hT (k+1) y g7];exact this;cases this;cases hX;cases hX;cases hX
  exact⟨none,⟨λ_ i j hi Cb=>hex ⟨i,j,hi,Cb⟩,λ_ _ _ h=>(by cases h)⟩⟩
 have hR:Kp S P O wl af n dG m cn T xp:=by
  refine⟨hd,tx,λq w UD hqw o ho=>?_,hsn,nE,λi so j hi hj=>?_,hP⟩;have:=hc.1 (q,w) hqw;unfold gO at this;simp only[UD,if_true]at this;split at this;rename_i o' x y x' y' g1 g2 g3 g4 g5;rw[ho]at g1;cases g1;rw[hT q x g2,hT (q+1) y g3,hT w x' g4,hT (w+1) y' g5];simpa only [Bool.and_eq_true] using this;cases this;have:=hc.2 so (dm hi);unfold bG at this;rw[hj]at this;rw[hT 0 s r2];exact this
 have h0:T 0=s:=hT 0 s r2;have QD:jg (Array.replicate dG.size false)=λ_=>false:=by
  funext k;simp only[jg,Array.getD,Array.size_replicate,Array.getInternal_eq_getElem,Array.getElem_replicate];split<;>rfl
 have QE:∀{K V:Type} (init:K->V) (zb:Nat->K->Option V) (N:Nat) (x:K),pL init zb (λ_=>false) N x=init x:=by
  intro K V init zb N x;induction N with
  |zero=>rfl|succ N ih=>simp only[pL,ih];rfl
 obtain⟨d1,d2⟩:=YC (w.drawn+1);refine wp_region_any hd.fol (QC (w0:={ w with drawn:=w.drawn+1 }) (G0:=G) (A0:=hJ β a s G n) hR hO (λw' G' gZ a' gC D hD hA=>?_) dG.size _ a _ G β s.bx (by simp) ?_ ?_ ?_);have ku:∀{K V:Type} (init:K->V) (zb:Nat->K->Option V) (x:K),pL init zb D m.length x=pL init zb (λk=>decide (k<m.length)) m.length x:=λinit zb x=>ny λk hk jn=>by
  rw[hD k hk,decide_eq_true hk]at jn;exact absurd rfl jn
 have hTe:T m.length=e:=hT _ e r3;have e1:vT m T D=di e.env:=by
  funext t;rw[<-hTe,<-Qw tx (Nat.le_refl _)];exact ku _ _ t
 have e2:vX S m T xp D=e.st:=by
  rw[rB λp q X hx _=>hD p (by have:=nE p q X hx;have:=this.lt;have:=(nE p q X hx).ql;omega)];rw[<-hTe,<-Qy tx (Nat.le_refl _)];exact ku _ _ ()
 have e3:gC=e.bx:=by
  apply List.ext_getElem?;intro b;rw[hA.bb b,<-hTe,<-Qx tx (Nat.le_refl _)];exact ku _ _ b
 have f1:=hA.fs;have f2:=hA.mv;rw[e1,e2,e3]at f1 f2;exact hQ w' G' gZ a' f1 (d2 _ _ _ f2);intro j o _ hj;rw[QD]at hj;cases hj;rw[QD];have:∀N,gX (λ_=>1) N=N:=λN=>by induction N with|zero=>rfl|succ N ih=>simp[gX,ih]
 simp[this];rw[QD];have e1:vT m T (λ_=>false)=di s.env:=by funext t;rw[<-h0];exact QE _ _ _ t
 have e2:vX S m T xp (λ_=>false)=s.st:=by rw[rB λp q X _ h=>by cases h];rw[<-h0];exact QE _ _ _ ()
 refine⟨?_,?_,λb=>?_,by rw[h0],λi so j hi hj _ t=>?_⟩;rw[e1,e2];exact d1;rw[e1,e2];exact Mv.refl h1;rw[<-h0];exact(QE _ _ _ b).symm;rw[e1,<-h0];exact Dn (hR.bo i so j hi hj) t;cases he
end Ax
namespace Ax
open Go
variable {S:Nat->Option aH}{P:Program}{O:lE}{wl af n:Nat}
variable {w w':World}{G G':bp}{β gZ:List m9}{a:Act}{s s':St}
def DG:Code->Code
 |.scope c=>DG c|c=>c
def Hp(S:Nat->Option aH)(P:Program)(n:Nat)(dG:Array Oper)(draw:Bool)(m:List aK):Option (List (Nat×Nat))->Bool
 |none=>!draw&&rz S P dG n dG.toList m|some cn=>draw&&MG S P dG n m cn
def jA(S:Nat->Option aH)(P:Program)(n:Nat):bw->Code->Bool
 |.skip,c=>match DG c with|.skip=>true|_=>false
 |.region m draw _,c=>match DG c with
  |.region _ dG d=>Hp S P n dG d m draw|_=>false
 |.seq x y,c=>match x with
  |.TM _=>jA S P n y c|.E8 _ _=>jA S P n y c|.u6 _ _=>jA S P n y c|x=>match DG c with
   |.seq a b=>jA S P n x a&&jA S P n y b|_=>false
 |.cond t _ x _ y,c=>match DG c with
  |.cond u a b=>Ky u t&&jA S P n x a&&jA S P n y b|_=>false
 |.block i x,c=>match DG c with
  |.block j a=>i==j&&jA S P n x a|_=>false
 |.loop x,c=>match DG c with
  |.loop a=>jA S P n x a|_=>false
 |.exit i,c=>match DG c with
  |.exit j=>i==j|_=>false
 |.ret,c=>match DG c with
  |.ret=>true|_=>false
 |.TM _,_=>false|.E8 _ _,_=>false|.u6 _ _,_=>false
def DH:Ex->Exit
 |.normal=>.normal|.exit id=>.exit id|.ret _=>.ret
def Pst(n:Nat)(rs:List iE)(A:Nat->Nat)(w:World)(G:bp)(x:Ex)(s':St)(w':World)(G':bp)(gZ:List m9)(a':Act):Prop:=
 ∃sr,FT w' G' gZ a' sr n/\Mv w G A w' G' (hJ gZ a' sr G' n)/\(match x with|.ret v=>xQ sr rs=some v/\s'.st=sr.st|_=>s'=sr)
theorem Pst.trans{rs:List iE}{A A1:Nat->Nat}{w1:World}{G1:bp}{x:Ex}{a':Act}(h:Mv w G A w1 G1 A1)(k:Pst n rs A1 w1 G1 x s' w' G' gZ a'):Pst n rs A w G x s' w' G' gZ a':=by
 obtain⟨sr,h1,h2,h3⟩:=k;exact⟨sr,h1,h.trans h2,h3⟩
def Hq(P:Program)(c:Code)(Q:Exit->Act->World->Prop)(a:Act)(w:World):Prop:=
 ∀(b:Frame) (k:List Item) (cs:List Frame),∃e a' w',Q e a' w'/\Arrives P (lone (b.at a (.code c::.inLoop c::k)) cs w) b k cs e a' w'
theorem Jd{c:Code}{Q:Exit->Act->World->Prop}{w:World}(h:c.wp P (Exit.then (Hq P c Q) Q) a w):Hq P c Q a w:=by
 intro b k cs;obtain⟨e,QF,QG,hq,Je⟩:=h b (.inLoop c::k) cs;cases e with
 |normal=>
  obtain⟨ahi,ahj,ahk,ac6,UF⟩:=hq b k cs;exact⟨ahi,ahj,ahk,ac6,.of_steps (Steps.trans Je (.one step_inLoop)) UF⟩
 |exit id=>exact⟨_,QF,QG,hq,.pass (x:=.inLoop c) rfl (λ_ _=>.inl (by simp)) Je⟩|goto l=>exact⟨_,QF,QG,hq,.pass (x:=.inLoop c) rfl (λ_ _=>.inl (by simp)) Je⟩|ret=>exact⟨_,QF,QG,hq,.pass (x:=.inLoop c) rfl (λ_ _=>.inl (by simp)) Je⟩|panic ch=>exact⟨_,QF,QG,hq,.pass (x:=.inLoop c) rfl (λ_ _=>.inl (by simp)) Je⟩|outgrown=>exact⟨_,QF,QG,hq,.pass (x:=.inLoop c) rfl (λ_ _=>.inl (by simp)) Je⟩
theorem Jf{c:Code}{Q:Exit->Act->World->Prop}{w:World}(h:Hq P c Q a w):(Code.loop c).wp P Q a w:=by
 intro b k cs;obtain⟨e,a',w',hq,Je⟩:=h b k cs;exact⟨e,a',w',hq,.of_steps (.one step_loop) Je⟩
theorem qu{Q:Exit->Act->World->Prop}{w:World}:∀{c:Code},(DG c).wp P (Exit.noGoto Q) a w->c.wp P Q a w
 |.scope c,h=>wp_scope_straight (qu (c:=c) (wp_mono h λe _ _ he=>by cases e<;>exact he))|.skip,h|.region ..,h|.seq ..,h|.cond ..,h|.block ..,h|.loop ..,h|.rangeFunc ..,h|.exit _,h|.label _,h|.goto _,h|.refuse _,h|.ret,h=>wp_mono h λe _ _ he=>by
  cases e<;>first|exact he|exact he.elim
def w9(S:Nat->Option aH)(P:Program)(O:lE):Prop:=
 ∀wl af rs c s x s',O.loop wl af rs c s=some (x,s')->∀code n,jA S P n c code=true->∀(w:World) (G:bp) (β:List m9) (a:Act),FT w G β a s n->(∀b,hJ β a s G n b<=1)->
  ∀(Q:Exit->Act->World->Prop),(∀w' G' gZ a',Pst n rs (hJ β a s G n) w G x s' w' G' gZ a'->Q (DH x) a' w')->Hq P code Q a w
theorem FT.clear(h:FT w G β a s n)(l:List Nat):FT w G β a { s with env:=jI l s.env } n/\∀b,hJ β a { s with env:=jI l s.env } G n b<=hJ β a s G n b:=
 FS.Qp h λt=>by
  simp only[uh];split;exact .inr rfl;exact .inl rfl
theorem FT.ac7(h:FT w G β a s n)(c:Src)(l:List Nat):FT w G β a { s with env:=jI l (oA s.env c) } n/\∀b,hJ β a { s with env:=jI l (oA s.env c) } G n b<=hJ β a s G n b:=
 FS.Qp h λt=>by
  have h1:=tu t [c] s.env;simp only[List.foldl_cons,List.foldl_nil]at h1;simp only[uh,h1];split;exact .inr rfl;split;exact .inr rfl;exact .inl rfl
theorem Mv.QH{A A' A'':Nat->Nat}(h:Mv w G A w' G' A')(hl:∀b,A'' b<=A' b):Mv w G A w' G' A'':=
 h.Qj (λ_=>Nat.le_refl _) (λb hb=>Nat.le_trans (hl b) (h.gu b hb)) λb=>Nat.le_trans (hl b) (h.one b)
theorem xd(w:World)(G:bp)(d:Nat):sH w G { w with drawn:=d } G:=⟨λ_ _ hi=>⟨rfl,hi⟩,λ_ loc h=>⟨loc,h,Nat.le_refl _,λ_=>rfl⟩⟩
theorem FT.drawn(h:FT w G β a s n)(d:Nat):FT { w with drawn:=d } G β a s n where
 I2:=h.I2
 size:=h.size
 tU:=λt=>(h.tU t).jK (xd w G d) λ_ _=>⟨rfl,rfl⟩
 lt:=h.lt
 inv:=vN h.inv (xd w G d) rfl (λ_ _=>⟨rfl,rfl⟩) h.inv.nO
 box:=nw h.box (xd w G d) λ_ _=>⟨rfl,rfl⟩
theorem Mv.drawn{A A':Nat->Nat}{d:Nat}(h:Mv { w with drawn:=d } G A w' G' A'):Mv w G A w' G' A':=
 ⟨(xd w G d).trans h.jK,h.gu,h.one,λb hb h0=>h.vK b hb h0,h.size,h.os,h.out⟩
theorem YD{t:Nat}{v v':AV}{bV:aj}(hs:FT w G β a s n)(h1:∀b,hJ β a s G n b<=1)(hv:di s.env t=.val v)(hf:jm wl v s.st=some (v',bV)) :
  ∃G',FT w G' β a ⟨zf s.env t (.val v'),s.bx,bV⟩ n/\Mv w G (hJ β a s G n) w G' (hJ β a ⟨zf s.env t (.val v'),s.bx,bV⟩ G' n):=by
 have htn:t<n:=by
  rcases Nat.lt_or_ge t n with h|h;exact h;rw[hs.lt t h]at hv;cases hv
 have Fk:=hs.tU t;rw[hv]at Fk;obtain⟨G',hF,hr,jy⟩:=yI (w:=w) hs.inv (λb=>by have:=h1 b;unfold hJ uT at this;omega) Fk hf;have KG:∀b,cL b (.val v') (lR a t)=0:=λb=>fz b _ _ jy;have iu:∀b,0<cL b (di s.env t) (lR a t)\/True:=λ_=>.inr trivial;have Du:∀b,gX (λu=>cL b (di (zf s.env t (.val v')) u) (lR a u)) n<=gX (λu=>cL b (di s.env u) (lR a u)) n:=λb=>CA λu _=>by
  rw[vV];by_cases hu:u=t;subst hu;rw[if_pos rfl,KG b];omega;rw[if_neg hu];exact Nat.le_refl _
 have DI:∀b,0<gX (λu=>cL b (di s.env u) (lR a u)) n+gT b β s.bx->eR w G w G' b:=λb hb=>⟨hF.vK b (by have:=h1 b;unfold hJ uT at this;omega),rfl⟩;have hle:∀b,hJ β a ⟨zf s.env t (.val v'),s.bx,bV⟩ G' n b<=hJ β a s G n b:=λb=>by
  have e1:=Du b;have e2:=hF.gu b;show gX (λu=>cL b (di (zf s.env t (.val v')) u) (lR a u)) n+gT b β s.bx+cz b G'.ls bV<=gX (λu=>cL b (di s.env u) (lR a u)) n+gT b β s.bx+cz b G.ls s.st;omega
 refine⟨G',⟨hs.I2,hs.size,λu=>?_,λu hu=>?_,hF.inv,nw (bx:=s.bx) hs.box hF.jK λb hb=>DI b (by omega)⟩,⟨hF.jK,λb _=>hle b,λb=>Nat.le_trans (hle b) (h1 b),λb hb h0=>?_,Nat.le_refl _,rfl,rfl⟩⟩;show kP w G' β (di (zf s.env t (.val v')) u) (lR a u);rw[vV];by_cases hu:u=t;subst hu;rw[if_pos rfl];exact hr;rw[if_neg hu];refine(hs.tU u).jK hF.jK λb hb=>DI b ?_;have IL:u<n:=by
  rcases Nat.lt_or_ge u n with h|h;exact h;rw[hs.lt u h]at hb;simp[cL]at hb
 have:=vW (f:=λu=>cL b (di s.env u) (lR a u)) IL;omega;show di (zf s.env t (.val v')) u=.none;rw[vV,if_neg (by omega)];exact hs.lt u hu;have:cz b G.ls s.st=0:=by unfold hJ uT at h0;omega
 exact⟨hF.vK b this,rfl⟩
theorem zG{wl:Nat}{v v':AV}{st bV:aj}(h:jm wl v st=some (v',bV)):v'.cx=true:=by
 unfold jm at h;split at h;split at h;split at h;split at h;cases h;rfl;cases h;cases h;cases h;cases h;rfl;cases h
theorem zo.put{row:List AV}{g:m9}{k:Nat}{v:AV}{u:Value}(h:zo w G row g)(hk:k<row.length)(hu:g.vals[k]?=some u)(hr:bC w G v u)(hc:v.cx=true):zo w G (ag row k [v]) g:=by
 have hv:cF w G [v] [u]:=⟨rfl,λi c x h1 h2=>by
  cases i with
  |zero=>simp at h1 h2;subst h1;subst h2;exact hr|succ i=>simp at h1⟩
 have hs:ag g.vals k [u]=g.vals:=by
  have ow:k<g.vals.length:=(List.getElem?_eq_some_iff.1 hu).1;have e:=uf g.vals k 1 (by omega);have e2:(g.vals.drop k).take 1=[u]:=by
   rw[List.drop_eq_getElem_cons ow];simp[(List.getElem?_eq_some_iff.1 hu).2]
  rw[e2]at e;exact e
 refine⟨?_,jV h.E1 (by simp[AV.bq,hc]) (by simp;omega),?_⟩;have:=h.tU.ag hv (n:=k) (by simp;omega)
 rwa [hs]at this
 rcases h.sK with⟨h1,h2⟩|⟨b,c,e,h1,h2,h3,h4,h5⟩;subst h2;simp at hk;exact .inr ⟨b,c,e,h1,h2,by rw[eU];exact h3,h4,h5⟩
theorem UG{j k:Nat}{row:List AV}{v v':AV}{bV:aj}(hs:FT w G β a s n)(h1:∀b,hJ β a s G n b<=1)(hr:s.bx[j]?=some row)(hv:row[k]?=some v)(hf:jm wl v s.st=some (v',bV)) :
  ∃G',FT w G' β a ⟨s.env,s.bx.set j (ag row k [v']),bV⟩ n/\Mv w G (hJ β a s G n) w G' (hJ β a ⟨s.env,s.bx.set j (ag row k [v']),bV⟩ G' n):=by
 have xg:=(List.getElem?_eq_some_iff.1 hr).1;have eK:=(List.getElem?_eq_some_iff.1 hv).1;obtain⟨g,hg⟩:∃g,β[j]?=some g:=⟨_,List.getElem?_eq_getElem (by rw[hs.box.len];exact xg)⟩;have hbx:=hs.box.box j row g hr hg;obtain⟨u,hu⟩:∃u,g.vals[k]?=some u:=⟨_,List.getElem?_eq_getElem (by rw[<-hbx.tU.1];exact eK)⟩;obtain⟨G',hF,fR,jy⟩:=yI (w:=w) hs.inv (λb=>by have:=h1 b;unfold hJ uT at this;omega) (hbx.tU.2 k v u hv hu) hf;have kB:=zG hf;have DI:∀b,0<gX (λu=>cL b (di s.env u) (lR a u)) n+gT b β s.bx->eR w G w G' b:=λb hb=>⟨hF.vK b (by have:=h1 b;unfold hJ uT at this;omega),rfl⟩;have hbc:∀b,gT b β (s.bx.set j (ag row k [v']))<=gT b β s.bx:=λb=>by
  have e1:=zn b β s.bx j g row g (ag row k [v']) hg hr;have e2:β.set j g=β:=by
   obtain⟨hj,e⟩:=List.getElem?_eq_some_iff.1 hg;rw[<-e];exact List.set_getElem_self _
  have Cc:ag g.vals k [u]=g.vals:=by
   have ow:k<g.vals.length:=(List.getElem?_eq_some_iff.1 hu).1;have e:=uf g.vals k 1 (by omega);have e2:(g.vals.drop k).take 1=[u]:=by
    rw[List.drop_eq_getElem_cons ow];simp[(List.getElem?_eq_some_iff.1 hu).2]
   rw[e2]at e;exact e
  have e3:=qZ b row [v'] g.vals [u] k hbx.tU.1 rfl (by simp;omega);rw[Cc]at e3;have e4:cu b [v'] [u]=0:=by simp only[cu,fz b v' u jy]
  rw[e2]at e1;omega
 have hle:∀b,hJ β a ⟨s.env,s.bx.set j (ag row k [v']),bV⟩ G' n b<=hJ β a s G n b:=λb=>by
  have e1:=hbc b;have e2:=hF.gu b;show gX (λu=>cL b (di s.env u) (lR a u)) n+gT b β (s.bx.set j (ag row k [v']))+cz b G'.ls bV<=gX (λu=>cL b (di s.env u) (lR a u)) n+gT b β s.bx+cz b G.ls s.st;omega
 have hB:=nw (bx:=s.bx) hs.box hF.jK λb hb=>DI b (by omega);refine⟨G',⟨hs.I2,hs.size,λu=>?_,hs.lt,hF.inv,⟨by simpa using hB.len,λi r x e1 e2=>?_⟩⟩,⟨hF.jK,λb _=>hle b,λb=>Nat.le_trans (hle b) (h1 b),λb hb h0=>?_,Nat.le_refl _,rfl,rfl⟩⟩;refine(hs.tU u).jK hF.jK λb hb=>DI b ?_;have IL:u<n:=by
  rcases Nat.lt_or_ge u n with h|h;exact h;rw[hs.lt u h]at hb;simp[cL]at hb
 have:=vW (f:=λu=>cL b (di s.env u) (lR a u)) IL;omega;simp only[List.getElem?_set]at e1;by_cases Cb:j=i;subst Cb;rw[if_pos rfl,if_pos xg]at e1;cases e1;rw[hg]at e2;cases e2;exact(hB.box j row g hr hg).put eK hu fR kB;rw[if_neg Cb]at e1;exact hB.box i r x e1 e2;have:cz b G.ls s.st=0:=by unfold hJ uT at h0;omega
 exact⟨hF.vK b this,rfl⟩
theorem QI{wl af:Nat}{st kL kO:aj}{id cy i k off:Nat}{v v':AV}{u:Value}(hI:jQ w G st)(hX:∀b,cz b G.ls st<=1)(hp:bC w G (.ptr id cy i k) u)
  (hr:dM st (.ptr id cy i (k+off)) 1=some [v])(hf:jm wl v st=some (v',kL))(hw:cV wl af kL (.ptr id cy i (k+off)) [v']=some kO):∃G',Ip w G st G' kO:=by
 unfold dM at hr;simp only at hr;split at hr;rename_i ve sz rows iu;split at hr;rename_i hve;subst hve;split at hr;rename_i r cZ;obtain⟨loc,b,o,c,e,xs,hl,E2,Ca,jv,G6,AL,g8,gQ,iC,hle,hlen,jz,KL,mF,fA⟩:=zu hI hp iu cZ;obtain⟨jO,Ym,IQ⟩:=ri hr;have Kz:k+off<r.length:=by omega
 have hv:r[k+off]?=some v:=by
  have:((r.drop (k+off)).take 1)[0]?=some v:=by rw[<-jO];rfl
  rw[List.getElem?_take,if_pos (by omega),List.getElem?_drop]at this;exact this
 obtain⟨x,hx⟩:∃x,xs[k+off]?=some x:=⟨_,List.getElem?_eq_getElem (by rw[<-mF.1];exact Kz)⟩;obtain⟨G',hF,fR,jy⟩:=yI hI hX (mF.2 _ _ _ hv hx) hf;have kB:=zG hf;have YB:bC w G' (.ptr id ve i k) u:=hp.AP hF.jK rfl;unfold cV at hw;simp only at hw;split at hw;rename_i ve1 sz1 QJ Fg;split at hw;rename_i ac9;simp only[Bool.and_eq_true,decide_eq_true_eq]at ac9;obtain⟨rfl,_⟩:=ac9;split at hw;rename_i r1 MK;split at hw;rename_i cJ;cases hw;obtain⟨UH,b1,o1,c1,e1,TT,Ur,ahm,ahn,Jg,YE,aho,ada,akD,YF,ahp,adb,ade,UI,Qh,ML⟩:=zu hF.inv YB Fg MK;have hk1:k+off<r1.length:=by simp only[List.length_singleton]at cJ;omega
 obtain⟨x1,hx1⟩:∃x,TT[k+off]?=some x:=⟨_,List.getElem?_eq_getElem (by rw[<-Qh.1];exact hk1)⟩;rw[G6]at YE;simp only[Value.pointer.injEq,Option.some.injEq,Addr.mk.injEq,and_true]at YE;obtain⟨hb,ho⟩:=YE;have hxx:x1=x:=by
  have a1:=fA i xs (k+off) x KL hx;have a2:=ML i TT (k+off) x1 UI hx1;rw[hb,show o+(i*sz+(k+off))=o1+(i*sz1+(k+off)) by omega,a2]at a1;cases a1;rfl
 subst hxx;have hs:ag TT (k+off) [x1]=TT:=by
  have e:=uf TT (k+off) 1 (by have:=(List.getElem?_eq_some_iff.1 hx1).1;omega);have e2:(TT.drop (k+off)).take 1=[x1]:=by
   rw[List.drop_eq_getElem_cons (List.getElem?_eq_some_iff.1 hx1).1];simp[(List.getElem?_eq_some_iff.1 hx1).2]
  rw[e2]at e;exact e
 have adf:cF w G' (ag r1 (k+off) [v']) TT:=by
  have Ff:cF w G' [v'] [x1]:=⟨rfl,λi c x h1 h2=>by
   cases i with
   |zero=>simp at h1 h2;subst h1;subst h2;exact fR|succ i=>simp at h1⟩
  have:=Qh.ag Ff (n:=k+off) (by simp;omega)
  rwa [hs]at this
 have vg:qY w G' (.rows ve1 sz1 (QJ.set i (ag r1 (k+off) [v']))) UH:=by
  refine⟨ahm,ahn,dg.2 λr' xS=>?_,λr' xS=>?_,by simp[Jg.len],Jg.size,by simp[Jg.tj],λi' r' Ko h1 h2=>?_,.inr ⟨b1,o1,c1,e1,aho,ada,YF,ahp,by simpa using adb,ade,ML⟩⟩;rcases List.mem_or_eq_of_mem_set xS with h|h;exact dg.1 Jg.FE r' h;rw[h,eU];exact dg.1 Jg.FE r1 (dm MK);rcases List.mem_or_eq_of_mem_set xS with h|h;exact Jg.E1 r' h;rw[h];exact jV (Jg.E1 r1 (dm MK)) (by simp[AV.bq,kB]) (by simpa using cJ);rw[List.getElem?_set]at h1;by_cases KM:i=i';subst KM;rw[if_pos rfl]at h1;split at h1;cases h1;rw[UI]at h2;cases h2;exact adf;cases h1;rw[if_neg KM]at h1;exact Jg.tZ i' r' Ko h1 h2
 refine⟨G',hF.trans ⟨sH.refl w G',Cx hF.inv (sH.refl w G') (gb _ _ _ Ur).symm (λ_ _ _ _ _ _ _ _=>⟨rfl,rfl⟩) vg hF.inv.nO,λb'=>?_,λ_ _=>rfl⟩⟩;have h1:=vJ b' G'.ls kL id UH _ UH (.rows ve1 sz1 (QJ.set i (ag r1 (k+off) [v']))) Ur Fg;rw[gb _ _ _ Ur]at h1;have h4:=tn b' QJ UH.vals i r1 TT (ag r1 (k+off) [v']) TT MK UI;rw[gb _ _ _ UI]at h4;have e3:=qZ b' r1 [v'] TT [x1] (k+off) Qh.1 rfl (by simp;omega);rw[hs]at e3;have e4:cu b' [v'] [x1]=0:=by simp only[cu,fz b' v' x1 jy]
 simp only[je]at h1;omega;cases hw;cases hw;cases hw;cases hw;cases hr;cases hr;cases hr
theorem Oi{wl af:Nat}{st kL kO:aj}{id cy i k off:Nat}{v v':AV}{u:Value}(hI:jQ w G st)(hX:∀b,cz b G.ls st<=1)(hp:bC w G (.ptr id cy i k) u)
  (hr:dM st (.ptr id cy i (k+off)) 1=some [v])(hf:o6 wl v st=some (v',kL))(hw:cV wl af kL (.ptr id cy i (k+off)) [v']=some kO):∃G',Ip w G st G' kO:=by
 unfold o6 at hf;split at hf;rename_i lF eS;cases hf;unfold dM at hr;simp only at hr;split at hr;rename_i ve sz rows iu;split at hr;rename_i hve;subst hve;split at hr;rename_i r cZ;obtain⟨jO,Ym,IQ⟩:=ri hr;have Kz:k+off<r.length:=by omega
 have hv:r[k+off]?=some (.raw lF eS):=by
  have:((r.drop (k+off)).take 1)[0]?=some (.raw lF eS):=by rw[<-jO];rfl
  rw[List.getElem?_take,if_pos (by omega),List.getElem?_drop]at this;exact this
 have Kl:id<st.length:=(List.getElem?_eq_some_iff.1 iu).1;have Fg:(st++[dy.rows 0 lF eS])[id]?=some (.rows ve sz rows):=by rw[List.getElem?_append_left Kl];exact iu
 unfold cV at hw;simp only[Fg,cZ]at hw;split at hw;split at hw;cases hw;exact Up hI hp iu cZ hv;cases hw;cases hw;cases hr;cases hr;cases hr;exact QI hI hX hp hr hf hw
theorem UJ{wl af:Nat}{t id cy i k off:Nat}{v v':AV}{kL kO:aj}(hs:FT w G β a s n)(h1:∀b,hJ β a s G n b<=1)(ht:di s.env t=.val (.ptr id cy i k))
  (hr:dM s.st (.ptr id cy i (k+off)) 1=some [v])(hf:o6 wl v s.st=some (v',kL))(hw:cV wl af kL (.ptr id cy i (k+off)) [v']=some kO) :
  ∃G',FT w G' β a ⟨s.env,s.bx,kO⟩ n/\Mv w G (hJ β a s G n) w G' (hJ β a ⟨s.env,s.bx,kO⟩ G' n):=by
 have Fk:kP w G β (di s.env t) (lR a t):=hs.tU t;rw[ht]at Fk;obtain⟨G',hF⟩:=Oi hs.inv (λb=>by have:=h1 b;unfold hJ uT at this;omega) Fk hr hf hw;have DI:∀b,0<gX (λu=>cL b (di s.env u) (lR a u)) n+gT b β s.bx->eR w G w G' b:=λb hb=>⟨hF.vK b (by have:=h1 b;unfold hJ uT at this;omega),rfl⟩;have hle:∀b,hJ β a ⟨s.env,s.bx,kO⟩ G' n b<=hJ β a s G n b:=λb=>by
  have e2:=hF.gu b;show gX (λu=>cL b (di s.env u) (lR a u)) n+gT b β s.bx+cz b G'.ls kO<=gX (λu=>cL b (di s.env u) (lR a u)) n+gT b β s.bx+cz b G.ls s.st;omega
 refine⟨G',⟨hs.I2,hs.size,λu=>?_,hs.lt,hF.inv,nw (bx:=s.bx) hs.box hF.jK λb hb=>DI b (by omega)⟩,⟨hF.jK,λb _=>hle b,λb=>Nat.le_trans (hle b) (h1 b),λb hb h0=>?_,Nat.le_refl _,rfl,rfl⟩⟩;refine(hs.tU u).jK hF.jK λb hb=>DI b ?_;have IL:u<n:=by
  rcases Nat.lt_or_ge u n with h|h;exact h;rw[hs.lt u h]at hb;simp[cL]at hb
 have:=vW (f:=λu=>cL b (di s.env u) (lR a u)) IL;omega;have:cz b G.ls s.st=0:=by unfold hJ uT at h0;omega
 exact⟨hF.vK b this,rfl⟩
end Ax
namespace Ax
open Go
variable {S:Nat->Option aH}{P:Program}{O:lE}{wl af n:Nat}
theorem xh{Q:Exit->Act->World->Prop}{x:Ex}{a:Act}{w:World}(h:Q (DH x) a w):Exit.noGoto Q (DH x) a w:=by
 cases x<;>exact h
theorem Oj{x y:bw}{c:Code}(h:jA S P n (.seq x y) c=true):(∃t,x=.TM t/\jA S P n y c=true)\/(∃j k,x=.E8 j k/\jA S P n y c=true)\/(∃j k,x=.u6 j k/\jA S P n y c=true)\/(∃a b,DG c=.seq a b/\jA S P n x a=true/\jA S P n y b=true):=by
 unfold jA at h;split at h;exact .inl ⟨_,rfl,h⟩;exact .inr (.inl ⟨_,_,rfl,h⟩);exact .inr (.inr (.inl ⟨_,_,rfl,h⟩));split at h;rename_i a b he;simp only[Bool.and_eq_true]at h;exact .inr (.inr (.inr ⟨a,b,he,h.1,h.2⟩));cases h
theorem sP(hO:jX S P O)(hL:w9 S P O)(hP:BF S O){rs:List iE}:∀(c:bw)(code:Code)(s s':St)(x:Ex)(w:World)(G:bp)(β:List m9)(a:Act)(Q:Exit->Act->World->Prop),
  jA S P n c code=true->FT w G β a s n->(∀b,hJ β a s G n b<=1)->iW O wl af rs c s=some (x,s')->
  (∀w' G' gZ a',Pst n rs (hJ β a s G n) w G x s' w' G' gZ a'->Q (DH x) a' w')->code.wp P Q a w
 |.skip,code,s,s',x,w,G,β,a,Q,hm,hs,h1,he,hQ=>by
  refine qu ?_;simp only[iW,Option.some.injEq,Prod.mk.injEq]at he;obtain⟨rfl,rfl⟩:=he;unfold jA at hm;split at hm;rename_i hp;rw[hp];exact wp_skip (hQ w G β a ⟨s,hs,Mv.refl h1,rfl⟩);cases hm
 |.region m draw dj,code,s,s',x,w,G,β,a,Q,hm,hs,h1,he,hQ=>by
  refine qu ?_;unfold jA at hm;split at hm;rename_i id dG d hp;rw[hp];unfold iW at he;cases draw with
  |none=>
   simp only[Hp,Bool.and_eq_true,Bool.not_eq_true']at hm;obtain⟨rfl,hm⟩:=hm;simp only at he;split at he;rename_i s1 I1;cases he;refine wp_region ?_;have:=Dv (Q:=Exit.noGoto Q) hO dG.toList m 0 w G β a s rfl hm hs h1 I1 λw' G' gZ a' f1 f2=>by
    obtain⟨g1,g2⟩:=f1.clear dj;exact hQ w' G' gZ a' ⟨_,g1,f2.QH g2,rfl⟩
   rw[List.range_eq_range'];simpa using this;cases he
  |some cn=>
   simp only[Hp,Bool.and_eq_true]at hm;obtain⟨rfl,hm⟩:=hm;simp only at he;split at he;rename_i s1 I1;cases he;exact Jc (Q:=Exit.noGoto Q) hm hO hP hs h1 I1 (λd=>⟨hs.drawn d,λ_ _ _ h=>h.drawn⟩) λw' G' gZ a' f1 f2=>by
    obtain⟨g1,g2⟩:=f1.clear dj;exact hQ w' G' gZ a' ⟨_,g1,f2.QH g2,rfl⟩
   cases he
  cases hm
 |.seq c1 c2,code,s,s',x,w,G,β,a,Q,hm,hs,h1,he,hQ=>by
  rcases Oj hm with⟨t,rfl,UK⟩|⟨j,k,rfl,UK⟩|⟨t,off,rfl,UK⟩|⟨a1,b1,hp,hm1,UK⟩;unfold iW at he;cases hc:iW O wl af rs (.TM t) s with
  |none=>rw[hc]at he;cases he|some y=>
   obtain⟨x1,s1⟩:=y;rw[hc]at he;unfold iW at hc;cases hv:di s.env t with
   |none=>rw[hv]at hc;cases hc|fp j k=>rw[hv]at hc;cases hc|val v=>
    rw[hv]at hc;simp only at hc;cases hf:jm wl v s.st with
    |none=>rw[hf]at hc;cases hc|some y=>
     obtain⟨v',bV⟩:=y;rw[hf]at hc;cases hc;obtain⟨G',f1,f2⟩:=YD hs h1 hv hf;exact sP hO hL hP c2 code _ s' x w G' β a Q UK f1 f2.one he λw' G2 Qq a2 hp=>hQ w' G2 Qq a2 (hp.trans f2)
  unfold iW at he;cases hc:iW O wl af rs (.E8 j k) s with
  |none=>rw[hc]at he;cases he|some y=>
   obtain⟨x1,s1⟩:=y;rw[hc]at he;unfold iW at hc;cases hb:s.bx[j]? with
   |none=>rw[hb]at hc;cases hc|some row=>
    rw[hb]at hc;simp only at hc;cases hv:row[k]? with
    |none=>rw[hv]at hc;cases hc|some v=>
     rw[hv]at hc;simp only at hc;cases hf:jm wl v s.st with
     |none=>rw[hf]at hc;cases hc|some y=>
      obtain⟨v',bV⟩:=y;rw[hf]at hc;cases hc;obtain⟨G',f1,f2⟩:=UG hs h1 hb hv hf;exact sP hO hL hP c2 code _ s' x w G' β a Q UK f1 f2.one he λw' G2 Qq a2 hp=>hQ w' G2 Qq a2 (hp.trans f2)
  unfold iW at he;cases hc:iW O wl af rs (.u6 t off) s with
  |none=>rw[hc]at he;cases he|some y=>
   obtain⟨x1,s1⟩:=y;rw[hc]at he;obtain⟨rfl,id,cy,i,k,v,v',kL,kO,g1,g2,g3,g4,rfl⟩:=CY hc;simp only at he;obtain⟨G',f1,f2⟩:=UJ hs h1 g1 g2 g3 g4;exact sP hO hL hP c2 code _ s' x w G' β a Q UK f1 f2.one he λw' G2 Qq a2 hp=>hQ w' G2 Qq a2 (hp.trans f2)
  refine qu ?_;rw[hp];refine wp_seq ?_;unfold iW at he;cases hc:iW O wl af rs c1 s with
  |none=>rw[hc]at he;cases he|some y=>
   obtain⟨x1,s1⟩:=y;rw[hc]at he;refine sP hO hL hP c1 a1 s s1 x1 w G β a _ hm1 hs h1 hc λw' G' gZ a' Xh=>?_;cases x1 with
   |normal=>
    obtain⟨sr,g1,g2,g3⟩:=Xh;simp only at g3;subst g3;exact sP hO hL hP c2 b1 s1 s' x w' G' gZ a' _ UK g1 g2.one he λw2 G2 Qq a2 ur=>xh (hQ w2 G2 Qq a2 (ur.trans g2))
   |exit id=>cases he;exact hQ w' G' gZ a' Xh|ret v=>cases he;exact hQ w' G' gZ a' Xh
 |.cond t ca c1 cb c2,code,s,s',x,w,G,β,a,Q,hm,hs,h1,he,hQ=>by
  refine qu ?_;unfold jA at hm;split at hm;rename_i u a1 b1 hp;rw[hp];simp only[Bool.and_eq_true]at hm;obtain⟨⟨hms,hm1⟩,UK⟩:=hm;unfold iW at he;have YG:=(MB hs.tU hms).1;have hb:∀b,vD s.env t=some b->a.eval u=.bool b:=λb hb=>by
   unfold vD at hb;rw[CC]at hb;split at hb;rename_i b' oE;cases hb;rw[oE]at YG;exact bC.jT YG;cases hb
  split at he;rename_i hr;obtain⟨g1,g2⟩:=FT.ac7 hs t ca;refine wp_cond_true (hb _ hr) (sP hO hL hP c1 a1 _ s' x w G β a _ hm1 g1 (λb=>Nat.le_trans (g2 b) (h1 b)) he λw' G' gZ a' hp=>xh (hQ w' G' gZ a' (hp.trans ((Mv.refl h1).QH g2))));rename_i hr;obtain⟨g1,g2⟩:=FT.ac7 hs t cb;refine wp_cond_false (hb _ hr) (sP hO hL hP c2 b1 _ s' x w G β a _ UK g1 (λb=>Nat.le_trans (g2 b) (h1 b)) he λw' G' gZ a' hp=>xh (hQ w' G' gZ a' (hp.trans ((Mv.refl h1).QH g2))));cases he;cases hm
 |.block id c1,code,s,s',x,w,G,β,a,Q,hm,hs,h1,he,hQ=>by
  refine qu ?_;unfold jA at hm;split at hm;rename_i j a1 hp;rw[hp];simp only[Bool.and_eq_true,beq_iff_eq]at hm;obtain⟨rfl,hm1⟩:=hm;refine wp_block ?_;unfold iW at he;cases hc:iW O wl af rs c1 s with
  |none=>rw[hc]at he;cases he|some y=>
   obtain⟨x1,s1⟩:=y;rw[hc]at he;refine sP hO hL hP c1 a1 s s1 x1 w G β a _ hm1 hs h1 hc λw' G' gZ a' Xh=>?_;cases x1 with
   |normal=>cases he;exact hQ w' G' gZ a' Xh|exit i=>
    simp only at he;simp only[DH,Exit.inBlock];split at he;rename_i hi;cases he;rw[if_pos hi];exact hQ w' G' gZ a' Xh;rename_i hi;cases he;rw[if_neg hi];exact hQ w' G' gZ a' Xh
   |ret v=>cases he;exact hQ w' G' gZ a' Xh
  cases hm
 |.loop c1,code,s,s',x,w,G,β,a,Q,hm,hs,h1,he,hQ=>by
  refine qu ?_;unfold jA at hm;split at hm;rename_i a1 hp;rw[hp];unfold iW at he;exact Jf (hL wl af rs c1 s x s' he a1 n hm w G β a hs h1 _ λw' G' gZ a' hp=>xh (hQ w' G' gZ a' hp));cases hm
 |.exit id,code,s,s',x,w,G,β,a,Q,hm,hs,h1,he,hQ=>by
  refine qu ?_;simp only[iW,Option.some.injEq,Prod.mk.injEq]at he;obtain⟨rfl,rfl⟩:=he;unfold jA at hm;split at hm;rename_i j hp;rw[hp];simp only[beq_iff_eq]at hm;subst hm;exact wp_exit (hQ w G β a ⟨s,hs,Mv.refl h1,rfl⟩);cases hm
 |.ret,code,s,s',x,w,G,β,a,Q,hm,hs,h1,he,hQ=>by
  refine qu ?_;unfold jA at hm;split at hm;rename_i hp;rw[hp];unfold iW at he;split at he;rename_i v hv;cases he;exact wp_ret (hQ w G β a ⟨s,hs,Mv.refl h1,hv,rfl⟩);cases he;cases hm
 |.TM t,code,s,s',x,w,G,β,a,Q,hm,hs,h1,he,hQ=>by
  simp[jA]at hm
 |.E8 j k,code,s,s',x,w,G,β,a,Q,hm,hs,h1,he,hQ=>by
  simp[jA]at hm
 |.u6 t off,code,s,s',x,w,G,β,a,Q,hm,hs,h1,he,hQ=>by
  simp[jA]at hm
def MM(S:Nat->Option aH)(P:Program)(sf:aH):Bool:=
 match P.funcs[sf.eM]? with
 |some fn=>match fn.body with
  |some code => !(fn.name == "runtime.NumGoroutine") && jA S P fn.ntmps sf.body code && yK P fn.results.toList sf.results && vZ (oH sf.results) && vZ (Dw sf.results) && decide (sf.aF ≤ fn.ntmps)
  |none=>false
 |none=>false
def Jh(S:Nat->Option aH)(P:Program):Prop:=∀f sf,S f=some sf->MM S P sf=true/\(f<100000->sf.eM=f)
def Ci(b:Nat)(args:List AV)(vs:List Value)(k t:Nat):Nat:=if k<=t then (match args[t-k]?,vs[t-k]? with|some v,some u=>gu b v u|_,_=>0) else 0
theorem Ji{w:World}{G:bp}(b:Nat):∀(args:List AV)(vs:List Value)(k N:Nat),args.length=vs.length->k+args.length<=N->
  gX (Ci b args vs k) N=cu b args vs
 |[],[],k,N,_,_=>by
  have:gX (Ci b [] [] k) N=gX (λ_=>0) N:=oF λt _=>by simp[Ci]
  rw[this,FX];rfl
 |v::args,u::vs,k,N,hl,hN=>by
  have ih:=Ji (w:=w) (G:=G) b args vs (k+1) N (by simpa using hl) (by simp at hN;omega);have:=tA (f:=Ci b (v::args) (u::vs) k) (g:=Ci b args vs (k+1)) (d:=k) (n:=N) (by simp at hN;omega) λt ht=>by
    unfold Ci;by_cases hk:k<=t;have h1:k+1<=t:=(by omega);have h2:t-k=(t-(k+1))+1:=(by omega);simp only[hk,h1,if_true,h2,List.getElem?_cons_succ];have h1:¬k+1<=t:=(by omega);simp only[hk,h1,if_false]
  have e1:Ci b (v::args) (u::vs) k k=gu b v u:=by simp[Ci]
  have e2:Ci b args vs (k+1) k=0:=by unfold Ci;rw[if_neg (by omega)]
  rw[e1,e2,ih]at this;simp only[cu];omega
 |[],_::_,_,_,h,_=>by simp at h|_::_,[],_,_,h,_=>by simp at h
end Ax
namespace Ax
open Go
variable {S:Nat->Option aH}{P:Program}{O:lE}{wl af n:Nat}
variable {w w':World}{G G':bp}{β gZ:List m9}{a:Act}{s s':St}
theorem UL{fn:Func}{rs:List iE}{v:AV}(hs:FT w G β a s n)(hm:yK P fn.results.toList rs=true)(h1:vZ (oH rs)=true)(h2:vZ (Dw rs)=true)(hr:xQ s rs=some v) :
  ∃u,(results fn a.tmps).run P w=.ok u w/\bC w G v u/\∀b,gu b v u+cz b G.ls s.st<=hJ β a s G n b:=by
 unfold xQ at hr;cases jv:yA s rs with
 |none=>rw[jv]at hr;cases hr|some vs=>
  obtain⟨us,k1,k2,k3⟩:=F5 hs _ rs vs hm jv;have k4:=I5 k1;rw[jv]at hr;have hle:∀b,cu b vs us+cz b G.ls s.st<=hJ β a s G n b:=λb=>by
   have e1:=k3 b;have e2:=zx (f:=λt=>cL b (di s.env t) (lR a t)) (n:=n) (λt ht=>by rw[hs.lt t ht];rfl) _ (w8 h1);have e3:=zx (f:=tC b β s.bx) (n:=s.bx.length) (λt ht=>by
    unfold tC;rw[List.getElem?_eq_none ht];split;rename_i h;cases h
    rfl) _ (w8 h2)
   have e4:=I6 b β s.bx;unfold hJ uT;omega
  match vs,us,k2,hle,hr,k4 with
  |[v1],[u],k2,hle,hr,k4=>
   cases hr;refine⟨u,k4,k2.2 0 _ u rfl rfl,λb=>?_⟩;have:=hle b;simp only[cu]at this;omega
  |[],us,k2,hle,hr,k4=>
   have:us=[]:=by have:=k2.1;simpa using this.symm
   subst this;cases hr;exact⟨_,k4,.fm _ _ rfl λi c v h=>by simp at h,λb=>by have:=hle b;simpa [gu,Of] using this⟩
  |v1::v2::vs,us,k2,hle,hr,k4=>
   cases hr;match us,k2,hle,k4 with
   |[],k2,_,_=>have:=k2.1;simp at this|[_],k2,_,_=>have:=k2.1;simp at this|u1::u2::us,k2,hle,k4=>
    exact⟨_,k4,.fm _ _ (by simpa using k2.1) λi c v h k=>k2.2 i c v h (by simpa using k),λb=>by have:=hle b;simpa [gu,Of] using this⟩
  |[_],[],k2,_,_,_=>have:=k2.1;simp at this|[_],_::_::_,k2,_,_,_=>have:=k2.1;simp at this
theorem Hr{m:Mode}{st kL bV:aj}{v v':AV}{u:Value}{A:Nat->Nat}(hI0:jQ w G st)(hk:dQ (m.u7 st.length wl) (m.oB st.length af) st kL)(hf:m.lG st v kL=some (v',bV))(hr:bC w' G' v u)(hI:jQ w' G' kL)
  (hM:Mv w G A w' G' (λb=>gu b v u+cz b G'.ls kL)):∃G2,bC w' G2 v' u/\jQ w' G2 bV/\Mv w G A w' G2 (λb=>gu b v' u+cz b G2.ls bV):=by
 have adh:(m=.pure\/m=.kg)->FY st.length kL:=λh=>by
  have hl:m.oB st.length af=st.length:=by rcases h with rfl|rfl<;>rfl
  rw[hl]at hk;exact hk.af st.length (Nat.le_refl _) (Nat.le_refl _) hI0.acS
 have cut:v.ax=true->FY st.length kL->∃G2,bC w' G2 v u/\jQ w' G2 (kL.take st.length)/\Mv w G A w' G2 (λb=>gu b v u+cz b G2.ls (kL.take st.length)):=by
  intro hp hl;have hc:∀b,gu b v u+cz b (G'.cut st.length).ls (kL.take st.length)<=gu b v u+cz b G'.ls kL:=λb=>by
   have:=FZ b st.length G'.ls kL;simp only[bp.cut];omega
  refine⟨G'.cut st.length,hr.Dp (jf _ v hp),hI.Dp hl,?_⟩;exact⟨Uw hM.jK (by rw[hI0.len];exact Nat.le_refl _),λb hb=>Nat.le_trans (hc b) (hM.gu b hb),λb=>Nat.le_trans (hc b) (hM.one b),λb hb h0=>hM.vK b hb h0,hM.size,hM.os,hM.out⟩
 cases m with
 |zg=>
  simp only[Mode.lG,Option.some.injEq,Prod.mk.injEq]at hf;obtain⟨rfl,rfl⟩:=hf;exact⟨G',hr,hI,hM⟩
 |pure=>
  simp only[Mode.lG]at hf;split at hf;rename_i hp;cases hf;obtain⟨G2,c1,c2,c3⟩:=cut hp (adh (.inl rfl));have:kL.take st.length=st:=by
   apply List.ext_getElem?;intro i;rw[List.getElem?_take];split;rename_i hi;exact hk.low i (by simpa [Mode.u7] using hi) hi;rename_i hi;rw[List.getElem?_eq_none (by omega)]
  rw[this]at c2 c3;exact⟨G2,c1,c2,c3⟩;cases hf
 |kg=>
  simp only[Mode.lG]at hf;split at hf;rename_i hp;cases hf;exact cut hp (adh (.inr rfl));cases hf
theorem K2(w:World)(G:bp)(k:Nat):lH w G (List.replicate k ⟨none,[]⟩) (List.replicate k []) where
 len:=by simp
 box:=λj row g h1 h2=>by
  rw[List.getElem?_replicate]at h1 h2;split at h1;rename_i hj;rw[if_pos hj]at h2;cases h1;cases h2;exact⟨⟨rfl,λi c v h=>by simp at h⟩,rfl,.inl ⟨rfl,rfl⟩⟩;cases h1
theorem DJ(b:Nat):∀k,gT b (List.replicate k ⟨none,[]⟩) (List.replicate k [])=0
 |0=>by simp[gT]|k+1=>by simp[List.replicate_succ,gT,DJ b k,cu]
theorem zH(hT:Jh S P)(hO:jX S P O)(hL:w9 S P O)(hP:BF S O)(hK:ry O){f:Nat}{sf:aH}(hf:S f=some sf){args:List AV}{st bV:aj}{v:AV}(hc:eZ O wl af sf args st=some (v,bV)) :
  Oc P sf.eM/\(f<100000->sf.eM=f)/\
  ∀(w:World) (G:bp) (vs:List Value),cF w G args vs->jQ w G st->(∀b,cu b args vs+cz b G.ls st<=1)->
   Calls P sf.eM vs.toArray w λe w'=>∃u G',e=.returned u/\bC w' G' v u/\jQ w' G' bV/\
    Mv w G (λb=>cu b args vs+cz b G.ls st) w' G' (λb=>gu b v u+cz b G'.ls bV):=by
 obtain⟨hm,ahr⟩:=hT f sf hf;unfold MM at hm;split at hm;rename_i fn Ga;split at hm;rename_i code Xi;simp only[Bool.and_eq_true,Bool.not_eq_true',decide_eq_true_eq]at hm;obtain⟨⟨⟨⟨⟨adi,pM⟩,Ok⟩,hnt⟩,Qn⟩,hnp⟩:=hm;refine⟨⟨fn,Ga,adi,by rw[Xi];rfl⟩,ahr,λw G vs hR hI h1=>?_⟩;unfold eZ at hc;split at hc;rename_i hlen;split at hc;rename_i x s adj;split at hc;rename_i v1 Fl;refine calls_of_wp Ga Xi ?_;have W8:vs.length=args.length:=hR.1.symm;have dF:(vs.toArray++Array.replicate (fn.ntmps-vs.toArray.size) undef).size=fn.ntmps:=by
  simp only[Array.size_append,List.size_toArray,Array.size_replicate];omega
 let a0:Act:={ tmps:=vs.toArray++Array.replicate (fn.ntmps-vs.toArray.size) undef,defers:=[] }
 have adk:∀t u,vs[t]?=some u->lR a0 t=u:=λt u hu=>by
  have aW:=(List.getElem?_eq_some_iff.1 hu).1;have:a0.tmps[t]?=some u:=by
   show (vs.toArray++Array.replicate (fn.ntmps-vs.toArray.size) undef)[t]?=some u;rw[Array.getElem?_append];simp[aW,(List.getElem?_eq_some_iff.1 hu).2]
  simp[lR,this]
 have hη:∀t,di (pF sf args st).env t=if t∈sf.dj then .none else (match args[t]? with|some v=>.val v|none=>.none):=λt=>by
  simp only[pF,uh,FU,Nat.zero_le,if_true,Nat.sub_zero]
  rfl
 have hFT:FT w G (List.replicate sf.aP ⟨none,[]⟩) a0 (pF sf args st) fn.ntmps:=by
  refine⟨rfl,by show fn.ntmps<=(vs.toArray++Array.replicate (fn.ntmps-vs.toArray.size) undef).size;omega,λt=>?_,λt ht=>?_,hI,K2 w G sf.aP⟩;rw[hη];split
  trivial
  split;rename_i v0 hv0;have aW:t<vs.length:=by rw[W8];exact(List.getElem?_eq_some_iff.1 hv0).1
  have hu:=List.getElem?_eq_getElem aW;rw[adk t _ hu];exact hR.2 t v0 _ hv0 hu
  trivial
  rw[hη,List.getElem?_eq_none (by omega)];simp
 have YH:∀b,hJ (List.replicate sf.aP ⟨none,[]⟩) a0 (pF sf args st) G fn.ntmps b<=cu b args vs+cz b G.ls st:=λb=>by
  have e1:=Ji (w:=w) (G:=G) b args vs 0 fn.ntmps W8.symm (by omega);have e2:gX (λt=>cL b (di (pF sf args st).env t) (lR a0 t)) fn.ntmps<=gX (Ci b args vs 0) fn.ntmps:=CA λt _=>by
   rw[hη];simp only[Ci,Nat.zero_le,if_true,Nat.sub_zero];split;simp[cL];cases hv0:args[t]? with
   |none=>simp[cL]|some v0=>
    have aW:t<vs.length:=(by rw[W8];exact(List.getElem?_eq_some_iff.1 hv0).1);have hu:=List.getElem?_eq_getElem aW;rw[adk t _ hu,hu];exact Nat.le_refl _
  have e3:=DJ b sf.aP;unfold hJ uT;show gX (λt=>cL b (di (pF sf args st).env t) (lR a0 t)) fn.ntmps+gT b (List.replicate sf.aP ⟨none,[]⟩) (List.replicate sf.aP [])+cz b G.ls st<=_;omega
 have h0:∀b,hJ (List.replicate sf.aP ⟨none,[]⟩) a0 (pF sf args st) G fn.ntmps b<=1:=λb=>Nat.le_trans (YH b) (h1 b);refine sP hO hL hP sf.body code _ s x w G _ a0 _ pM hFT h0 adj λw' G' gZ a' hp=>?_;obtain⟨sr,g1,g2,g3⟩:=hp;have adl:dQ (sf.mode.u7 st.length wl) (sf.mode.oB st.length af) st s.st:=jW hK adj;have lG:xQ sr sf.results=some v1->s.st=sr.st->a'.defers=[]/\∃u,(results fn a'.tmps).run P w'=.ok u w'/\∃u' G',(Ending.returned u)=.returned u'/\bC w' G' v u'/\jQ w' G' bV/\
   Mv w G (λb=>cu b args vs+cz b G.ls st) w' G' (λb=>gu b v u'+cz b G'.ls bV):=by
  intro Yf iu;obtain⟨u,r1,r2,r3⟩:=UL g1 Ok hnt Qn Yf;have hMv:Mv w G (λb=>cu b args vs+cz b G.ls st) w' G' (λb=>gu b v1 u+cz b G'.ls s.st):=by
   rw[iu];have g3:=g2.QH r3;exact g3.Qj YH (λb hb=>Nat.le_trans (g3.gu b hb) (YH b)) g3.one
  have aht:jQ w' G' s.st:=by rw[iu];exact g1.inv
  obtain⟨G2,c1,c2,c3⟩:=Hr hI adl hc r2 aht hMv;exact⟨g1.I2,u,r1,u,G2,rfl,c1,c2,c3⟩
 cases x with
 |normal=>
  simp only at g3;subst g3;exact lG Fl rfl
 |exit id=>cases Fl|ret v2=>
  cases Fl;exact lG g3.1 g3.2
 cases hc;cases hc;cases hc;cases hm;cases hm
theorem DK{sf:aH}{args:List AV}{st bV:aj}{v:AV}(h:eZ O wl af sf args st=some (v,bV))(hm:sf.mode=.pure):v.ax=true/\bV=st:=by
 unfold eZ at h;split at h;split at h;split at h;rw[hm]at h;simp only[Mode.lG]at h;split at h;rename_i hp;cases h;exact⟨hp,rfl⟩;cases h;cases h;cases h;cases h
theorem zJ(hT:Jh S P)(hO:jX S P O)(hL:w9 S P O)(hP:BF S O)(hK:ry O){f:Nat}{sf:aH}(hf:S f=some sf){args:List AV}{st bV:aj}{v:AV}(hc:fQ O wl af sf args st=some (v,bV)) :
  Oc P sf.eM/\(f<100000->sf.eM=f)/\
  ∀(w:World) (G:bp) (vs:List Value),cF w G args vs->jQ w G st->(∀b,cu b args vs+cz b G.ls st<=1)->
   Calls P sf.eM vs.toArray w λe w'=>∃u G',e=.returned u/\bC w' G' v u/\jQ w' G' bV/\
    Mv w G (λb=>cu b args vs+cz b G.ls st) w' G' (λb=>gu b v u+cz b G'.ls bV):=by
 unfold fQ at hc;split at hc;rename_i Kj;simp only[zi,Bool.and_eq_true,decide_eq_true_eq]at Kj;obtain⟨hm,hpa⟩:=Kj;simp only[Option.map_eq_some_iff]at hc;obtain⟨⟨v0,st0⟩,yH,hx⟩:=hc;cases hx;obtain⟨G6,rfl⟩:=DK yH hm;obtain⟨h1,h2,h3⟩:=zH hT hO hL hP hK hf yH;refine⟨h1,h2,λw G vs hR hI mh=>?_⟩;have YI:∀(i:Nat) c,args[i]?=some c->c.under 0=true:=λi c hc=>jf 0 c ((gG args).1 hpa c (dm hc));have hI0:jQ w (G.cut 0) []:=by
  have:=hI.Dp (n:=0) λid ob h=>by omega
  simpa using this
 have UM:∀b,cz b (G.cut 0).ls []=0:=λb=>by simp[cz]
 refine(h3 w (G.cut 0) vs ⟨hR.1,λi c v e1 e2=>(hR.2 i c v e1 e2).Dp (YI i c e1)⟩ hI0 λb=>by rw[UM b];have:=mh b;omega).mono λe w' he=>?_;obtain⟨u,G',rfl,r1,r2,r3⟩:=he;have sM:∀b,cz b G'.ls []=0:=λb=>by simp[cz]
 have hS:sH w G w' ⟨G.ls,G'.mM⟩:=⟨λb o hi=>r3.jK.PM b o hi,λid loc hl=>⟨loc,hl,Nat.le_refl _,λ_=>rfl⟩⟩;have DI:∀b,b<w.heap.size->cu b args vs=0->eR w G w' ⟨G.ls,G'.mM⟩ b:=λb hb h0=>by
  have:=r3.vK b hb (by rw[h0,UM b]);exact this
 have hIs:jQ w' ⟨G.ls,G'.mM⟩ st:=vN hI hS rfl (λb hb=>DI b (hI.held hb) (by have:=mh b;omega)) r2.nO;have fR:bC w' ⟨G.ls,G'.mM⟩ v0 u:=by
  have h0:=r1.Dp (n:=0) (jf 0 v0 G6);exact h0.jK ⟨λb o hi=>⟨rfl,hi⟩,λid loc hl=>by simp[bp.cut]at hl⟩ λb _=>⟨rfl,rfl⟩
 refine⟨u,⟨G.ls,G'.mM⟩,rfl,fR,hIs,hS,λb hb=>?_,λb=>?_,λb hb h0=>DI b hb (by omega),r3.size,r3.os,r3.out⟩;have:=r3.gu b hb;rw[sM b,UM b]at this;show gu b v0 u+cz b G.ls st<=_;omega;have h4:=r3.one b;rw[sM b]at h4;show gu b v0 u+cz b G.ls st<=1;by_cases hb:b<w.heap.size;have h5:=r3.gu b hb;rw[sM b,UM b]at h5;have:=mh b;omega;have:cz b G.ls st=0:=by
  rcases Nat.eq_zero_or_pos (cz b G.ls st) with h|h;exact h;exact absurd (hI.held h) hb
 omega;exact zH hT hO hL hP hK hf hc
theorem Gb(hT:Jh S P):∀n,jX S P (qk S n)/\w9 S P (qk S n)
 |0=>⟨λwl af f args st v bV h=>by simp[qk]at h,λwl af rs c s x s' h=>by simp[qk]at h⟩
 |n+1=>by
  obtain⟨i1,i2⟩:=Gb hT n;refine⟨λwl af f args st v bV h=>?_,λwl af rs c s x s' h code m hm w G β a hs h1 Q hQ=>?_⟩;simp only[qk]at h;split at h;rename_i sf hsf;exact⟨sf,hsf,zJ hT i1 i2 (I9 S n) (F0 S n) hsf h⟩;cases h;simp only[qk]at h;refine Jd ?_;cases hc:iW (qk S n) wl af rs c s with
  |none=>rw[hc]at h;cases h|some y=>
   obtain⟨x1,s1⟩:=y;rw[hc]at h;refine sP i1 i2 (I9 S n) c code s s1 x1 w G β a _ hm hs h1 hc λw' G' gZ a' hp=>?_;cases x1 with
   |normal=>
    obtain⟨sr,g1,g2,g3⟩:=hp;simp only at g3;subst g3;exact i2 wl af rs c s1 x s' h code m hm w' G' gZ a' g1 g2.one Q λw2 G2 Qq a2 ur=>hQ w2 G2 Qq a2 (ur.trans g2)
   |exit id=>cases h;exact hQ w' G' gZ a' hp|ret v=>cases h;exact hQ w' G' gZ a' hp
end Ax
namespace Ax
open Go
variable {P:Program}{w w':World}{G G':bp}
def CF(P:Program)(ts:List TypeId):Bool:=ts.all λt=>decide (t<P.types.size)&&match P.underlying t with
 |some .bool|some (.int _)|some .string=>true|some (.slice e)=>ts.contains e&&decide (0<P.cellsOf e)|some (.struct fs)=>fs.toList.all λf=>ts.contains f.type|_=>false
mutual
inductive Ty (P:Program):TypeId->List AV->Prop
 |bool {t:TypeId} (h:P.underlying t=some .bool) (b:Bool):Ty P t [.bool b]
 |int {t:TypeId} {k:IntKind} (h:P.underlying t=some (.int k)) (n:Int) (h1:k.min<=n) (h2:n<=k.max):Ty P t [.int k n]
 |str {t:TypeId} (h:P.underlying t=some .string) (l:List UInt8) (hn:l.length<=maxLen):Ty P t [.str l]
 |U {t e:TypeId} (h:P.underlying t=some (.slice e)):Ty P t [.U]
 |mK {t e:TypeId} (h:P.underlying t=some (.slice e)):Ty P t [.mK]
 |dL {t e:TypeId} (h:P.underlying t=some (.slice e)) (rows:List (List AV)) (hn:rows.length<=maxLen) (hl:∀r∈rows,r.length=P.cellsOf e) (h2:∀r∈rows,Ty P e r):Ty P t [.dL (P.cellsOf e) rows]
 |adm {t:TypeId} {fs:Array Field} (h:P.underlying t=some (.struct fs)) (as:List AV) (h2:QK P fs.toList as):Ty P t as
inductive QK (P:Program):List Field->List AV->Prop
 |nil:QK P [] []
 |cons {f:Field} {fs:List Field} {as bs:List AV} (hl:as.length=P.cellsOf f.type) (h1:Ty P f.type as) (h2:QK P fs bs):QK P (f::fs) (as++bs)
end
abbrev G0:bp:=⟨[],λ_=>none⟩
def yl(as:List AV):Prop:=AV.eY as=true/\AV.ai as=true/\AV.bq as=true
theorem qK{a:AV}(h1:a.cC=true)(h2:a.ax=true)(h3:a.cx=true):yl [a]:=by
 refine⟨?_,?_,?_⟩<;>simp[AV.eY,AV.ai,AV.bq,h1,h2,h3]
theorem Hs{as bs:List AV}(h:yl as)(k:yl bs):yl (as++bs):=by
 obtain⟨h1,h2,h3⟩:=h;obtain⟨k1,k2,k3⟩:=k;refine⟨(de _).2 λc hc=>?_,(gG _).2 λc hc=>?_,?_⟩;rcases List.mem_append.1 hc with h|h;exact(de _).1 h1 c h;exact(de _).1 k1 c h;rcases List.mem_append.1 hc with h|h;exact(gG _).1 h2 c h;exact(gG _).1 k2 c h;simp only[AV.bq,List.all_append,Bool.and_eq_true]at *;exact⟨h3,k3⟩
theorem tD{a:AV}{v:Value}(h:bC w G a v):cF w G [a] [v]:=⟨rfl,λi c u h1 h2=>by
 cases i with
 |zero=>simp at h1 h2;subst h1;subst h2;exact h|succ i=>simp at h1⟩
theorem UN{b o:Nat}(h:b<w.heap.size):Imm w G0 b o:=⟨h,λp hp=>by cases hp⟩
section
variable {H:Type}{enc:TypeId×Value->H}{ts:List TypeId}
theorem Gc{cs:List Value}:∀(fs:List Field)(o:Nat),(∀(j:Nat) f,fs[j]?=some f->f.offset=o+((fs.take j).map λf=>P.cellsOf f.type).sum)->cs.length=o+(fs.map λf=>P.cellsOf f.type).sum->
  (∀f∈fs,∃as,cF w G0 as ((cs.drop f.offset).take (P.cellsOf f.type))/\Ty P f.type as/\yl as)->∃as,cF w G0 as (cs.drop o)/\QK P fs as/\yl as
 |[],o,_,hl,_=>by
  simp at hl;have:cs.drop o=[]:=List.drop_eq_nil_of_le (by omega);rw[this];exact⟨[],⟨rfl,λi c v h=>by simp at h⟩,.nil,rfl,rfl,rfl⟩
 |f::fs,o,ho,hl,hf=>by
  have e0:f.offset=o:=by have:=ho 0 f rfl;simpa using this
  simp only[List.map_cons,List.sum_cons]at hl;obtain⟨bs,h1,h2,h3⟩:=Gc fs (o+P.cellsOf f.type) (λj g hg=>by
   have:=ho (j+1) g (by simpa using hg);simp only[List.take_succ_cons,List.map_cons,List.sum_cons]at this;omega) (by omega) (λg hg=>hf g (by simp[hg]))
  obtain⟨as,k1,k2,k3⟩:=hf f (by simp);rw[e0]at k1;have hlen:as.length=P.cellsOf f.type:=by
   rw[k1.1,List.length_take,List.length_drop];omega
  refine⟨as++bs,?_,.cons hlen k2 h2,Hs k3 h3⟩;have:cs.drop o=(cs.drop o).take (P.cellsOf f.type)++cs.drop (o+P.cellsOf f.type):=by
   rw[<-List.drop_drop,List.take_append_drop]
  rw[this];exact cF.append k1 h1
theorem UO(hK:Kids P (· < P.types.size))(hp:CF P ts=true):∀(n:Nat)(t:TypeId)(cs:List Value)(x:DataW H×List MemPlace),t∈ts->DataW.trod enc P w 0 (λ_=>true) true n t cs=some x->
  ∃as,cF w G0 as cs/\Ty P t as/\yl as:=by
 intro n;induction n with
 |zero=>intro t cs x _ h;simp[DataW.trod]at h|succ n ih=>
  intro t cs x ht h;have K3:=List.all_eq_true.1 hp t ht;simp only[Bool.and_eq_true,decide_eq_true_eq]at K3;obtain⟨aW,K3⟩:=K3;split at K3;rename_i hu;obtain⟨b,rfl,rfl⟩:=DataW.trod_bool hu h;exact⟨[.bool b],tD (.bool b),.bool hu b,qK rfl rfl rfl⟩;rename_i k hu;obtain⟨m,rfl,rfl,hw⟩:=DataW.trod_int hu h;simp only[Lit.wf,Bool.and_eq_true,decide_eq_true_eq]at hw;exact⟨[.int k m],tD (.int k m),.int hu m hw.1 hw.2,qK rfl rfl rfl⟩;rename_i hu;obtain⟨s,rfl,rfl,cA⟩:=DataW.trod_string hu h;exact⟨[.str s.data.toList],tD (.str _ s rfl),.str hu _ (by simpa using cA),qK rfl rfl rfl⟩;rename_i e hu;simp only[Bool.and_eq_true,List.contains_eq_mem,decide_eq_true_eq]at K3;obtain⟨he,dF⟩:=K3;rcases DataW.trod_slice hu h with⟨rfl,rfl⟩|⟨a,len,cap,elems,rest,m,hm,rfl,rfl,_,hlc,hcm,E4,adn,Qg,_⟩;exact⟨[.U],tD .U,.U hu,qK rfl rfl rfl⟩;cases hm;by_cases g8:cap=0;subst g8;have:len=0:=by omega
  subst this;exact⟨[.mK],tD (.mK a),.mK hu,qK rfl rfl rfl⟩;have cZ:∀i,i<cap->∃Iq y,w.cells? 0 (a.add (i*P.cellsOf e)) (P.cellsOf e)=some Iq/\DataW.trod enc P w 0 (λ_=>true) true n e Iq=some y:=by
   intro i hi;by_cases E5:i<len;have h1:=adn i E5;have h2:∃y,elems[i]?=some y:=⟨_,List.getElem?_eq_getElem (by omega)⟩;obtain⟨y,hy⟩:=h2;rw[hy,Option.bind_eq_some_iff]at h1;obtain⟨Iq,e1,e2⟩:=h1;exact⟨Iq,y,e1,e2⟩;obtain⟨ni,hr⟩:=Qg rfl;have h1:=hr (i-len) (by omega);rw[show len+(i-len)=i by omega]at h1;have h2:∃y,rest[i-len]?=some y:=⟨_,List.getElem?_eq_getElem (by omega)⟩;obtain⟨y,hy⟩:=h2;rw[hy,Option.bind_eq_some_iff]at h1;obtain⟨Iq,e1,e2⟩:=h1;exact⟨Iq,y,e1,e2⟩
  have Xj:a.spot=none:=by
   obtain⟨Iq,y,e1,_⟩:=cZ 0 (by omega);obtain⟨_,g2,g3⟩:=World.cells?_some e1;have h0:=g3 0 dF;have:∃v,Iq[0]?=some v:=⟨_,List.getElem?_eq_getElem (by omega)⟩;obtain⟨v,hv⟩:=this;rw[hv]at h0;have:=World.cell?_spot h0;simpa [Addr.add] using this
  obtain⟨jF,off,spot⟩:=a;simp only at Xj;subst Xj;have NR:∀off k,Addr.add ⟨jF,off,none⟩ k=⟨jF,off+k,none⟩:=λoff k=>by
   unfold Addr.add;split;rename_i h0;subst h0;rfl
   rfl
  have Jj:∀i,i<len->∃r,(r.length=P.cellsOf e/\Ty P e r/\yl r)/\∀(j:Nat) c,r[j]?=some c->∃v,w.cell? ⟨jF,off+(i*P.cellsOf e+j),none⟩=some v/\bC w G0 c v:=by
   intro i hi;obtain⟨Iq,y,e1,e2⟩:=cZ i (by omega);obtain⟨_,g2,g3⟩:=World.cells?_some e1;obtain⟨r,r1,r2,r3⟩:=ih e Iq y he e2;have ni:r.length=P.cellsOf e:=(by rw[r1.1,g2]);refine⟨r,⟨ni,r2,r3⟩,λj c hc=>?_⟩;have hj:j<P.cellsOf e:=(by rw[<-ni];exact(List.getElem?_eq_some_iff.1 hc).1);have h0:=g3 j hj;have hv:∃v,Iq[j]?=some v:=⟨_,List.getElem?_eq_getElem (by omega)⟩;obtain⟨v,hv⟩:=hv;rw[hv,NR,NR]at h0;refine⟨v,by rw[<-h0];congr 2;omega,r1.2 j c v hc hv⟩
  have key:∀m,m<=len->∃rows:List (List AV),rows.length=m/\∀(i:Nat) r,rows[i]?=some r->(r.length=P.cellsOf e/\Ty P e r/\yl r)/\∀(j:Nat) c,r[j]?=some c->∃v,w.cell? ⟨jF,off+(i*P.cellsOf e+j),none⟩=some v/\bC w G0 c v:=by
   intro m;induction m with
   |zero=>intro _;exact⟨[],rfl,λi r h=>by simp at h⟩|succ m ihm=>
    intro hm;obtain⟨rows,l1,l2⟩:=ihm (by omega);obtain⟨r,hr⟩:=Jj m (by omega);refine⟨rows++[r],by simp[l1],λi r' hi=>?_⟩;by_cases him:i<m;rw[List.getElem?_append_left (by omega)]at hi;exact l2 i r' hi;rw[List.getElem?_append_right (by omega)]at hi;have:i-rows.length=0:=by
     rcases Nat.eq_zero_or_pos (i-rows.length) with h|h;exact h;rw[List.getElem?_eq_none (by simp;omega)]at hi;cases hi
    rw[this]at hi;simp at hi;subst hi;have:i=m:=by omega
    subst this;exact hr
  obtain⟨rows,l1,l2⟩:=key len (Nat.le_refl _);have AM:∀r∈rows,r.length=P.cellsOf e/\Ty P e r/\yl r:=λr hr=>by
   obtain⟨i,hi,rfl⟩:=List.mem_iff_getElem.1 hr;exact(l2 i _ (List.getElem?_eq_getElem hi)).1
  have fR:bC w G0 (.dL (P.cellsOf e) rows) (.slice (some ⟨jF,off,none⟩) rows.length cap):=by
   refine .dL (P.cellsOf e) rows ⟨jF,off,none⟩ cap rfl (by omega) ?_ (λr hr=>(AM r hr).2.2.1) (λr hr=>(AM r hr).2.2.2.1) (λr hr=>(AM r hr).2.2.2.2) (λi r j c h1 h2=>?_) (λi r j c v h1 h2 h3=>?_);simp only[bN,List.all_eq_true,beq_iff_eq];exact λr hr=>(AM r hr).1;obtain⟨v,e1,_⟩:=(l2 i r h1).2 j c h2;exact⟨UN (World.block_lt_of_cell? w ⟨jF,off+(i*P.cellsOf e+j),none⟩ e1:jF<w.heap.size),v,e1⟩;obtain⟨v',e1,e2⟩:=(l2 i r h1).2 j c h2;rw[e1]at h3;cases h3;exact e2
  rw[l1]at fR;exact⟨[.dL (P.cellsOf e) rows],tD fR,(.dL hu rows (by omega) (λr hr=>(AM r hr).1) (λr hr=>(AM r hr).2.1)),qK rfl rfl rfl⟩;rename_i fs hu;simp only[List.all_eq_true,List.contains_eq_mem,decide_eq_true_eq]at K3;obtain⟨xs,m,hm,rfl,hl,hlen,hf⟩:=DataW.trod_struct hu h;cases hm;obtain⟨_,k2,k3⟩:=hK.struct aW hu;obtain⟨as,h1,h2,h3⟩:=Gc (P:=P) (w:=w) (cs:=cs) fs.toList 0 (λj f hf=>by rw[k3 j f hf];omega) (by rw[hl,k2];omega) λf hfm=>by
   obtain⟨i,hi,rfl⟩:=List.mem_iff_getElem.1 hfm;have hg:fs.toList[i]?=some fs.toList[i]:=List.getElem?_eq_getElem hi;have h1:=hf i fs.toList[i] (by simp);have hy:∃y,xs[i]?=some y:=⟨_,List.getElem?_eq_getElem (by rw[hlen];simpa using hi)⟩;obtain⟨y,hy⟩:=hy;rw[hy]at h1;exact ih _ _ y (K3 _ hfm) h1
  exact⟨as,by simpa using h1,.adm hu as h2,h3⟩;cases K3
def TyV(P:Program)(t:TypeId)(a:AV):Prop:=(∃fs as,P.underlying t=some (.struct fs)/\a=.agg as/\Ty P t as)\/((∀fs,P.underlying t≠some (.struct fs))/\Ty P t [a])
def UP(P:Program):List TypeId->List AV->Prop
 |[],[]=>True|t::ts,a::as=>TyV P t a/\UP P ts as|_,_=>False
theorem QL(hK:Kids P (· < P.types.size))(hp:CF P ts=true){r:Reach}{base:Nat}{t:TypeId}{v:Value}{d:DataW H}{ps:List MemPlace}(ht:t∈ts)(cY:Value.okWide P w r base t v)
  (h:DataW.Trod enc P w 0 (λ_=>true) true t v d ps):∃a,bC w G0 a v/\TyV P t a/\a.cC=true:=by
 obtain⟨n,hn⟩:=h;obtain⟨as,h1,h2,h3⟩:=UO hK hp n t _ _ ht hn;have one:v.cells = #[v]->(∀fs,P.underlying t≠some (.struct fs))->∃a,bC w G0 a v/\TyV P t a/\a.cC=true:=by
  intro hc hs;rw[hc]at h1;obtain⟨e1,e2⟩:=h1;match as,e1,e2,h2,h3 with
  |[a],_,e2,h2,h3=>exact⟨a,e2 0 a v rfl rfl,.inr ⟨hs,h2⟩,by have:=h3.1;simpa [AV.eY] using this⟩
 have K3:=List.all_eq_true.1 hp t ht;simp only[Bool.and_eq_true,decide_eq_true_eq]at K3;obtain⟨_,K3⟩:=K3;split at K3;rename_i hu;obtain⟨b,rfl⟩:=WideShapes.okWide_bool hu cY;exact one rfl λfs h=>by rw[hu]at h;cases h
 rename_i k hu;obtain⟨b,rfl⟩:=WideShapes.okWide_int hu cY;exact one rfl λfs h=>by rw[hu]at h;cases h
 rename_i hu;obtain⟨b,rfl⟩:=WideShapes.okWide_string hu cY;exact one rfl λfs h=>by rw[hu]at h;cases h
 rename_i e hu;obtain⟨a,l,c,rfl⟩:=WideShapes.okWide_slice hu cY;exact one rfl λfs h=>by rw[hu]at h;cases h
 rename_i fs hu;obtain⟨cs,rfl,_⟩:=WideShapes.okWide_struct hu cY;refine⟨.agg as,.agg as cs (by simpa [Value.cells] using h1.1) λi c v e1 e2=>h1.2 i c v e1 (by simpa [Value.cells] using e2),.inl ⟨fs,as,hu,rfl,h2⟩,?_⟩;simp only[AV.cC];exact h3.1;cases K3
theorem Gd(hK:Kids P (· < P.types.size))(hp:CF P ts=true){r:Reach}{base:Nat}:∀{us:List TypeId}{vs:List Value}{ds:List (DataW H)}{ps:List MemPlace},(∀t∈us,t∈ts)->
  (∀(j:Nat) t v,us[j]?=some t->vs[j]?=some v->Value.okWide P w r base t v)->DataW.TrodAll enc P w 0 (λ_=>true) true us vs ds ps->∃as,cF w G0 as vs/\UP P us as/\AV.eY as=true
 |[],[],[],_,_,_,_=>⟨[],⟨rfl,λi c v h=>by simp at h⟩,trivial,rfl⟩
 |t::us,v::vs,d::ds,ps,hu,hv,h=>by
  obtain⟨p,q,h1,h2,rfl⟩:=h;obtain⟨a,a1,a2,a3⟩:=QL hK hp (hu t (by simp)) (hv 0 t v rfl rfl) h1;obtain⟨as,b1,b2,b3⟩:=Gd hK hp (λt ht=>hu t (by simp[ht])) (λj t v e1 e2=>hv (j+1) t v (by simpa using e1) (by simpa using e2)) h2;exact⟨a::as,cF.cons a1 b1,⟨a2,b2⟩,by simp[AV.eY,a3,b3]⟩
 |[],_::_,_,_,_,_,h=>h.elim|[],[],_::_,_,_,_,h=>h.elim|_::_,[],_,_,_,_,h=>h.elim|_::_,_::_,[],_,_,_,h=>h.elim
theorem ym(hK:Kids P (· < P.types.size))(hz:∀t e,t<P.types.size->P.underlying t=some (.slice e)->0<P.cellsOf e){sp:Nat->Bool}(QM:∀b,b<w.heap.size->w'.heap[b]?=w.heap[b]?):∀{us:List TypeId}{vs:List Value}{ds:List (DataW H)}{ps:List MemPlace},(∀t∈us,t<P.types.size)->
  DataW.TrodAll enc P w 0 (λ_=>true) true us vs ds ps->(∀p∈ps,sp p.block=true)->DataW.TrodAll enc P w' 0 sp true us vs ds ps
 |[],[],[],_,_,h,_=>h|t::us,v::vs,d::ds,ps,hu,h,hs=>by
  obtain⟨p,q,⟨n,h1⟩,h2,rfl⟩:=h;refine⟨p,q,⟨n,DataW.trod_stays hK (fun {t e}=>hz t e) (λh=>by cases h) (hu t (by simp)) h1 (λx hx=>?_) λx hx=>hs x (by simp[hx])⟩,ym hK hz QM (λt ht=>hu t (by simp[ht])) h2 (λx hx=>hs x (by simp[hx])),rfl⟩;have aW:=DataW.trod_lt n t _ _ h1 x hx;cases x with
  |cell b off=>simp only[World.sameAt,World.cell?,QM b aW]|map b=>exact QM b aW
 |[],_::_,_,_,_,h,_=>h.elim|[],[],_::_,_,_,h,_=>h.elim|_::_,[],_,_,_,h,_=>h.elim|_::_,_::_,[],_,_,h,_=>h.elim
theorem QN(w:World):jQ w G0 []:=⟨rfl,λid ob loc h=>by simp at h,λb p h=>by cases h⟩
theorem Ht{may:MemPlace->Prop}(h1:w'.os=w.os)(h2:w'.output=w.output)(h3:∀b,b<w.heap.size->w'.heap[b]?=w.heap[b]?):w.keptBut w' may:=by
 refine⟨h1,h2,λi hi=>?_⟩;rw[h3 i hi];have:=Array.getElem?_eq_getElem hi;rw[this];cases w.heap[i] with
 |cells c t fr=>exact⟨rfl,rfl,rfl,λ_ _=>rfl⟩|map es clock=>exact .inr ⟨rfl,rfl⟩|_=>rfl
theorem Jk(_hsz:w.heap.size<=w'.heap.size)(h3:∀b,b<w.heap.size->w'.heap[b]?=w.heap[b]?)(a:Addr)(ha:a.block<w.heap.size):w'.frozen? a=w.frozen? a:=by
 simp only[World.frozen?,h3 a.block ha]
end
end Ax
namespace Ax
open Go Go.ChangeShapes
variable {P:Program}{w w':World}{G G':bp}{H:Type}{enc:TypeId×Value->H}
theorem QO{f:Func}{s:ChangeSpec}{lu fresh handsOn uU:Bool}{W W':World}{args:Array Value}{ds gs:List (DataW H)}{before:List MemPlace}{tb:TypeId}
  (hK:Kids P (· < P.types.size))(hz:∀t e,t<P.types.size->P.underlying t=some (.slice e)->0<P.cellsOf e)(UQ:∀t∈f.params.toList,t<P.types.size)
  (hW:DataW.Whole enc P f.params.toList s.vars lu W args.toList ds gs before) (hv:s.vars=[]) (Fk:f.resultTypes = #[tb]) (htb:P.underlying tb=some .bool)
  (hr:(s.fn H ds).results=[.lit (.bool true)]) (ha:(s.fn H ds).args=ds) (B8:(s.fn H ds).vars=[])
  (h1:W'.os=W.os) (h2:W'.output=W.output) (h4:W.heap.size<=W'.heap.size) (h3:∀b,b<W.heap.size->W'.heap[b]?=W.heap[b]?) :
  s.post enc P f lu fresh handsOn uU W args (.bool true) W':=by
 have hW':=hW;obtain⟨p,q,hA,hV,rfl,B9,hn⟩:=hW';rw[hv]at hV;cases gs with
 |cons _ _=>exact hV.elim|nil=>
  have hq:q=[]:=hV;subst hq;simp only[List.append_nil]at hW B9 hn;have iu:∀sp:Nat->Bool,(∀x∈p,sp x.block=true)->DataW.TrodAll enc P W' 0 sp true f.params.toList args.toList ds p:=λsp nE=>ym hK hz h3 UQ hA nE;have UR:∀x∈p,x.block<W.heap.size:=DataW.TrodAll.lt hA;have hold:∀x∈p,(λb=>decide (b<W.heap.size)) x.block=true:=λx hx=>by simpa using UR x hx
  have ni:(Value.bool true).resultList f.resultTypes.size=[.bool true]:=by rw[Fk];rfl
  have Ok:∀(b:Nat) (sp:Nat->Bool) (hd:Bool),DataW.TrodAll enc P W' b sp hd f.resultTypes.toList ((Value.bool true).resultList f.resultTypes.size) (s.fn H (ds++[])).results []:=λb sp hd=>by
   rw[List.append_nil,hr,ni,Fk];exact⟨[],[],⟨1,by simp[DataW.trod,htb,Value.cells]⟩,rfl,rfl⟩
  refine⟨ds,[],p,[],p,[],hW,Ok _ _ _,by rw[List.append_nil,ha];exact iu _ hold,by rw[hv,List.append_nil,B8];rfl,Ht h1 h2 h3,λ_=>?_⟩;refine⟨λj t r e1 e2=>?_,[DataW.lit (.bool true)]++ds,[],p,⟨p,[],?_,(by rw[hv];exact(rfl:DataW.TrodVars enc P W' (λ_=>true) [] [] [])),by simp,?_,?_⟩,?_⟩;rw[Fk]at e1;rw[ni]at e2;cases j with
  |zero=>
   simp at e1 e2;subst e1;subst e2;exact RowKit.okWide_bool_mk htb true
  |succ j=>simp at e1
  have:=trodAll_append (iu _ (λ_ _=>rfl)) (Ok 0 (λ_=>true) true);simpa [hr] using this;intro b off hp;rw[Jk h4 h3 _ (UR _ hp)];exact B9 b off hp;exact hn;intro x hx _;exact hx
theorem K4{S:Nat->Option aH}(hT:Jh S P):jX S P (bh S):=λwl af f args st v bV h=>by
 obtain⟨n,hn⟩:=(tf S).call _ _ _ _ _ _ h;exact(Gb hT n).1 wl af f args st v bV hn
theorem Ol{S:Nat->Option aH}(hT:Jh S P){f:FuncId}(hf:f<100000){as:List AV}{bV:aj}(hc:(bh S).call 0 0 f as []=some (.bool true,bV)){W:World}{args:Array Value}(hR:cF W G0 as args.toList)(jy:AV.eY as=true) :
  Calls P f args W λe W'=>e=.returned (.bool true)/\W'.os=W.os/\W'.output=W.output/\W.heap.size<=W'.heap.size/\∀b,b<W.heap.size->W'.heap[b]?=W.heap[b]?:=by
 obtain⟨sf,h1,h2,h3,h4⟩:=K4 hT _ _ _ _ _ _ _ hc;have hz:∀b,cu b as args.toList+cz b G0.ls []=0:=λb=>by rw[eE b _ _ jy];simp[cz]
 have:=h4 W G0 args.toList hR (QN W) (λb=>by rw[hz b];omega);rw[h3 hf]at this;refine this.mono λe W' h=>?_;obtain⟨u,G',rfl,r1,r2,r3⟩:=h;refine⟨by rw[bC.jT r1],r3.os,r3.out,r3.size,λb hb=>(r3.vK b hb (hz b)).2⟩
structure ado (S:Nat->Option aH)(C:Checked)(ts:List TypeId):Prop where
 iO:ownKnob C.prog.godebug=none
 tab:Jh S C.prog
 aC:Kids C.prog (· < C.prog.types.size)
 ahv:∀t e,t<C.prog.types.size->C.prog.underlying t=some (.slice e)->0<C.prog.cellsOf e
 plain:CF C.prog ts=true
theorem law_lifted{S:Nat->Option aH}{C:Checked}{ts:List TypeId}(hh:ado S C ts){os:Os}(started:os.Started){f:FuncId}{fn:Func}{s:ChangeSpec}{conds:List PathCond}{lu fresh handsOn uU:Bool}{tb:TypeId}
  (YJ:C.prog.inits.idxOf? f=none)(Ga:C.prog.funcs[f]?=some fn)(hf:f<100000)
  (witness:∃(w:World) (tape:Tape) (i:Input),w.os=os/\(w.forCall tape i).Shaped C.prog/\i.vars=[]/\Input.okWide C.prog (w.forCall tape i) .any w.heap.size f i/\
   s.pre6 enc C.prog fn conds lu (w.forCall tape i).memory i.args/\({}:Assume).holds C.prog (lone (Frame.enter C.prog f i.args .normal) [] (w.forCall tape i)))
  (UQ:(fn.params.toList.all λt=>ts.contains t&&decide (t<C.prog.types.size))=true) (hv:s.vars=[]) (Fk:fn.resultTypes = #[tb]) (htb:C.prog.underlying tb=some .bool)
  (adp:∀ds:List (DataW H),ds.length=fn.params.toList.length->(s.fn H ds).results=[.lit (.bool true)]/\(s.fn H ds).args=ds/\(s.fn H ds).vars=[])
  (ct:∀as,UP C.prog fn.params.toList as->∃bV,(bh S).call 0 0 f as []=some (.bool true,bV)) :
  ReturnsInHanded {} C os f .any (s.pre6 enc C.prog fn conds lu) (s.post enc C.prog fn lu fresh handsOn uU):=by
 refine returnsInHanded_of_change hh.iO started YJ Ga witness ?_;intro W base args ds gs before cY hW _ _;have hp:∀t∈fn.params.toList,t∈ts/\t<C.prog.types.size:=λt ht=>by
  have:=List.all_eq_true.1 UQ t ht;simpa using this
 obtain⟨p,q,hA,hV,hb,_,_⟩:=id hW;obtain⟨as,a1,a2,a3⟩:=Gd hh.aC hh.plain (λt ht=>(hp t ht).1) (λj t v e1 e2=>cY j t v (by simpa using e1) (by simpa using e2)) hA;obtain⟨bV,hc⟩:=ct as a2;have hlen:∀(us:List TypeId) (vs:List Value) (ds:List (DataW H)) (p:List MemPlace),DataW.TrodAll enc C.prog W 0 (λ_=>true) true us vs ds p->ds.length=us.length:=by
  intro us;induction us with
  |nil=>intro vs ds p h;cases vs with
   |nil=>cases ds with
    |nil=>rfl|cons _ _=>exact h.elim
   |cons _ _=>cases ds<;>exact h.elim
  |cons t us ih=>intro vs ds p h;cases vs with
   |nil=>cases ds<;>exact h.elim|cons v vs=>cases ds with
    |nil=>exact h.elim|cons d ds=>
     obtain⟨_,_,_,h2,_⟩:=h;simp[ih vs ds _ h2]
 obtain⟨s1,s2,s3⟩:=adp ds (hlen _ _ _ _ hA);refine(Ol hh.tab hf hc a1 a3).mono λe W' h=>?_;obtain⟨rfl,h1,h2,h3,h4⟩:=h;exact⟨_,rfl,QO hh.aC hh.ahv (λt ht=>(hp t ht).2) hW hv Fk htb s1 s2 s3 h1 h2 h3 h4⟩
end Ax
namespace Ax
open Go
def xm(S:Nat->Option aH)(P:Program):Nat->List (Option aH)->Bool
 |_,[]=>true|k,none::l=>xm S P (k+1) l|k,some sf::l=>MM S P sf&&(decide (100000<=k)||sf.eM==k)&&xm S P (k+1) l
theorem uu{S:Nat->Option aH}{P:Program}:∀{l:List (Option aH)}{k:Nat},xm S P k l=true->∀(i:Nat) sf,l[i]?=some (some sf)->MM S P sf=true/\(k+i<100000->sf.eM=k+i)
 |[],_,_,i,sf,h=>by simp at h|none::l,k,h,i,sf,hi=>by
  cases i with
  |zero=>simp at hi|succ i=>
   have:=uu (l:=l) (k:=k+1) h i sf (by simpa using hi);rw[show k+1+i=k+(i+1) by omega]at this;exact this
 |some s::l,k,h,i,sf,hi=>by
  simp only[xm,Bool.and_eq_true,Bool.or_eq_true,decide_eq_true_eq,beq_iff_eq]at h;obtain⟨⟨h1,h2⟩,h3⟩:=h;cases i with
  |zero=>
   simp at hi;subst hi;exact⟨h1,λhk=>by omega⟩
  |succ i=>
   have:=uu (l:=l) (k:=k+1) h3 i sf (by simpa using hi);rw[show k+1+i=k+(i+1) by omega]at this;exact this
theorem US{TZ GK:List (Option aH)}{P:Program}(h1:xm (PL TZ GK) P 0 TZ=true)(h2:xm (PL TZ GK) P 100000 GK=true):Jh (PL TZ GK) P:=by
 intro f sf hf;unfold PL at hf;split at hf;cases hg:TZ[f]? with
 |none=>rw[hg]at hf;cases hf|some x=>
  rw[hg]at hf;simp only[Option.getD_some]at hf;subst hf;have:=uu h1 f sf hg;exact⟨this.1,λh=>by have:=this.2 (by omega);omega⟩
 rename_i aW;cases hg:GK[f-100000]? with
 |none=>rw[hg]at hf;cases hf|some x=>
  rw[hg]at hf;simp only[Option.getD_some]at hf;subst hf;have:=uu h2 (f-100000) sf hg;exact⟨this.1,λh=>absurd h aW⟩
end Ax
