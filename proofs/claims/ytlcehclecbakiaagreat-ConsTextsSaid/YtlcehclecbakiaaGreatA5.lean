/- Part of a proof. -/
import Derived.Test.YtlcehclecbakiaaGreatA4
import Derived.Scope
import Derived.ChangeStays
import Derived.ChangeSame
import Derived.ChangeOld
import Derived.ChangeArms
import Derived.JoinedOf
import Derived.RowKit3
import Derived.ReadAgain
import Derived.Handed

open List renaming all_eq_true→aaS,contains_eq_mem→afz,getElem?_eq_some_iff→aab,getElem?_eq_getElem→aao,map_cons→abh,mem_append→abI,mem_map→aa5,mem_filter→aj7,getElem?_set_ne→afA,ext_getElem?→agy,drop_eq_getElem_cons→aa3,getElem?_set→abK,getElem?_take→abZ,getElem?_drop→acP,mem_or_eq_of_mem_set→abX,getElem?_append_left→aaE,getElem?_eq_none→abV,replicate→aaO,sum_cons→ahl,mem_iff_getElem→abe,append_nil→abO
open Option renaming mem_toList→agZ,getD_some→aeR,bind_eq_some_iff→aap
open Nat renaming lt_trichotomy→ajA,le_of_lt→aiL,lt_trans→aiM,le_refl→aaH,le_trans→acF,lt_or_ge→afu,eq_zero_or_pos→agh
open Bool renaming and_eq_true→Ar,not_eq_true'→acg,or_eq_true→abP,false_eq_true→aaq
open Array renaming getD→air,getElem?_eq_some_iff→abN,replicate→agT,size_replicate→ai3
namespace Ax
open Go
variable {S:Nat->Option aA}{P:Program}{O:ku}{wl aa n:Nat}
variable {cV:Array Oper}{m:List aC}{bO:List (Nat×Nat)}{T:Nat->St}{xp:Option (Nat×Nat×ag)}
structure Spc (S:Nat->Option aA)(O:ku)(wl aa:Nat)(m:List aC)(bO:List (Nat×Nat))(T:Nat->St)(p q:Nat)(X:ag):Prop where
 lt:p<q
 ql:q<m.length
 mem:(100000+p,q)∈bO
 wp:∀a,m[p]?=some a->a.op.qp S=true/\a.guard=none
 wq:∀a,m[q]?=some a->a.op.qp S=true/\a.guard=none
 gap:∀(j:Nat) o,p<j->j<q->m[j]?=some o->o.op.qp S=false
 un:∀i j,i<100000->(100000+i,j)∈bO->i=p/\j=q
 cl:∀k w,(k,w)∈bO->k<100000->w=p\/w=q->(100000*(k+2)+p,q)∈bO
 x1:∀a,m[q]?=some a->∀e bx gK,tK O wl aa a.op (a.args.map (J6 (T q).env)) (T q).st bx=some (e,(T (q+1)).st,gK)->tK O wl aa a.op (a.args.map (J6 (T q).env)) (T p).st bx=some (e,X,gK)
 x2:∀a,m[p]?=some a->∀e bx gK,tK O wl aa a.op (a.args.map (J6 (T p).env)) (T p).st bx=some (e,(T (p+1)).st,gK)->tK O wl aa a.op (a.args.map (J6 (T p).env)) X bx=some (e,(T (q+1)).st,gK)
 rd:∀k,(100000*(k+2)+p,q)∈bO->∀o,m[k]?=some o->dY O wl aa o (T k) (T (k+1)) X=true
structure Mz (S:Nat->Option aA)(P:Program)(O:ku)(wl aa n:Nat)(cV:Array Oper)(m:List aC)(bO:List (Nat×Nat))(T:Nat->St)(xp:Option (Nat×Nat×ag)):Prop where
 dr:abj S P cV n m bO
 tx:Text S O wl aa m T
 pr:∀q w,q<100000->(q,w)∈bO->∀o,m[q]?=some o->dY O wl aa o (T q) (T (q+1)) (T w).st=true/\dY O wl aa o (T q) (T (q+1)) (T (w+1)).st=true
 sn:xp=none->∀i j,i<100000->(100000+i,j) ∉ bO
 sp:∀p q X,xp=some (p,q,X)->Spc S O wl aa m bO T p q X
 bo:∀(i:Nat) so j,m[i]?=some so->so.op.aI=some j->dZ j (T 0).env=true
 pu:Cf S O
theorem Dl{i j:Nat}{a b:aC}(h:lJ S bO i j a b=true):(∀t,t∈sq a->t ∉ zG b/\t ∉ sq b)/\(∀t,t∈sq b->t ∉ zG a):=by
 simp only[lJ,Ar,aaS,acg,afz,decide_eq_false_iff_not]at h;exact⟨h.1.1.1.1.1.1,h.1.1.1.1.1.2⟩
theorem IC{i j:Nat}{a b:aC}(h:lJ S bO i j a b=true):(∀x,a.op.bW=some x->b.op.bA≠some x)/\(∀x,b.op.bW=some x->a.op.bA≠some x):=by
 simp only[lJ,Ar]at h;obtain⟨⟨⟨⟨⟨_,h1⟩,h2⟩,_⟩,_⟩,_⟩:=h;refine⟨λx hx=>?_,λx hx=>?_⟩;rw[hx]at h1;simpa using h1;rw[hx]at h2;simpa using h2
theorem Au{i j:Nat}{a b:aC}(h:lJ S bO i j a b=true):(a.op.qp S=true/\b.op.qp S=true->(100000+i,j)∈bO)/\(a.op.Nf=true\/b.op.qp S=false\/a.op.qp S=true\/(i,j)∈bO)/\(b.op.Nf=true\/a.op.qp S=false\/b.op.qp S=true\/(j,i)∈bO):=by
 simp only[lJ,Ar,abP,acg,Bool.and_eq_false_iff,afz,decide_eq_true_eq]at h;obtain⟨⟨⟨_,h3⟩,h4⟩,h5⟩:=h;refine⟨λ⟨x,y⟩=>?_,by rcases h4 with ((h|h)|h)|h<;>simp[h],by rcases h5 with ((h|h)|h)|h<;>simp[h]⟩;rcases h3 with (h|h)|h;rw[x]at h;cases h;rw[y]at h;cases h;exact h
theorem abl{op:dG}{x:Nat}(h:op.bW=some x):op.bA=some x:=by
 cases op<;>simp[dG.bW]at h<;>simp[dG.bA,h]
structure FX (cV:Array Oper)(m:List aC)(D:Nat->Bool)(k:Nat)(o:Oper)(so:aC):Prop where
 down:TP cV D
 ho:cV[k]?=some o
 hs:m[k]?=some so
 pre:∀p∈o9 o,D p=true
 new:D k=false
theorem FX.lJ(hR:Mz S P O wl aa n cV m bO T xp){D:Nat->Bool}{k:Nat}{o:Oper}{so:aC}(h:FX cV m D k o so){j:Nat}{b:aC}(hj:m[j]?=some b)(hd:D j≠decide (j<k)) :
  (j<k/\D j=false/\lJ S bO j k b so=true)\/(k<j/\D j=true/\lJ S bO k j so b=true):=by
 rcases ajA j k with h1|h1|h1;have:D j=false:=by rw[decide_eq_true h1]at hd;simpa using hd
 exact .inl ⟨h1,this,hR.dr.apA D h.down k o h.ho h.pre j b so h1 this hj h.hs⟩;subst h1;exact absurd (h.new.trans (by simp)) hd;have:D j=true:=by rw[decide_eq_false (by omega)]at hd;simpa using hd
 exact .inr ⟨h1,this,hR.dr.apB D h.down k j so b h1 h.new this h.hs hj⟩
section
variable {D:Nat->Bool}{k:Nat}{o:Oper}{so:aC}
theorem FX.lt(h:FX cV m D k o so):k<m.length:=(aab.1 h.hs).1
theorem FX.YN(hR:Mz S P O wl aa n cV m bO T xp)(h:FX cV m D k o so){t:Nat}(ht:t∈sq so\/t∈zG so):vT m T D t=cR (T k).env t:=by
 rw[<-TU hR.tx (aiL h.lt)];refine nQ λj hj hd=>?_;have hb:m[j]?=some m[j]:=aao hj;simp only[Ng,hb];rw[if_neg];intro QX;rcases h.lJ hR hb hd with⟨_,_,ha⟩|⟨_,_,ha⟩;have:=(Dl ha).1 t QX;rcases ht with ht|ht;exact this.2 ht;exact this.1 ht;rcases ht with ht|ht;exact((Dl ha).1 t ht).2 QX;exact(Dl ha).2 t QX ht
theorem FX.box(hR:Mz S P O wl aa n cV m bO T xp)(h:FX cV m D k o so){b:Nat}(hb:so.op.bA=some b):vB m T D b=(T k).bx[b]?:=by
 rw[<-TW hR.tx (aiL h.lt)];refine nQ λj hj hd=>?_;have hm:m[j]?=some m[j]:=aao hj;simp only[Nh,hm];rw[if_neg];intro hw;rcases h.lJ hR hm hd with⟨_,_,ha⟩|⟨_,_,ha⟩;exact(IC ha).1 b hw hb;exact(IC ha).2 b hw hb
def vX(S:Nat->Option aA)(m:List aC)(T:Nat->St)(xp:Option (Nat×Nat×ag))(D:Nat->Bool):ag:=match xp with
 |some (p,q,X)=>if D q && !D p then X else vS S m T D
 |none=>vS S m T D
theorem sw{D:Nat->Bool}(h:∀p q X,xp=some (p,q,X)->D q=true->D p=true):vX S m T xp D=vS S m T D:=by
 unfold vX;cases xp with
 |none=>rfl|some x=>
  obtain⟨p,q,X⟩:=x;simp only;rw[if_neg];intro hc;simp only[Ar,acg]at hc;rw[h p q X rfl hc.1]at hc;cases hc.2
theorem Eu{D:Nat->Bool}{p q:Nat}{X:ag}(hx:xp=some (p,q,X))(h1:D q=true)(h2:D p=false):vX S m T xp D=X:=by
 unfold vX;rw[hx];simp[h1,h2]
theorem Mz.two(hR:Mz S P O wl aa n cV m bO T xp){i j:Nat}{a b:aC}(hi:m[i]?=some a)(h:lJ S bO i j a b=true)(ha:a.op.qp S=true)(hb:b.op.qp S=true):∃X,xp=some (i,j,X):=by
 have hm:=(Au h).1 ⟨ha,hb⟩;have om:i<100000:=aiM (aab.1 hi).1 hR.dr.GZ;cases hx:xp with
 |none=>exact absurd hm (hR.sn hx i j om)|some x=>
  obtain⟨p,q,X⟩:=x;obtain⟨rfl,rfl⟩:=(hR.sp p q X hx).un i j om hm;exact⟨X,rfl⟩
theorem FX.TY(hR:Mz S P O wl aa n cV m bO T xp)(h:FX cV m D k o so)(hw:so.op.qp S=true){j:Nat}{b:aC}(hj:m[j]?=some b)(hb:b.op.qp S=true)(hd:D j≠decide (j<k)) :
  (j<k/\D j=false/\∃X,xp=some (j,k,X))\/(k<j/\D j=true/\∃X,xp=some (k,j,X)):=by
 rcases h.lJ hR hj hd with⟨h1,h2,h3⟩|⟨h1,h2,h3⟩;exact .inl ⟨h1,h2,hR.two hj h3 hb hw⟩;exact .inr ⟨h1,h2,hR.two h.hs h3 hw hb⟩
theorem Mz.at(hR:Mz S P O wl aa n cV m bO T xp){D:Nat->Bool}{t:Nat}(ht:t<=m.length)(h:∀(j:Nat) b,m[j]?=some b->b.op.qp S=true->D j=decide (j<t)):vS S m T D=(T t).st:=by
 rw[<-TX hR.tx ht];refine nQ λj hj hd=>?_;have hm:m[j]?=some m[j]:=aao hj;simp only[Ni,hm];rw[if_neg];intro hjw;exact hd (h j _ hm hjw)
def mB(D:Nat->Bool)(k:Nat):Nat->Bool:=λj=>if j=k then true else D j
theorem qV{j:Nat}(h:j≠k):mB D k j=D j:=by simp[mB,h]
theorem Av:mB D k k=true:=by simp[mB]
theorem FX.abm(hR:Mz S P O wl aa n cV m bO T xp)(h:FX cV m D k o so)(hw:so.op.qp S=true) :
  (vX S m T xp D=(T k).st/\vX S m T xp (mB D k)=(T (k+1)).st)\/
  (∃p X,xp=some (p,k,X)/\vX S m T xp D=(T p).st/\vX S m T xp (mB D k)=X)\/
  (∃q X,xp=some (k,q,X)/\vX S m T xp D=X/\vX S m T xp (mB D k)=(T (q+1)).st):=by
 have hk:=h.lt;have plain:(∀(j:Nat) b,m[j]?=some b->b.op.qp S=true->D j=decide (j<k))->vS S m T D=(T k).st/\vS S m T (mB D k)=(T (k+1)).st:=λjZ=>by
  refine⟨hR.at (aiL hk) jZ,hR.at hk λj b hj hb=>?_⟩;by_cases oe:j=k;subst oe;rw[Av];simp;rw[qV oe,jZ j b hj hb];exact decide_eq_decide.2 ⟨λh=>by omega,λh=>by omega⟩
 cases hx:xp with
 |none=>
  refine .inl ?_;have:=plain λj b hj hb=>Classical.byContradiction λhd=>by
   rcases h.TY hR hw hj hb hd with⟨_,_,X,e⟩|⟨_,_,X,e⟩<;>rw[hx]at e<;>cases e
  exact this
 |some x=>
  obtain⟨p,q,X⟩:=x;have sp:=hR.sp p q X hx;have FY:q<m.length:=sp.ql;have Ij:p<m.length:=aiM sp.lt FY;have YK:m[p]?=some m[p]:=aao Ij;have hqm:m[q]?=some m[q]:=aao FY;have hpw:=(sp.wp _ YK).1;have hqw:=(sp.wq _ hqm).1;have XR:=sp.lt;rw[<-hx];have other:∀(j:Nat) b,m[j]?=some b->b.op.qp S=true->D j≠decide (j<k)->(j=p/\k=q/\D p=false)\/(k=p/\j=q/\D q=true):=λj b hj hb hd=>by
   rcases h.TY hR hw hj hb hd with⟨_,g,X',e⟩|⟨_,g,X',e⟩;rw[hx]at e;cases e;exact .inl ⟨rfl,rfl,g⟩;rw[hx]at e;cases e;exact .inr ⟨rfl,rfl,g⟩
  by_cases YO:k=q;subst YO;cases hDp:D p with
  |true=>
   refine .inl ?_;have jZ:∀(j:Nat) b,m[j]?=some b->b.op.qp S=true->D j=decide (j<k):=λj b hj hb=>Classical.byContradiction λhd=>by
    rcases other j b hj hb hd with⟨_,_,g⟩|⟨g,_,_⟩;rw[hDp]at g;cases g;omega
   rw[sw λp' q' X' e hq=>?_,sw λp' q' X' e hq=>?_];exact plain jZ;rw[hx]at e;cases e;rw[qV (by omega)];exact hDp;rw[hx]at e;cases e;exact hDp
  |false=>
   refine .inr (.inl ⟨p,X,hx,?_,?_⟩);rw[sw λp' q' X' e hq=>by rw[hx]at e;cases e;rw[h.new]at hq;cases hq];refine hR.at (by omega) λj b hj hb=>?_;by_cases hjp:j=p;subst hjp;rw[hDp];simp;by_cases oe:j=k;subst oe;rw[h.new];symm;rw[decide_eq_false_iff_not];omega;by_cases KQ:p<j/\j<k;have:=sp.gap j b KQ.1 KQ.2 hj;rw[this]at hb;cases hb;have:D j=decide (j<k):=Classical.byContradiction λhd=>by
    rcases other j b hj hb hd with⟨g,_,_⟩|⟨g,_,_⟩;exact hjp g;omega
   rw[this];exact decide_eq_decide.2 ⟨λh=>by omega,λh=>by omega⟩;exact Eu hx Av (by rw[qV (by omega)];exact hDp)
  by_cases hkp:k=p;subst hkp;cases hDq:D q with
  |false=>
   refine .inl ?_;have jZ:∀(j:Nat) b,m[j]?=some b->b.op.qp S=true->D j=decide (j<k):=λj b hj hb=>Classical.byContradiction λhd=>by
    rcases other j b hj hb hd with⟨_,g,_⟩|⟨_,_,g⟩;exact YO g;rw[hDq]at g;cases g
   rw[sw λp' q' X' e hq=>?_,sw λp' q' X' e hq=>?_];exact plain jZ;rw[hx]at e;cases e;exact Av;rw[hx]at e;cases e;rw[hDq]at hq;cases hq
  |true=>
   refine .inr (.inr ⟨q,X,hx,Eu hx hDq h.new,?_⟩);rw[sw λp' q' X' e hq=>by rw[hx]at e;cases e;exact Av];refine hR.at sp.ql λj b hj hb=>?_;by_cases oe:j=k;subst oe;rw[Av];symm;rw[decide_eq_true_iff];omega;rw[qV oe];by_cases hjq:j=q;subst hjq;rw[hDq];simp;by_cases KQ:k<j/\j<q;have:=sp.gap j b KQ.1 KQ.2 hj;rw[this]at hb;cases hb;have:D j=decide (j<k):=Classical.byContradiction λhd=>by
    rcases other j b hj hb hd with⟨g,_,_⟩|⟨_,g,_⟩;exact oe g;exact hjq g
   rw[this];exact decide_eq_decide.2 ⟨λh=>by omega,λh=>by omega⟩
  refine .inl ?_;have jZ:∀(j:Nat) b,m[j]?=some b->b.op.qp S=true->D j=decide (j<k):=λj b hj hb=>Classical.byContradiction λhd=>by
   rcases other j b hj hb hd with⟨_,g,_⟩|⟨g,_,_⟩;exact YO g;exact hkp g
  have ahm:D q=true->D p=true:=λhq=>Classical.byContradiction λhp=>by
   have hp':D p=false:=(by simpa using hp);have g1:=jZ p _ YK hpw;have g2:=jZ q _ hqm hqw;rw[hp']at g1;rw[hq]at g2;have g1:=of_decide_eq_false g1.symm;have g2:=of_decide_eq_true g2.symm;omega
  rw[sw λp' q' X' e hq=>?_,sw λp' q' X' e hq=>?_];exact plain jZ;rw[hx]at e;cases e;rw[qV (λe=>YO e.symm)]at hq;rw[qV (λe=>hkp e.symm)];exact ahm hq;rw[hx]at e;cases e;exact ahm hq
theorem FX.still(h:FX cV m D k o so)(hR:Mz S P O wl aa n cV m bO T xp)(hw:so.op.qp S=false):vX S m T xp (mB D k)=vX S m T xp D:=by
 have e:vS S m T (mB D k)=vS S m T D:=by
  refine nQ λj hj hd=>?_;by_cases oe:j=k;subst oe;simp[Ni,h.hs,hw];rw[qV oe]at hd;exact absurd rfl hd
 cases hx:xp with
 |none=>simp only[vX];exact e|some x=>
  obtain⟨p,q,X⟩:=x;have sp:=hR.sp p q X hx;have h1:p≠k:=λhe=>by subst he;have:=(sp.wp _ h.hs).1;rw[hw]at this;cases this
  have h2:q≠k:=λhe=>by subst he;have:=(sp.wq _ h.hs).1;rw[hw]at this;cases this
  simp only[vX,qV h1,qV h2,e]
theorem FX.alR(hR:Mz S P O wl aa n cV m bO T xp)(h:FX cV m D k o so)(hn:so.op.Nf=false)(hw:so.op.qp S=false) :
  vX S m T xp D=(T k).st\/dY O wl aa so (T k) (T (k+1)) (vX S m T xp D)=true:=by
 have uR:k<100000:=aiM h.lt hR.dr.GZ;by_cases hcr:∃p q X,xp=some (p,q,X)/\D q=true/\D p=false;obtain⟨p,q,X,hx,hq,hp⟩:=hcr;right;have sp:=hR.sp p q X hx;rw[Eu hx hq hp];refine sp.rd k ?_ so h.hs;have FY:q<m.length:=sp.ql;have Ij:p<m.length:=aiM sp.lt FY;have YK:m[p]?=some m[p]:=aao Ij;have hqm:m[q]?=some m[q]:=aao FY;rcases ajA k q with YO|YO|YO;have ha:=hR.dr.apB D h.down k q so _ YO h.new hq h.hs hqm;rcases (Au ha).2.1 with e|e|e|e;rw[hn]at e;cases e;rw[(sp.wq _ hqm).1]at e;cases e;rw[hw]at e;cases e;exact sp.cl k q e uR (.inr rfl);subst YO;rw[h.new]at hq;cases hq;have ha:=hR.dr.apA D h.down k o h.ho h.pre p _ so (by have:=sp.lt;omega) hp YK h.hs;rcases (Au ha).2.2 with e|e|e|e;rw[hn]at e;cases e;rw[(sp.wp _ YK).1]at e;cases e;rw[hw]at e;cases e;exact sp.cl k p e uR (.inl rfl);rw[sw λp q X hx hq=>Classical.byContradiction λhp=>hcr ⟨p,q,X,hx,hq,by simpa using hp⟩];obtain⟨p,h1,h2,h3,h4⟩:=O2 (S:=S) (m:=m) (T:=T) D m.length (aaH _);have hv:vS S m T D=(T p).st:=h2;have hk:=h.lt;have pair:∀(w:Nat) b,m[w]?=some b->b.op.qp S=true->D w≠decide (w<k)->(k,w)∈bO:=by
  intro w b hb hbw hd;rcases h.lJ hR hb hd with⟨_,_,ha⟩|⟨_,_,ha⟩;rcases (Au ha).2.2 with e|e|e|e;rw[hn]at e;cases e;rw[hbw]at e;cases e;rw[hw]at e;cases e;exact e;rcases (Au ha).2.1 with e|e|e|e;rw[hn]at e;cases e;rw[hbw]at e;cases e;rw[hw]at e;cases e;exact e
 by_cases hpk:p<=k;obtain⟨d,hd⟩:∃d,k=p+d:=⟨k-p,by omega⟩;rcases O3 S m p d (by omega) with hg|⟨w,b,g1,g2,g3,g4,g5⟩;left;rw[hv,hd];exact(As hR.tx d (by omega) hg).symm;right;have hDw:=h4 w b g1 (by have:=(aab.1 g3).1;omega) g3 g4;have hp:=pair w b g3 g4 (by rw[hDw,decide_eq_true (by omega)];simp);have e:(T p).st=(T w).st:=by
  obtain⟨d',YP⟩:∃d,w=p+d:=⟨w-p,by omega⟩;rw[YP];exact(As hR.tx d' (by have:=(aab.1 g3).1;omega) λj so a1 a2=>g5 j so a1 (by omega)).symm
 rw[hv,e];exact(hR.pr k w uR hp so h.hs).1;right;rcases h3 with h3|⟨q,b,rfl,g1,g2,g3⟩;omega;have hp:=pair q b g1 g3 (by
  by_cases hq:q=k;subst hq;rw[h.new]at g2;cases g2;rw[g2,decide_eq_false (by omega)];simp)
 rw[hv];exact(hR.pr k q uR hp so h.hs).2
theorem FX.abn(hR:Mz S P O wl aa n cV m bO T xp)(h:FX cV m D k o so)(t:Nat):vT m T (mB D k) t=if t∈sq so then cR (T (k+1)).env t else vT m T D t:=by
 have:=KK (init:=cR (T 0).env) (zX:=Ng m T) (D:=D) (D':=mB D k) (x:=t) (j:=k) h.lt h.new (λj=>rfl) λj h1 h2 h3 h4=>by
  have hb:m[j]?=some m[j]:=aao h2;have ha:=hR.dr.apB D h.down k j so _ h1 h.new h3 h.hs hb;simp only[Ng,h.hs]at h4;simp only[Ng,hb];rw[if_neg];intro QX;by_cases ht:t∈sq so;exact((Dl ha).1 t ht).2 QX;rw[if_neg ht]at h4;exact h4 rfl
 refine this.trans ?_;simp only[Ng,h.hs];split
 rfl
 rfl
theorem FX.abo(hR:Mz S P O wl aa n cV m bO T xp)(h:FX cV m D k o so)(b:Nat):vB m T (mB D k) b=if so.op.bW=some b then (T (k+1)).bx[b]? else vB m T D b:=by
 have:=KK (init:=λb=>(T 0).bx[b]?) (zX:=Nh m T) (D:=D) (D':=mB D k) (x:=b) (j:=k) h.lt h.new (λj=>rfl) λj h1 h2 h3 h4=>by
  have hb:m[j]?=some m[j]:=aao h2;have ha:=hR.dr.apB D h.down k j so _ h1 h.new h3 h.hs hb;simp only[Nh,h.hs]at h4;simp only[Nh,hb];rw[if_neg];intro QX;by_cases ht:so.op.bW=some b;exact(IC ha).1 b ht (abl QX);rw[if_neg ht]at h4;exact h4 rfl
 refine this.trans ?_;simp only[Nh,h.hs];split
 rfl
 rfl
end
end Ax
namespace Ax
open Go
variable {S:Nat->Option aA}{P:Program}{O:ku}{wl aa n:Nat}
variable {cV:Array Oper}{m:List aC}{bO:List (Nat×Nat)}{T:Nat->St}{xp:Option (Nat×Nat×ag)}
variable {w0 w w':World}{G0 G G':aR}{β gR:List nI}{A0:Nat->Nat}{a:Act}{bx:br}
structure At (S:Nat->Option aA)(n:Nat)(m:List aC)(T:Nat->St)(xp:Option (Nat×Nat×ag))(w0:World)(G0:aR)(A0:Nat->Nat)(D:Nat->Bool)(w:World)(G:aR)(β:List nI)(a:Act)(bx:br):Prop where
 fs:FS w G β a (vT m T D) bx (vX S m T xp D) n
 mv:Mv w0 G0 A0 w G (wh β a (vT m T D) bx (vX S m T xp D) G n)
 bb:∀b,bx[b]?=vB m T D b
 bl:bx.length=(T 0).bx.length
 fp:∀(i:Nat) so j,m[i]?=some so->so.op.aI=some j->D i=false->∀t,(vT m T D t).qa j=true
theorem Text.YM(h:Text S O wl aa m T):∀{j:Nat},j<=m.length->(T j).bx.length=(T 0).bx.length
 |0,_=>rfl|j+1,hj=>by
  have hs:m[j]?=some m[j]:=aao (by omega);rw[(h.one j _ hs).YM,h.YM (by omega)]
theorem Nj{e f:eW}(h:e.fB f=true):e=f:=by
 cases e<;>cases f<;>simp[eW.fB]at h
 rfl
 rw[Ih _ _ h];obtain⟨rfl,rfl⟩:=h;rfl
theorem Nk{op:dG}(h:op.Nf=false):op.bA=none:=by
 cases op<;>simp[dG.Nf,dG.bA]at h ⊢
theorem QY{η:Nat->eW}{j:Nat}(h:∀t,(η t).qa j=true)(s:Src):(Bk η s).qa j=true:=by
 cases s with
 |const a=>rfl|tmp t mv=>
  cases mv with
  |true=>exact h t|false=>
   have:=h t;simp only[Bk];cases he:η t with
   |none=>rfl|val v=>rfl|fp i k=>rw[he]at this;exact this
theorem Bx{η SM:Nat->eW}:∀{l:List Src},(∀t∈YJ l,η t=SM t)->l.map (Bk η)=l.map (Bk SM)
 |[],_=>rfl|.tmp t mv::l,h=>by
  simp only[abh];rw[Bx (l:=l) λu hu=>h u (List.mem_cons_of_mem _ hu)];have:=h t List.mem_cons_self;cases mv<;>simp only[Bk,this]
 |.const a::l,h=>by
  simp only[abh];rw[Bx (l:=l) λu hu=>h u hu]
  rfl
theorem tr{Q:Exit->Act->World->Prop}(hR:Mz S P O wl aa n cV m bO T xp)(hO:kh S P O){D:Nat->Bool}{k:Nat}{o:Oper}{so:aC}(h:FX cV m D k o so)(hA:At S n m T xp w0 G0 A0 D w G β a bx){K:Act->World->Prop}
  (hK:∀w' G' gR a' gK,At S n m T xp w0 G0 A0 (mB D k) w' G' gR a' gK->K a' w'):wpOp P cV Q k K a w:=by
 have one:=hR.tx.one k so h.hs;have hwe:vh (vT m T D) so.guard=nw (T k).env so.guard:=by
  rw[GU];cases hg:so.guard with
  |none=>rfl|some x=>
   obtain⟨t,b⟩:=x;have:=h.YN hR (t:=t) (.inr (by simp[zG,hg]));simp only[vh,this]
 obtain⟨b,hb⟩:∃b,nw (T k).env so.guard=some b:=by
  cases hw:nw (T k).env so.guard with
  |none=>exact absurd hw one.wan|some b=>exact⟨b,rfl⟩
 refine OW (wl:=wl) (aa:=aa) h.ho (hR.dr.get k o so h.ho h.hs) hO hA.fs hA.mv.one (hwe.trans hb) (λhbf a' f1 f2=>?_) (λhbt=>?_);subst hbf;obtain⟨n1,n2,n3⟩:=one.non hb;have e1:kI (vT m T D) so.dst (.val .undef)=vT m T (mB D k):=by
  funext t;rw[h.abn hR];split;rename_i ht;rw[n1];simp only[kI];split
  rfl
  exact h.YN hR (.inl ht);rename_i ht;simp only[sq,abI,agZ,not_or]at ht;simp only[kI];rw[if_neg ht.1]
 have e2:vX S m T xp (mB D k)=vX S m T xp D:=by
  by_cases hw:so.op.qp S=true;rcases h.abm hR hw with⟨e1,e2⟩|⟨p,X,hx,_⟩|⟨q,X,hx,_⟩;rw[e1,e2,n3];have:=(hR.sp p k X hx).wq so h.hs;rw[this.2]at hb;cases hb;have:=(hR.sp k q X hx).wp so h.hs;rw[this.2]at hb;cases hb;exact h.still hR (by simpa using hw)
 rw[e1,<-e2]at f1;rw[e1,<-e2]at f2;refine hK w G β a' bx ⟨f1,?_,λx=>?_,hA.bl,λi si j hi hj hD t=>?_⟩;rw[e2]at f2 ⊢;exact hA.mv.trans f2;rw[h.abo hR,hA.bb];split;rename_i hx;rw[n2];exact h.box hR (abl hx)
 rfl
 have jJ:i≠k/\D i=false:=by
  unfold mB at hD;by_cases Nl:i=k;rw[if_pos Nl]at hD;cases hD;rw[if_neg Nl]at hD;exact⟨Nl,hD⟩
 rw[<-e1];simp only[kI];split
 rfl
 exact hA.fp i si j hi hj jJ.2 t;subst hbt;obtain⟨e,ha,y2⟩:=one.yes hb;have yY:so.args.map (J6 (T k).env)=so.args.map (Bk (vT m T D)):=by
  rw[List.map_congr_left (g:=Bk (cR (T k).env)) λx _=>Dj _ x];exact(Bx λt ht=>h.YN hR (.inr (by simp[zG,ht]))).symm
 rw[yY]at ha;have ha2:tK O wl aa so.op (so.args.map (Bk (vT m T D))) (vX S m T xp D) (T k).bx=some (e,vX S m T xp (mB D k),(T (k+1)).bx):=by
  by_cases hw:so.op.qp S=true;rcases h.abm hR hw with⟨e1,e2⟩|⟨p,X,hx,e1,e2⟩|⟨q,X,hx,e1,e2⟩;rw[e1,e2];exact ha;rw[e1,e2,<-yY];rw[<-yY]at ha;exact(hR.sp p k X hx).x1 so h.hs _ _ _ ha;rw[e1,e2,<-yY];rw[<-yY]at ha;exact(hR.sp k q X hx).x2 so h.hs _ _ _ ha;have G4:so.op.qp S=false:=by simpa using hw
  rw[h.still hR G4];have iO:=one.acK G4;by_cases hn:so.op.Nf=true;exact YH hn _ ha;have hn':so.op.Nf=false:=by simpa using hn
  rcases h.alR hR hn' G4 with hs|hs;rw[hs];rw[iO]at ha;exact ha;unfold dY at hs;rw[hb]at hs;simp only at hs;rw[yY]at hs;split at hs;rename_i e' bG gK Nm;have alS:=OY hR.pu G4 Nm;subst alS;have XU:=Nk hn';obtain⟨rfl,_⟩:=IB XU (T k).bx Nm;obtain⟨hbx,_⟩:=IB XU (T k).bx ha;rw[hbx];split at hs;rename_i d hd;have:=Nj hs;rw[y2]at this;simp only[kI,hd,if_true]at this;subst this;exact Nm;cases hs;cases hs
 obtain⟨zF,b1,b2,b3,b4,b5,_⟩:=KN (zF:=bx) (by rw[hA.bl,hR.tx.YM (aiL h.lt)]) (λb hb=>by rw[hA.bb];exact h.box hR hb) ha2;refine⟨e,vX S m T xp (mB D k),zF,b1,λj hj t _ _=>hA.fp k so j h.hs hj h.new t,λw' G' gR a' f1 f2=>?_⟩;have e1:kI (jW (vT m T D) (qT so.args)) so.dst e=vT m T (mB D k):=by
  funext t;rw[h.abn hR];split;rename_i ht;rw[y2];simp only[kI,jW];split
  rfl
  split
  rfl
  exact h.YN hR (.inl ht);rename_i ht;simp only[sq,abI,agZ,not_or]at ht;simp only[kI,jW];rw[if_neg ht.1,if_neg ht.2]
 rw[e1]at f1 f2;refine hK w' G' gR a' zF ⟨f1,hA.mv.trans f2,λx=>?_,b3.trans hA.bl,λi si j hi hj hD t=>?_⟩;rw[h.abo hR];split;rename_i hx;exact b4 x hx;rename_i hx;rw[b5 x hx,hA.bb];have jJ:i≠k/\D i=false:=by
  unfold mB at hD;by_cases Nl:i=k;rw[if_pos Nl]at hD;cases hD;rw[if_neg Nl]at hD;exact⟨Nl,hD⟩
 rw[<-e1];simp only[kI,jW];split;refine acI b1 (λx hx=>?_) λhn=>?_;obtain⟨s,_,rfl⟩:=aa5.1 hx;exact QY (λt=>hA.fp i si j hi hj jJ.2 t) s;rcases Nat.lt_or_gt_of_ne jJ.1 with hl|hl;exact hR.dr.abk i k si so j hl hi h.hs hj hn;exact hR.dr.abk k i so si j hl h.hs hi hn hj;split
 rfl
 exact hA.fp i si j hi hj jJ.2 t
def jg(fh:Array Bool):Nat->Bool:=λk=>fh.getD k false
theorem TZ{Q:Exit->Act->World->Prop}(hR:Mz S P O wl aa n cV m bO T xp)(hO:kh S P O)
  (hQ:∀w' G' gR a' gK D,(∀k,k<m.length->D k=true)->At S n m T xp w0 G0 A0 D w' G' gR a' gK->Q .normal a' w') :
  ∀(fuel:Nat) (fh:Array Bool) (a:Act) (w:World) (G:aR) (β:List nI) (bx:br),fh.size=cV.size->TP cV (jg fh)->gP (λk=>if jg fh k then 0 else 1) cV.size<=fuel->
   At S n m T xp w0 G0 A0 (jg fh) w G β a bx->wpAny P .any cV Q fuel fh a w:=by
 have Gg:∀(fh:Array Bool) (a:Act) (w:World) (G:aR) (β:List nI) (bx:br),fh.size=cV.size->At S n m T xp w0 G0 A0 (jg fh) w G β a bx->Region.ready .any cV fh=[]->Q .normal a w:=by
  intro fh a w G β bx fM hA hr;refine hQ w G β a bx _ (λk=>?_) hA;induction k using Nat.strongRecOn with
  |_ k ih=>
   intro hk;cases hd:jg fh k with
   |true=>rfl|false=>
    exfalso;rw[hR.dr.len]at hk;have ho:cV[k]?=some cV[k]:=(by simp[hk]);have:k∈Region.ready .any cV fh:=by
     rw[mem_ready];refine⟨?_,cV[k],ho,λe he hb=>?_⟩;have uu:k<fh.size:=(by omega);simp only[jg,air,uu,dif_pos]at hd ⊢;exact hd;have hp:e.on∈o9 cV[k]:=by
      unfold o9;exact aa5.2 ⟨e,aj7.2 ⟨by simpa using he,hb⟩,rfl⟩
     have aQ:=hR.dr.lt k cV[k] ho e.on hp;exact ih e.on aQ (by rw[hR.dr.len];omega)
    rw[hr]at this;cases this
 intro fuel;induction fuel with
 |zero=>
  intro fh a w G β bx fM hD hf hA;have jZ:∀k,k<cV.size->jg fh k=true:=λk hk=>by
   have:=w8 (f:=λk=>if jg fh k then 0 else 1) hk;cases hd:jg fh k with
   |true=>rfl|false=>simp only[hd,aaq,if_false]at this;omega
  have hr:Region.ready .any cV fh=[]:=by
   rw[List.eq_nil_iff_forall_not_mem];intro j hj;rw[mem_ready]at hj;obtain⟨h1,o,ho,_⟩:=hj;have hk:=(abN.1 ho).1;have h2:=jZ j hk;have uu:j<fh.size:=(by omega);simp only[jg,air,uu,dif_pos]at h1 h2;rw[h1]at h2;cases h2
  exact⟨hr,Gg fh a w G β bx fM hA hr⟩
 |succ fuel ih=>
  intro fh a w G β bx fM hD hf hA;refine⟨Gg fh a w G β bx fM hA,λi hi=>?_⟩;rw[mem_ready]at hi;obtain⟨h1,o,ho,h3⟩:=hi;have hk:=(abN.1 ho).1;have hkm:i<m.length:=by rw[hR.dr.len];exact hk
  have hs:m[i]?=some m[i]:=aao hkm;have uu:i<fh.size:=by omega
  have sW:jg fh i=false:=by
   simp only[jg,air,uu,dif_pos]at h1 ⊢;exact h1
  have T1:∀p∈o9 o,jg fh p=true:=by
   intro p hp;unfold o9 at hp;obtain⟨e,he,rfl⟩:=aa5.1 hp;obtain⟨he1,he2⟩:=aj7.1 he;exact h3 e (by simpa using he1) he2
  have alT:FX cV m (jg fh) i o m[i]:=⟨hD,ho,hs,T1,sW⟩;have O4:jg (fh.setIfInBounds i true)=mB (jg fh) i:=by
   funext j;by_cases hj:j=i;subst hj;simp[jg,mB,uu];simp[jg,mB,hj,show ¬i=j from λe=>hj e.symm]
  refine tr hR hO alT hA λw' G' gR a' gK SI=>?_;rw[<-O4]at SI;refine ih _ a' w' G' gR gK (by simp[fM]) ?_ ?_ SI;intro j oj SO hj p hp;rw[O4]at hj ⊢;unfold mB at hj ⊢;by_cases hji:j=i;subst hji;rw[ho]at SO;cases SO;split
  rfl
  exact T1 p hp;rw[if_neg hji]at hj;split
  rfl
  exact hD j oj SO hj p hp;have h5:=uw (f:=λk=>if jg (fh.setIfInBounds i true) k then 0 else 1) (g:=λk=>if jg fh k then 0 else 1) (d:=i) hk λt ht=>by
   rw[O4];simp[mB,ht]
  have e1:jg (fh.setIfInBounds i true) i=true:=by rw[O4];simp[mB]
  simp only[e1,sW,if_true,aaq,if_false]at h5;omega
theorem Nn{wl aa:Nat}{st bG:ag}{i v x y:Nat}{cs:List AV}(h:eK wl aa st (.ptr i v x y) cs=some bG):∃o,bG=st.set i o/\∀(mQ:ag),mQ[i]?=st[i]?->eK wl aa mQ (.ptr i v x y) cs=some (mQ.set i o):=by
 unfold eK at h;simp only at h;split at h;rename_i v' sz rows iO;split at h;rename_i hc;split at h;rename_i r hr;split at h;rename_i hl;simp only[Option.some.injEq]at h;refine⟨_,h.symm,λmQ h2=>?_⟩;unfold eK;simp only[h2,iO,if_pos hc,hr,if_pos hl];cases h;cases h;cases h;cases h
theorem G5{O:ku}{wl aa:Nat}{n:Nat}{st bG:ag}{bx gK:br}{i v x y:Nat}{u:AV}{e:eW}(h:tK O wl aa (.store n) [.val (.ptr i v x y),.val u] st bx=some (e,bG,gK)) :
  ∃o,bG=st.set i o/\gK=bx/\∀(mQ:ag) (zF:br),mQ[i]?=st[i]?->tK O wl aa (.store n) [.val (.ptr i v x y),.val u] mQ zF=some (e,mQ.set i o,zF):=by
 simp only[tK,aU]at h;split at h;rename_i hc;split at h;rename_i s1 hw;cases h;obtain⟨o,h1,h2⟩:=Nn hw;refine⟨o,h1,rfl,λmQ zF he=>?_⟩;simp only[tK,aU,if_pos hc,h2 mQ he];cases h;cases h
theorem KR{id:Nat}{Q:Exit->Act->World->Prop}{s e:St}(hm:O1 S P cV n m bO=true)(hO:kh S P O)(hP:Cf S O)(_hs:FT w G β a s n)(h1:∀b,gZ β a s G n b<=1)(he:gm O wl aa m bO s=some e)
  (acL:∀d,FT { w with drawn:=d } G β a s n/\∀w' G' A',Mv { w with drawn:=d } G (gZ β a s G n) w' G' A'->Mv w G (gZ β a s G n) w' G' A')
  (hQ:∀w' G' gR a',FT w' G' gR a' e n->Mv w G (gZ β a s G n) w' G' (gZ gR a' e G' n)->Q .normal a' w'):(Code.region id cV true).wp P Q a w:=by
 have hd:=TS hm;unfold gm at he;split at he;cases he;rename_i e' jY hr;split at he;rename_i hc;cases he;simp only[Ar,aaS]at hc;obtain⟨r1,r2,r3,r4⟩:=Cg hr
 let T:Nat->St:=λk=>(jY[k]?).getD s
 have hT:∀(i:Nat) x,jY[i]?=some x->T i=x:=λi x hx=>by simp only[T,hx,aeR]
 have tx:Text S O wl aa m T:=⟨λi so hi=>by
  obtain⟨x,y,a1,a2,a3⟩:=r4 i so hi;rw[hT i x a1,hT (i+1) y a2];exact alO hP a3⟩
 obtain⟨xp,hsn,n6⟩:∃xp:Option (Nat×Nat×ag),(xp=none->∀i j,i<100000->(100000+i,j) ∉ bO)/\∀p q X,xp=some (p,q,X)->Spc S O wl aa m bO T p q X:=by
  by_cases hex:∃p q,p<100000/\(100000+p,q)∈bO;obtain⟨p,q,hp,XR⟩:=hex;obtain⟨t1,⟨a,b,t2,t3,t4,t5,t6,t7⟩,t8,t9,t10⟩:=hd.xt p q hp XR;have FY:q<m.length:=(aab.1 t3).1;have hxs:=hc.1 _ XR;unfold ju at hxs;simp only[show ¬100000+p<100000 by omega,if_false,show (100000+p) % 100000=p by omega]at hxs;cases hX:xSt wl aa m jY p q with
  |none=>rw[hX]at hxs;cases hxs|some X=>
   refine⟨some (p,q,X),⟨λh=>(by cases h),λp' q' X' h=>?_⟩⟩;cases h;have KQ:(T q).st=(T (p+1)).st:=by
    obtain⟨d,YP⟩:∃d,q=p+1+d:=⟨q-(p+1),by omega⟩;rw[YP];exact As tx d (by omega) λj so a1 a2 a3=>t8 j so (by omega) (by omega) a3
   unfold xSt at hX;split at hX;rename_i a' s' b' t' g1 g2 g3 g4;rw[t2]at g1;cases g1;rw[t3]at g3;cases g3;have J9:=hT p s' g2;have ht':=hT q t' g4;subst J9 ht';split at hX;rename_i ao av bo bv ma i vi xi yi ui mb j vj xj yj uj k1 k2 k3 k4;split at hX;cases hX;rename_i FU;split at hX;rename_i e0 X0 b0 ahq;cases hX;have ahr:tK O wl aa (.store mb) [.val (.ptr j vj xj yj),.val uj] (T p).st []=some (e0,X,b0):=ahq;obtain⟨ob,o1,o2,o3⟩:=G5 ahr;have alU:=tx.one p a t2;obtain⟨ep,ap,_⟩:=alU.yes (by rw[t6];rfl);rw[k1,k2]at ap;obtain⟨oa,p1,p2,p3⟩:=G5 ap;have alV:=tx.one q b t3;obtain⟨eq,aq,_⟩:=alV.yes (by rw[t7];rfl);rw[k3,k4]at aq;have ahs:(T q).st[j]?=(T p).st[j]?:=(by rw[KQ,p1,afA FU]);have q1:(T (q+1)).st=(T q).st.set j ob:=by
    have:=o3 (T q).st (T q).bx ahs;rw[this]at aq;simp only[Option.some.injEq,Prod.mk.injEq]at aq;exact aq.2.1.symm
   refine⟨t1,FY,XR,λa' Nm=>?_,λa' Nm=>?_,t8,t10,t9,λa' Nm e bx gK hh=>?_,λa' Nm e bx gK hh=>?_,λk hk o ho=>?_⟩;rw[t2]at Nm;cases Nm;exact⟨by rw[k1];rfl,t6⟩;rw[t3]at Nm;cases Nm;exact⟨by rw[k3];rfl,t7⟩;rw[t3]at Nm;cases Nm;rw[k3,k4]at hh ⊢;rw[o3 (T q).st bx ahs]at hh;simp only[Option.some.injEq,Prod.mk.injEq]at hh;rw[o3 (T p).st bx rfl,hh.1,hh.2.2,o1];rw[t2]at Nm;cases Nm;rw[k1,k2]at hh ⊢;rw[p3 (T p).st bx rfl]at hh;simp only[Option.some.injEq,Prod.mk.injEq]at hh;rw[p3 X bx (by rw[o1,afA (λe=>FU e.symm)]),hh.1,hh.2.2,q1,KQ,p1,o1,List.set_comm _ _ FU];have:=hc.1 _ hk;unfold ju at this;simp only[show ¬100000*(k+2)+p<100000 by omega,if_false,show (100000*(k+2)+p) % 100000=p by omega,show ¬100000*(k+2)+p<200000 by omega,show (100000*(k+2)+p) / 100000-2=k by omega]at this;have hX2:xSt wl aa m jY p q=some X:=by
    unfold xSt;simp only[t2,t3,g2,g4,k1,k2,k3,k4,if_neg FU,ahq]
   rw[hX2]at this;simp only at this;split at this;rename_i o' x y g5 g6 g7;rw[ho]at g5;cases g5;rw[hT k x g6,hT (k+1) y g7];exact this;cases this;cases hX;cases hX;cases hX
  exact⟨none,⟨λ_ i j hi FU=>hex ⟨i,j,hi,FU⟩,λ_ _ _ h=>(by cases h)⟩⟩
 have hR:Mz S P O wl aa n cV m bO T xp:=by
  refine⟨hd,tx,λq w FY hqw o ho=>?_,hsn,n6,λi so j hi hj=>?_,hP⟩;have:=hc.1 (q,w) hqw;unfold ju at this;simp only[FY,if_true]at this;split at this;rename_i o' x y x' y' g1 g2 g3 g4 g5;rw[ho]at g1;cases g1;rw[hT q x g2,hT (q+1) y g3,hT w x' g4,hT (w+1) y' g5];simpa only [Ar] using this;cases this;have:=hc.2 so (de hi);unfold bp at this;rw[hj]at this;rw[hT 0 s r2];exact this
 have h0:T 0=s:=hT 0 s r2;have T2:jg (agT cV.size false)=λ_=>false:=by
  funext k;simp only[jg,air,ai3,Array.getInternal_eq_getElem,Array.getElem_replicate];split<;>rfl
 have T4:∀{K V:Type} (init:K->V) (zX:Nat->K->Option V) (N:Nat) (x:K),qh init zX (λ_=>false) N x=init x:=by
  intro K V init zX N x;induction N with
  |zero=>rfl|succ N ih=>simp only[qh,ih];rfl
 obtain⟨d1,d2⟩:=acL (w.drawn+1);refine wp_region_any hd.fol (TZ (w0:={ w with drawn:=w.drawn+1 }) (G0:=G) (A0:=gZ β a s G n) hR hO (λw' G' gR a' gK D hD hA=>?_) cV.size _ a _ G β s.bx (by simp) ?_ ?_ ?_);have jZ:∀{K V:Type} (init:K->V) (zX:Nat->K->Option V) (x:K),qh init zX D m.length x=qh init zX (λk=>decide (k<m.length)) m.length x:=λinit zX x=>nQ λk hk jJ=>by
  rw[hD k hk,decide_eq_true hk]at jJ;exact absurd rfl jJ
 have hTe:T m.length=e:=hT _ e r3;have e1:vT m T D=cR e.env:=by
  funext t;rw[<-hTe,<-TU tx (aaH _)];exact jZ _ _ t
 have e2:vX S m T xp D=e.st:=by
  rw[sw λp q X hx _=>hD p (by have:=n6 p q X hx;have:=this.lt;have:=(n6 p q X hx).ql;omega)];rw[<-hTe,<-TX tx (aaH _)];exact jZ _ _ ()
 have e3:gK=e.bx:=by
  apply agy;intro b;rw[hA.bb b,<-hTe,<-TW tx (aaH _)];exact jZ _ _ b
 have f1:=hA.fs;have f2:=hA.mv;rw[e1,e2,e3]at f1 f2;exact hQ w' G' gR a' f1 (d2 _ _ _ f2);intro j o _ hj;rw[T2]at hj;cases hj;rw[T2];have:∀N,gP (λ_=>1) N=N:=λN=>by induction N with|zero=>rfl|succ N ih=>simp[gP,ih]
 simp[this];rw[T2];have e1:vT m T (λ_=>false)=cR s.env:=by funext t;rw[<-h0];exact T4 _ _ _ t
 have e2:vX S m T xp (λ_=>false)=s.st:=by rw[sw λp q X _ h=>by cases h];rw[<-h0];exact T4 _ _ _ ()
 refine⟨?_,?_,λb=>?_,by rw[h0],λi so j hi hj _ t=>?_⟩;rw[e1,e2];exact d1;rw[e1,e2];exact Mv.refl h1;rw[<-h0];exact(T4 _ _ _ b).symm;rw[e1,<-h0];exact Eh (hR.bo i so j hi hj) t;cases he
end Ax
namespace Ax
open Go
variable {S:Nat->Option aA}{P:Program}{O:ku}{wl aa n:Nat}
variable {w w':World}{G G':aR}{β gR:List nI}{a:Act}{s s':St}
def Ev:Code->Code
 |.scope c=>Ev c|c=>c
def IE(S:Nat->Option aA)(P:Program)(n:Nat)(cV:Array Oper)(draw:Bool)(m:List aC):Option (List (Nat×Nat))->Bool
 |none=>!draw&&sj S P cV n cV.toList m|some bO=>draw&&O1 S P cV n m bO
def jL(S:Nat->Option aA)(P:Program)(n:Nat):aX->Code->Bool
 |.skip,c=>match Ev c with|.skip=>true|_=>false
 |.region m draw _,c=>match Ev c with
  |.region _ cV d=>IE S P n cV d m draw|_=>false
 |.seq x y,c=>match x with
  |.Qv _=>jL S P n y c|.DH _ _=>jL S P n y c|.wJ _ _=>jL S P n y c|x=>match Ev c with
   |.seq a b=>jL S P n x a&&jL S P n y b|_=>false
 |.cond t _ x _ y,c=>match Ev c with
  |.cond u a b=>MM u t&&jL S P n x a&&jL S P n y b|_=>false
 |.block i x,c=>match Ev c with
  |.block j a=>i==j&&jL S P n x a|_=>false
 |.loop x,c=>match Ev c with
  |.loop a=>jL S P n x a|_=>false
 |.exit i,c=>match Ev c with
  |.exit j=>i==j|_=>false
 |.ret,c=>match Ev c with
  |.ret=>true|_=>false
 |.Qv _,_=>false|.DH _ _,_=>false|.wJ _ _,_=>false
def Ew:Ex->Exit
 |.normal=>.normal|.exit id=>.exit id|.ret _=>.ret
def Pst(n:Nat)(rs:List iE)(A:Nat->Nat)(w:World)(G:aR)(x:Ex)(s':St)(w':World)(G':aR)(gR:List nI)(a':Act):Prop:=
 ∃sr,FT w' G' gR a' sr n/\Mv w G A w' G' (gZ gR a' sr G' n)/\(match x with|.ret v=>yI sr rs=some v/\s'.st=sr.st|_=>s'=sr)
theorem Pst.trans{rs:List iE}{A A1:Nat->Nat}{w1:World}{G1:aR}{x:Ex}{a':Act}(h:Mv w G A w1 G1 A1)(k:Pst n rs A1 w1 G1 x s' w' G' gR a'):Pst n rs A w G x s' w' G' gR a':=by
 obtain⟨sr,h1,h2,h3⟩:=k;exact⟨sr,h1,h.trans h2,h3⟩
def IF(P:Program)(c:Code)(Q:Exit->Act->World->Prop)(a:Act)(w:World):Prop:=
 ∀(b:Frame) (k:List Item) (cs:List Frame),∃e a' w',Q e a' w'/\Arrives P (lone (b.at a (.code c::.inLoop c::k)) cs w) b k cs e a' w'
theorem KS{c:Code}{Q:Exit->Act->World->Prop}{w:World}(h:c.wp P (Exit.then (IF P c Q) Q) a w):IF P c Q a w:=by
 intro b k cs;obtain⟨e,T5,T6,hq,KT⟩:=h b (.inLoop c::k) cs;cases e with
 |normal=>
  obtain⟨alX,alY,alZ,ahu,YQ⟩:=hq b k cs;exact⟨alX,alY,alZ,ahu,.of_steps (Steps.trans KT (.one step_inLoop)) YQ⟩
 |exit id=>exact⟨_,T5,T6,hq,.pass (x:=.inLoop c) rfl (λ_ _=>.inl (by simp)) KT⟩|goto l=>exact⟨_,T5,T6,hq,.pass (x:=.inLoop c) rfl (λ_ _=>.inl (by simp)) KT⟩|ret=>exact⟨_,T5,T6,hq,.pass (x:=.inLoop c) rfl (λ_ _=>.inl (by simp)) KT⟩|panic ch=>exact⟨_,T5,T6,hq,.pass (x:=.inLoop c) rfl (λ_ _=>.inl (by simp)) KT⟩|outgrown=>exact⟨_,T5,T6,hq,.pass (x:=.inLoop c) rfl (λ_ _=>.inl (by simp)) KT⟩
theorem KU{c:Code}{Q:Exit->Act->World->Prop}{w:World}(h:IF P c Q a w):(Code.loop c).wp P Q a w:=by
 intro b k cs;obtain⟨e,a',w',hq,KT⟩:=h b k cs;exact⟨e,a',w',hq,.of_steps (.one step_loop) KT⟩
theorem qW{Q:Exit->Act->World->Prop}{w:World}:∀{c:Code},(Ev c).wp P (Exit.noGoto Q) a w->c.wp P Q a w
 |.scope c,h=>wp_scope_straight (qW (c:=c) (wp_mono h λe _ _ he=>by cases e<;>exact he))|.skip,h|.region ..,h|.seq ..,h|.cond ..,h|.block ..,h|.loop ..,h|.rangeFunc ..,h|.exit _,h|.label _,h|.goto _,h|.refuse _,h|.ret,h=>wp_mono h λe _ _ he=>by
  cases e<;>first|exact he|exact he.elim
def x9(S:Nat->Option aA)(P:Program)(O:ku):Prop:=
 ∀wl aa rs c s x s',O.loop wl aa rs c s=some (x,s')->∀code n,jL S P n c code=true->∀(w:World) (G:aR) (β:List nI) (a:Act),FT w G β a s n->(∀b,gZ β a s G n b<=1)->
  ∀(Q:Exit->Act->World->Prop),(∀w' G' gR a',Pst n rs (gZ β a s G n) w G x s' w' G' gR a'->Q (Ew x) a' w')->IF P code Q a w
theorem FT.clear(h:FT w G β a s n)(l:List Nat):FT w G β a { s with env:=je l s.env } n/\∀b,gZ β a { s with env:=je l s.env } G n b<=gZ β a s G n b:=
 FS.TK h λt=>by
  simp only[u7];split;exact .inr rfl;exact .inl rfl
theorem FT.ahv(h:FT w G β a s n)(c:Src)(l:List Nat):FT w G β a { s with env:=je l (mW s.env c) } n/\∀b,gZ β a { s with env:=je l (mW s.env c) } G n b<=gZ β a s G n b:=
 FS.TK h λt=>by
  have h1:=uv t [c] s.env;simp only[List.foldl_cons,List.foldl_nil]at h1;simp only[u7,h1];split;exact .inr rfl;split;exact .inr rfl;exact .inl rfl
theorem Mv.T7{A A' A'':Nat->Nat}(h:Mv w G A w' G' A')(hl:∀b,A'' b<=A' b):Mv w G A w' G' A'':=
 h.TF (λ_=>aaH _) (λb hb=>acF (hl b) (h.gb b hb)) λb=>acF (hl b) (h.one b)
theorem ya(w:World)(G:aR)(d:Nat):tM w G { w with drawn:=d } G:=⟨λ_ _ hi=>⟨rfl,hi⟩,λ_ bh h=>⟨bh,h,aaH _,λ_=>rfl⟩⟩
theorem FT.drawn(h:FT w G β a s n)(d:Nat):FT { w with drawn:=d } G β a s n where
 KF:=h.KF
 size:=h.size
 uQ:=λt=>(h.uQ t).kA (ya w G d) λ_ _=>⟨rfl,rfl⟩
 lt:=h.lt
 inv:=wW h.inv (ya w G d) rfl (λ_ _=>⟨rfl,rfl⟩) h.inv.oR
 box:=nP h.box (ya w G d) λ_ _=>⟨rfl,rfl⟩
theorem Mv.drawn{A A':Nat->Nat}{d:Nat}(h:Mv { w with drawn:=d } G A w' G' A'):Mv w G A w' G' A':=
 ⟨(ya w G d).trans h.kA,h.gb,h.one,λb hb h0=>h.wR b hb h0,h.size,h.os,h.out⟩
theorem acM{t:Nat}{v v':AV}{bG:ag}(hs:FT w G β a s n)(h1:∀b,gZ β a s G n b<=1)(hv:cR s.env t=.val v)(hf:iG wl v s.st=some (v',bG)) :
  ∃G',FT w G' β a ⟨wB s.env t (.val v'),s.bx,bG⟩ n/\Mv w G (gZ β a s G n) w G' (gZ β a ⟨wB s.env t (.val v'),s.bx,bG⟩ G' n):=by
 have htn:t<n:=by
  rcases afu t n with h|h;exact h;rw[hs.lt t h]at hv;cases hv
 have CS:=hs.uQ t;rw[hv]at CS;obtain⟨G',hF,hr,iu⟩:=zC (w:=w) hs.inv (λb=>by have:=h1 b;unfold gZ wh at this;omega) CS hf;have MU:∀b,cF b (.val v') (l5 a t)=0:=λb=>fU b _ _ iu;have iO:∀b,0<cF b (cR s.env t) (l5 a t)\/True:=λ_=>.inr trivial;have Gd:∀b,gP (λu=>cF b (cR (wB s.env t (.val v')) u) (l5 a u)) n<=gP (λu=>cF b (cR s.env u) (l5 a u)) n:=λb=>Dh λu _=>by
  rw[w7];by_cases hu:u=t;subst hu;rw[if_pos rfl,MU b];omega;rw[if_neg hu];exact aaH _
 have EA:∀b,0<gP (λu=>cF b (cR s.env u) (l5 a u)) n+gO b β s.bx->eC w G w G' b:=λb hb=>⟨hF.wR b (by have:=h1 b;unfold gZ wh at this;omega),rfl⟩;have hle:∀b,gZ β a ⟨wB s.env t (.val v'),s.bx,bG⟩ G' n b<=gZ β a s G n b:=λb=>by
  have e1:=Gd b;have e2:=hF.gb b;show gP (λu=>cF b (cR (wB s.env t (.val v')) u) (l5 a u)) n+gO b β s.bx+cn b G'.ls bG<=gP (λu=>cF b (cR s.env u) (l5 a u)) n+gO b β s.bx+cn b G.ls s.st;omega
 refine⟨G',⟨hs.KF,hs.size,λu=>?_,λu hu=>?_,hF.inv,nP (bx:=s.bx) hs.box hF.kA λb hb=>EA b (by omega)⟩,⟨hF.kA,λb _=>hle b,λb=>acF (hle b) (h1 b),λb hb h0=>?_,aaH _,rfl,rfl⟩⟩;show kT w G' β (cR (wB s.env t (.val v')) u) (l5 a u);rw[w7];by_cases hu:u=t;subst hu;rw[if_pos rfl];exact hr;rw[if_neg hu];refine(hs.uQ u).kA hF.kA λb hb=>EA b ?_;have Kt:u<n:=by
  rcases afu u n with h|h;exact h;rw[hs.lt u h]at hb;simp[cF]at hb
 have:=w8 (f:=λu=>cF b (cR s.env u) (l5 a u)) Kt;omega;show cR (wB s.env t (.val v')) u=.none;rw[w7,if_neg (by omega)];exact hs.lt u hu;have:cn b G.ls s.st=0:=by unfold gZ wh at h0;omega
 exact⟨hF.wR b this,rfl⟩
theorem Aw{wl:Nat}{v v':AV}{st bG:ag}(h:iG wl v st=some (v',bG)):v'.cx=true:=by
 unfold iG at h;split at h;split at h;split at h;split at h;cases h;rfl;cases h;cases h;cases h;cases h;rfl;cases h
theorem Ah.put{row:List AV}{g:nI}{k:Nat}{v:AV}{u:Value}(h:Ah w G row g)(hk:k<row.length)(hu:g.vals[k]?=some u)(hr:aY w G v u)(hc:v.cx=true):Ah w G (aj row k [v]) g:=by
 have hv:cy w G [v] [u]:=⟨rfl,λi c x h1 h2=>by
  cases i with
  |zero=>simp at h1 h2;subst h1;subst h2;exact hr|succ i=>simp at h1⟩
 have hs:aj g.vals k [u]=g.vals:=by
  have pS:k<g.vals.length:=(aab.1 hu).1;have e:=u5 g.vals k 1 (by omega);have e2:(g.vals.drop k).take 1=[u]:=by
   rw[aa3 pS];simp[(aab.1 hu).2]
  rw[e2]at e;exact e
 refine⟨?_,ke h.FQ (by simp[AV.aS,hc]) (by simp;omega),?_⟩;have:=h.uQ.aj hv (n:=k) (by simp;omega)
 rwa [hs]at this
 rcases h.uo with⟨h1,h2⟩|⟨b,c,e,h1,h2,h3,h4,h5⟩;subst h2;simp at hk;exact .inr ⟨b,c,e,h1,h2,by rw[eG];exact h3,h4,h5⟩
theorem YR{j k:Nat}{row:List AV}{v v':AV}{bG:ag}(hs:FT w G β a s n)(h1:∀b,gZ β a s G n b<=1)(hr:s.bx[j]?=some row)(hv:row[k]?=some v)(hf:iG wl v s.st=some (v',bG)) :
  ∃G',FT w G' β a ⟨s.env,s.bx.set j (aj row k [v']),bG⟩ n/\Mv w G (gZ β a s G n) w G' (gZ β a ⟨s.env,s.bx.set j (aj row k [v']),bG⟩ G' n):=by
 have kJ:=(aab.1 hr).1;have cL:=(aab.1 hv).1;obtain⟨g,hg⟩:∃g,β[j]?=some g:=⟨_,aao (by rw[hs.box.len];exact kJ)⟩;have hbx:=hs.box.box j row g hr hg;obtain⟨u,hu⟩:∃u,g.vals[k]?=some u:=⟨_,aao (by rw[<-hbx.uQ.1];exact cL)⟩;obtain⟨G',hF,fG,iu⟩:=zC (w:=w) hs.inv (λb=>by have:=h1 b;unfold gZ wh at this;omega) (hbx.uQ.2 k v u hv hu) hf;have kG:=Aw hf;have EA:∀b,0<gP (λu=>cF b (cR s.env u) (l5 a u)) n+gO b β s.bx->eC w G w G' b:=λb hb=>⟨hF.wR b (by have:=h1 b;unfold gZ wh at this;omega),rfl⟩;have hbc:∀b,gO b β (s.bx.set j (aj row k [v']))<=gO b β s.bx:=λb=>by
  have e1:=Ag b β s.bx j g row g (aj row k [v']) hg hr;have e2:β.set j g=β:=by
   obtain⟨hj,e⟩:=aab.1 hg;rw[<-e];exact List.set_getElem_self _
  have J9:aj g.vals k [u]=g.vals:=by
   have pS:k<g.vals.length:=(aab.1 hu).1;have e:=u5 g.vals k 1 (by omega);have e2:(g.vals.drop k).take 1=[u]:=by
    rw[aa3 pS];simp[(aab.1 hu).2]
   rw[e2]at e;exact e
  have e3:=rU b row [v'] g.vals [u] k hbx.uQ.1 rfl (by simp;omega);rw[J9]at e3;have e4:bZ b [v'] [u]=0:=by simp only[bZ,fU b v' u iu]
  rw[e2]at e1;omega
 have hle:∀b,gZ β a ⟨s.env,s.bx.set j (aj row k [v']),bG⟩ G' n b<=gZ β a s G n b:=λb=>by
  have e1:=hbc b;have e2:=hF.gb b;show gP (λu=>cF b (cR s.env u) (l5 a u)) n+gO b β (s.bx.set j (aj row k [v']))+cn b G'.ls bG<=gP (λu=>cF b (cR s.env u) (l5 a u)) n+gO b β s.bx+cn b G.ls s.st;omega
 have hB:=nP (bx:=s.bx) hs.box hF.kA λb hb=>EA b (by omega);refine⟨G',⟨hs.KF,hs.size,λu=>?_,hs.lt,hF.inv,⟨by simpa using hB.len,λi r x e1 e2=>?_⟩⟩,⟨hF.kA,λb _=>hle b,λb=>acF (hle b) (h1 b),λb hb h0=>?_,aaH _,rfl,rfl⟩⟩;refine(hs.uQ u).kA hF.kA λb hb=>EA b ?_;have Kt:u<n:=by
  rcases afu u n with h|h;exact h;rw[hs.lt u h]at hb;simp[cF]at hb
 have:=w8 (f:=λu=>cF b (cR s.env u) (l5 a u)) Kt;omega;simp only[abK]at e1;by_cases FU:j=i;subst FU;rw[if_pos rfl,if_pos kJ]at e1;cases e1;rw[hg]at e2;cases e2;exact(hB.box j row g hr hg).put cL hu fG kG;rw[if_neg FU]at e1;exact hB.box i r x e1 e2;have:cn b G.ls s.st=0:=by unfold gZ wh at h0;omega
 exact⟨hF.wR b this,rfl⟩
theorem T8{wl aa:Nat}{st nG mQ:ag}{id cq i k off:Nat}{v v':AV}{u:Value}(hI:kC w G st)(hX:∀b,cn b G.ls st<=1)(hp:aY w G (.ptr id cq i k) u)
  (hr:fy st (.ptr id cq i (k+off)) 1=some [v])(hf:iG wl v st=some (v',nG))(hw:eK wl aa nG (.ptr id cq i (k+off)) [v']=some mQ):∃G',Ka w G st G' mQ:=by
 unfold fy at hr;simp only at hr;split at hr;rename_i ve sz rows iO;split at hr;rename_i hve;subst hve;split at hr;rename_i r ff;obtain⟨bh,b,o,c,e,xs,hl,Gy,DZ,jq,Ku,tg,gT,gW,iA,hle,hlen,jI,M5,zB,eS⟩:=Al hI hp iO ff;obtain⟨pO,acz,kH⟩:=rV hr;have MN:k+off<r.length:=by omega
 have hv:r[k+off]?=some v:=by
  have:((r.drop (k+off)).take 1)[0]?=some v:=by rw[<-pO];rfl
  rw[abZ,if_pos (by omega),acP]at this;exact this
 obtain⟨x,hx⟩:∃x,xs[k+off]?=some x:=⟨_,aao (by rw[<-zB.1];exact MN)⟩;obtain⟨G',hF,fG,iu⟩:=zC hI hX (zB.2 _ _ _ hv hx) hf;have kG:=Aw hf;have hp':aY w G' (.ptr id ve i k) u:=hp.Br hF.kA rfl;unfold eK at hw;simp only at hw;split at hw;rename_i ve1 sz1 T9 F8;split at hw;rename_i ahw;simp only[Ar,decide_eq_true_eq]at ahw;obtain⟨rfl,_⟩:=ahw;split at hw;rename_i r1 O5;split at hw;rename_i bE;cases hw;obtain⟨YS,b1,o1,c1,e1,XW,hl1,al2,al3,KW,acN,al4,ahx,apg,acO,al5,ahy,ahz,YT,TC,O6⟩:=Al hF.inv hp' F8 O5;have hk1:k+off<r1.length:=by simp only[List.length_singleton]at bE;omega
 obtain⟨x1,hx1⟩:∃x,XW[k+off]?=some x:=⟨_,aao (by rw[<-TC.1];exact hk1)⟩;rw[Ku]at acN;simp only[Value.pointer.injEq,Option.some.injEq,Addr.mk.injEq,and_true]at acN;obtain⟨hb,ho⟩:=acN;have hxx:x1=x:=by
  have a1:=eS i xs (k+off) x M5 hx;have a2:=O6 i XW (k+off) x1 YT hx1;rw[hb,show o+(i*sz+(k+off))=o1+(i*sz1+(k+off)) by omega,a2]at a1;cases a1;rfl
 subst hxx;have hs:aj XW (k+off) [x1]=XW:=by
  have e:=u5 XW (k+off) 1 (by have:=(aab.1 hx1).1;omega);have e2:(XW.drop (k+off)).take 1=[x1]:=by
   rw[aa3 (aab.1 hx1).1];simp[(aab.1 hx1).2]
  rw[e2]at e;exact e
 have ahA:cy w G' (aj r1 (k+off) [v']) XW:=by
  have Tu:cy w G' [v'] [x1]:=⟨rfl,λi c x h1 h2=>by
   cases i with
   |zero=>simp at h1 h2;subst h1;subst h2;exact fG|succ i=>simp at h1⟩
  have:=TC.aj Tu (n:=k+off) (by simp;omega)
  rwa [hs]at this
 have sW:rT w G' (.rows ve1 sz1 (T9.set i (aj r1 (k+off) [v']))) YS:=by
  refine⟨al2,al3,cY.2 λr' yK=>?_,λr' yK=>?_,by simp[KW.len],KW.size,by simp[KW.um],λi' r' My h1 h2=>?_,.inr ⟨b1,o1,c1,e1,al4,ahx,acO,al5,by simpa using ahy,ahz,O6⟩⟩;rcases abX yK with h|h;exact cY.1 KW.FO r' h;rw[h,eG];exact cY.1 KW.FO r1 (de O5);rcases abX yK with h|h;exact KW.FQ r' h;rw[h];exact ke (KW.FQ r1 (de O5)) (by simp[AV.aS,kG]) (by simpa using bE);rw[abK]at h1;by_cases M7:i=i';subst M7;rw[if_pos rfl]at h1;split at h1;cases h1;rw[YT]at h2;cases h2;exact ahA;cases h1;rw[if_neg M7]at h1;exact KW.uX i' r' My h1 h2
 refine⟨G',hF.trans ⟨tM.refl w G',Df hF.inv (tM.refl w G') (jK _ _ _ hl1).symm (λ_ _ _ _ _ _ _ _=>⟨rfl,rfl⟩) sW hF.inv.oR,λb'=>?_,λ_ _=>rfl⟩⟩;have h1:=wQ b' G'.ls nG id YS _ YS (.rows ve1 sz1 (T9.set i (aj r1 (k+off) [v']))) hl1 F8;rw[jK _ _ _ hl1]at h1;have h4:=uq b' T9 YS.vals i r1 XW (aj r1 (k+off) [v']) XW O5 YT;rw[jK _ _ _ YT]at h4;have e3:=rU b' r1 [v'] XW [x1] (k+off) TC.1 rfl (by simp;omega);rw[hs]at e3;have e4:bZ b' [v'] [x1]=0:=by simp only[bZ,fU b' v' x1 iu]
 simp only[jv]at h1;omega;cases hw;cases hw;cases hw;cases hw;cases hr;cases hr;cases hr
theorem QZ{wl aa:Nat}{st nG mQ:ag}{id cq i k off:Nat}{v v':AV}{u:Value}(hI:kC w G st)(hX:∀b,cn b G.ls st<=1)(hp:aY w G (.ptr id cq i k) u)
  (hr:fy st (.ptr id cq i (k+off)) 1=some [v])(hf:qL wl v st=some (v',nG))(hw:eK wl aa nG (.ptr id cq i (k+off)) [v']=some mQ):∃G',Ka w G st G' mQ:=by
 unfold qL at hf;split at hf;rename_i lP eD;cases hf;unfold fy at hr;simp only at hr;split at hr;rename_i ve sz rows iO;split at hr;rename_i hve;subst hve;split at hr;rename_i r ff;obtain⟨pO,acz,kH⟩:=rV hr;have MN:k+off<r.length:=by omega
 have hv:r[k+off]?=some (.raw lP eD):=by
  have:((r.drop (k+off)).take 1)[0]?=some (.raw lP eD):=by rw[<-pO];rfl
  rw[abZ,if_pos (by omega),acP]at this;exact this
 have Mw:id<st.length:=(aab.1 iO).1;have F8:(st++[dK.rows 0 lP eD])[id]?=some (.rows ve sz rows):=by rw[aaE Mw];exact iO
 unfold eK at hw;simp only[F8,ff]at hw;split at hw;split at hw;cases hw;exact Yz hI hp iO ff hv;cases hw;cases hw;cases hr;cases hr;cases hr;exact T8 hI hX hp hr hf hw
theorem YU{wl aa:Nat}{t id cq i k off:Nat}{v v':AV}{nG mQ:ag}(hs:FT w G β a s n)(h1:∀b,gZ β a s G n b<=1)(ht:cR s.env t=.val (.ptr id cq i k))
  (hr:fy s.st (.ptr id cq i (k+off)) 1=some [v])(hf:qL wl v s.st=some (v',nG))(hw:eK wl aa nG (.ptr id cq i (k+off)) [v']=some mQ) :
  ∃G',FT w G' β a ⟨s.env,s.bx,mQ⟩ n/\Mv w G (gZ β a s G n) w G' (gZ β a ⟨s.env,s.bx,mQ⟩ G' n):=by
 have CS:kT w G β (cR s.env t) (l5 a t):=hs.uQ t;rw[ht]at CS;obtain⟨G',hF⟩:=QZ hs.inv (λb=>by have:=h1 b;unfold gZ wh at this;omega) CS hr hf hw;have EA:∀b,0<gP (λu=>cF b (cR s.env u) (l5 a u)) n+gO b β s.bx->eC w G w G' b:=λb hb=>⟨hF.wR b (by have:=h1 b;unfold gZ wh at this;omega),rfl⟩;have hle:∀b,gZ β a ⟨s.env,s.bx,mQ⟩ G' n b<=gZ β a s G n b:=λb=>by
  have e2:=hF.gb b;show gP (λu=>cF b (cR s.env u) (l5 a u)) n+gO b β s.bx+cn b G'.ls mQ<=gP (λu=>cF b (cR s.env u) (l5 a u)) n+gO b β s.bx+cn b G.ls s.st;omega
 refine⟨G',⟨hs.KF,hs.size,λu=>?_,hs.lt,hF.inv,nP (bx:=s.bx) hs.box hF.kA λb hb=>EA b (by omega)⟩,⟨hF.kA,λb _=>hle b,λb=>acF (hle b) (h1 b),λb hb h0=>?_,aaH _,rfl,rfl⟩⟩;refine(hs.uQ u).kA hF.kA λb hb=>EA b ?_;have Kt:u<n:=by
  rcases afu u n with h|h;exact h;rw[hs.lt u h]at hb;simp[cF]at hb
 have:=w8 (f:=λu=>cF b (cR s.env u) (l5 a u)) Kt;omega;have:cn b G.ls s.st=0:=by unfold gZ wh at h0;omega
 exact⟨hF.wR b this,rfl⟩
end Ax
namespace Ax
open Go
variable {S:Nat->Option aA}{P:Program}{O:ku}{wl aa n:Nat}
theorem yb{Q:Exit->Act->World->Prop}{x:Ex}{a:Act}{w:World}(h:Q (Ew x) a w):Exit.noGoto Q (Ew x) a w:=by
 cases x<;>exact h
theorem Q0{x y:aX}{c:Code}(h:jL S P n (.seq x y) c=true):(∃t,x=.Qv t/\jL S P n y c=true)\/(∃j k,x=.DH j k/\jL S P n y c=true)\/(∃j k,x=.wJ j k/\jL S P n y c=true)\/(∃a b,Ev c=.seq a b/\jL S P n x a=true/\jL S P n y b=true):=by
 unfold jL at h;split at h;exact .inl ⟨_,rfl,h⟩;exact .inr (.inl ⟨_,_,rfl,h⟩);exact .inr (.inr (.inl ⟨_,_,rfl,h⟩));split at h;rename_i a b he;simp only[Ar]at h;exact .inr (.inr (.inr ⟨a,b,he,h.1,h.2⟩));cases h
theorem tR(hO:kh S P O)(hL:x9 S P O)(hP:Cf S O){rs:List iE}:∀(c:aX)(code:Code)(s s':St)(x:Ex)(w:World)(G:aR)(β:List nI)(a:Act)(Q:Exit->Act->World->Prop),
  jL S P n c code=true->FT w G β a s n->(∀b,gZ β a s G n b<=1)->iN O wl aa rs c s=some (x,s')->
  (∀w' G' gR a',Pst n rs (gZ β a s G n) w G x s' w' G' gR a'->Q (Ew x) a' w')->code.wp P Q a w
 |.skip,code,s,s',x,w,G,β,a,Q,hm,hs,h1,he,hQ=>by
  refine qW ?_;simp only[iN,Option.some.injEq,Prod.mk.injEq]at he;obtain⟨rfl,rfl⟩:=he;unfold jL at hm;split at hm;rename_i hp;rw[hp];exact wp_skip (hQ w G β a ⟨s,hs,Mv.refl h1,rfl⟩);cases hm
 |.region m draw dj,code,s,s',x,w,G,β,a,Q,hm,hs,h1,he,hQ=>by
  refine qW ?_;unfold jL at hm;split at hm;rename_i id cV d hp;rw[hp];unfold iN at he;cases draw with
  |none=>
   simp only[IE,Ar,acg]at hm;obtain⟨rfl,hm⟩:=hm;simp only at he;split at he;rename_i s1 KE;cases he;refine wp_region ?_;have:=Eo (Q:=Exit.noGoto Q) hO cV.toList m 0 w G β a s rfl hm hs h1 KE λw' G' gR a' f1 f2=>by
    obtain⟨g1,g2⟩:=f1.clear dj;exact hQ w' G' gR a' ⟨_,g1,f2.T7 g2,rfl⟩
   rw[List.range_eq_range'];simpa using this;cases he
  |some bO=>
   simp only[IE,Ar]at hm;obtain⟨rfl,hm⟩:=hm;simp only at he;split at he;rename_i s1 KE;cases he;exact KR (Q:=Exit.noGoto Q) hm hO hP hs h1 KE (λd=>⟨hs.drawn d,λ_ _ _ h=>h.drawn⟩) λw' G' gR a' f1 f2=>by
    obtain⟨g1,g2⟩:=f1.clear dj;exact hQ w' G' gR a' ⟨_,g1,f2.T7 g2,rfl⟩
   cases he
  cases hm
 |.seq c1 c2,code,s,s',x,w,G,β,a,Q,hm,hs,h1,he,hQ=>by
  rcases Q0 hm with⟨t,rfl,YW⟩|⟨j,k,rfl,YW⟩|⟨t,off,rfl,YW⟩|⟨a1,b1,hp,Ua,YW⟩;unfold iN at he;cases hc:iN O wl aa rs (.Qv t) s with
  |none=>rw[hc]at he;cases he|some y=>
   obtain⟨x1,s1⟩:=y;rw[hc]at he;unfold iN at hc;cases hv:cR s.env t with
   |none=>rw[hv]at hc;cases hc|fp j k=>rw[hv]at hc;cases hc|val v=>
    rw[hv]at hc;simp only at hc;cases hf:iG wl v s.st with
    |none=>rw[hf]at hc;cases hc|some y=>
     obtain⟨v',bG⟩:=y;rw[hf]at hc;cases hc;obtain⟨G',f1,f2⟩:=acM hs h1 hv hf;exact tR hO hL hP c2 code _ s' x w G' β a Q YW f1 f2.one he λw' G2 TM a2 hp=>hQ w' G2 TM a2 (hp.trans f2)
  unfold iN at he;cases hc:iN O wl aa rs (.DH j k) s with
  |none=>rw[hc]at he;cases he|some y=>
   obtain⟨x1,s1⟩:=y;rw[hc]at he;unfold iN at hc;cases hb:s.bx[j]? with
   |none=>rw[hb]at hc;cases hc|some row=>
    rw[hb]at hc;simp only at hc;cases hv:row[k]? with
    |none=>rw[hv]at hc;cases hc|some v=>
     rw[hv]at hc;simp only at hc;cases hf:iG wl v s.st with
     |none=>rw[hf]at hc;cases hc|some y=>
      obtain⟨v',bG⟩:=y;rw[hf]at hc;cases hc;obtain⟨G',f1,f2⟩:=YR hs h1 hb hv hf;exact tR hO hL hP c2 code _ s' x w G' β a Q YW f1 f2.one he λw' G2 TM a2 hp=>hQ w' G2 TM a2 (hp.trans f2)
  unfold iN at he;cases hc:iN O wl aa rs (.wJ t off) s with
  |none=>rw[hc]at he;cases he|some y=>
   obtain⟨x1,s1⟩:=y;rw[hc]at he;obtain⟨rfl,id,cq,i,k,v,v',nG,mQ,g1,g2,g3,g4,rfl⟩:=DL hc;simp only at he;obtain⟨G',f1,f2⟩:=YU hs h1 g1 g2 g3 g4;exact tR hO hL hP c2 code _ s' x w G' β a Q YW f1 f2.one he λw' G2 TM a2 hp=>hQ w' G2 TM a2 (hp.trans f2)
  refine qW ?_;rw[hp];refine wp_seq ?_;unfold iN at he;cases hc:iN O wl aa rs c1 s with
  |none=>rw[hc]at he;cases he|some y=>
   obtain⟨x1,s1⟩:=y;rw[hc]at he;refine tR hO hL hP c1 a1 s s1 x1 w G β a _ Ua hs h1 hc λw' G' gR a' hp1=>?_;cases x1 with
   |normal=>
    obtain⟨sr,g1,g2,g3⟩:=hp1;simp only at g3;subst g3;exact tR hO hL hP c2 b1 s1 s' x w' G' gR a' _ YW g1 g2.one he λw2 G2 TM a2 wG=>yb (hQ w2 G2 TM a2 (wG.trans g2))
   |exit id=>cases he;exact hQ w' G' gR a' hp1|ret v=>cases he;exact hQ w' G' gR a' hp1
 |.cond t ca c1 cb c2,code,s,s',x,w,G,β,a,Q,hm,hs,h1,he,hQ=>by
  refine qW ?_;unfold jL at hm;split at hm;rename_i u a1 b1 hp;rw[hp];simp only[Ar]at hm;obtain⟨⟨hms,Ua⟩,YW⟩:=hm;unfold iN at he;have hev:=(OU hs.uQ hms).1;have hb:∀b,rR s.env t=some b->a.eval u=.bool b:=λb hb=>by
   unfold rR at hb;rw[Dj]at hb;split at hb;rename_i b' sU;cases hb;rw[sU]at hev;exact aY.lX hev;cases hb
  split at he;rename_i hr;obtain⟨g1,g2⟩:=FT.ahv hs t ca;refine wp_cond_true (hb _ hr) (tR hO hL hP c1 a1 _ s' x w G β a _ Ua g1 (λb=>acF (g2 b) (h1 b)) he λw' G' gR a' hp=>yb (hQ w' G' gR a' (hp.trans ((Mv.refl h1).T7 g2))));rename_i hr;obtain⟨g1,g2⟩:=FT.ahv hs t cb;refine wp_cond_false (hb _ hr) (tR hO hL hP c2 b1 _ s' x w G β a _ YW g1 (λb=>acF (g2 b) (h1 b)) he λw' G' gR a' hp=>yb (hQ w' G' gR a' (hp.trans ((Mv.refl h1).T7 g2))));cases he;cases hm
 |.block id c1,code,s,s',x,w,G,β,a,Q,hm,hs,h1,he,hQ=>by
  refine qW ?_;unfold jL at hm;split at hm;rename_i j a1 hp;rw[hp];simp only[Ar,beq_iff_eq]at hm;obtain⟨rfl,Ua⟩:=hm;refine wp_block ?_;unfold iN at he;cases hc:iN O wl aa rs c1 s with
  |none=>rw[hc]at he;cases he|some y=>
   obtain⟨x1,s1⟩:=y;rw[hc]at he;refine tR hO hL hP c1 a1 s s1 x1 w G β a _ Ua hs h1 hc λw' G' gR a' hp1=>?_;cases x1 with
   |normal=>cases he;exact hQ w' G' gR a' hp1|exit i=>
    simp only at he;simp only[Ew,Exit.inBlock];split at he;rename_i hi;cases he;rw[if_pos hi];exact hQ w' G' gR a' hp1;rename_i hi;cases he;rw[if_neg hi];exact hQ w' G' gR a' hp1
   |ret v=>cases he;exact hQ w' G' gR a' hp1
  cases hm
 |.loop c1,code,s,s',x,w,G,β,a,Q,hm,hs,h1,he,hQ=>by
  refine qW ?_;unfold jL at hm;split at hm;rename_i a1 hp;rw[hp];unfold iN at he;exact KU (hL wl aa rs c1 s x s' he a1 n hm w G β a hs h1 _ λw' G' gR a' hp=>yb (hQ w' G' gR a' hp));cases hm
 |.exit id,code,s,s',x,w,G,β,a,Q,hm,hs,h1,he,hQ=>by
  refine qW ?_;simp only[iN,Option.some.injEq,Prod.mk.injEq]at he;obtain⟨rfl,rfl⟩:=he;unfold jL at hm;split at hm;rename_i j hp;rw[hp];simp only[beq_iff_eq]at hm;subst hm;exact wp_exit (hQ w G β a ⟨s,hs,Mv.refl h1,rfl⟩);cases hm
 |.ret,code,s,s',x,w,G,β,a,Q,hm,hs,h1,he,hQ=>by
  refine qW ?_;unfold jL at hm;split at hm;rename_i hp;rw[hp];unfold iN at he;split at he;rename_i v hv;cases he;exact wp_ret (hQ w G β a ⟨s,hs,Mv.refl h1,hv,rfl⟩);cases he;cases hm
 |.Qv t,code,s,s',x,w,G,β,a,Q,hm,hs,h1,he,hQ=>by
  simp[jL]at hm
 |.DH j k,code,s,s',x,w,G,β,a,Q,hm,hs,h1,he,hQ=>by
  simp[jL]at hm
 |.wJ t off,code,s,s',x,w,G,β,a,Q,hm,hs,h1,he,hQ=>by
  simp[jL]at hm
def O7(S:Nat->Option aA)(P:Program)(sf:aA):Bool:=
 match P.funcs[sf.eJ]? with
 |some fn=>match fn.body with
  |some code => !(fn.name == "runtime.NumGoroutine") && jL S P fn.ntmps sf.body code && zD P fn.results.toList sf.results && xd (vm sf.results) && xd (Ep sf.results) && decide (sf.az ≤ fn.ntmps)
  |none=>false
 |none=>false
def KX(S:Nat->Option aA)(P:Program):Prop:=∀f sf,S f=some sf->O7 S P sf=true/\(f<100000->sf.eJ=f)
def l6(b:Nat)(args:List AV)(vs:List Value)(k t:Nat):Nat:=if k<=t then (match args[t-k]?,vs[t-k]? with|some v,some u=>gb b v u|_,_=>0) else 0
theorem KY{w:World}{G:aR}(b:Nat):∀(args:List AV)(vs:List Value)(k N:Nat),args.length=vs.length->k+args.length<=N->
  gP (l6 b args vs k) N=bZ b args vs
 |[],[],k,N,_,_=>by
  have:gP (l6 b [] [] k) N=gP (λ_=>0) N:=o6 λt _=>by simp[l6]
  rw[this,GN];rfl
 |v::args,u::vs,k,N,hl,hN=>by
  have ih:=KY (w:=w) (G:=G) b args vs (k+1) N (by simpa using hl) (by simp at hN;omega);have:=uw (f:=l6 b (v::args) (u::vs) k) (g:=l6 b args vs (k+1)) (d:=k) (n:=N) (by simp at hN;omega) λt ht=>by
    unfold l6;by_cases hk:k<=t;have h1:k+1<=t:=(by omega);have h2:t-k=(t-(k+1))+1:=(by omega);simp only[hk,h1,if_true,h2,List.getElem?_cons_succ];have h1:¬k+1<=t:=(by omega);simp only[hk,h1,if_false]
  have e1:l6 b (v::args) (u::vs) k k=gb b v u:=by simp[l6]
  have e2:l6 b args vs (k+1) k=0:=by unfold l6;rw[if_neg (by omega)]
  rw[e1,e2,ih]at this;simp only[bZ];omega
 |[],_::_,_,_,h,_=>by simp at h|_::_,[],_,_,h,_=>by simp at h
end Ax
namespace Ax
open Go
variable {S:Nat->Option aA}{P:Program}{O:ku}{wl aa n:Nat}
variable {w w':World}{G G':aR}{β gR:List nI}{a:Act}{s s':St}
theorem YX{fn:Func}{rs:List iE}{v:AV}(hs:FT w G β a s n)(hm:zD P fn.results.toList rs=true)(h1:xd (vm rs)=true)(h2:xd (Ep rs)=true)(hr:yI s rs=some v) :
  ∃u,(results fn a.tmps).run P w=.ok u w/\aY w G v u/\∀b,gb b v u+cn b G.ls s.st<=gZ β a s G n b:=by
 unfold yI at hr;cases jq:zu s rs with
 |none=>rw[jq]at hr;cases hr|some vs=>
  obtain⟨us,k1,k2,k3⟩:=GY hs _ rs vs hm jq;have k4:=KI k1;rw[jq]at hr;have hle:∀b,bZ b vs us+cn b G.ls s.st<=gZ β a s G n b:=λb=>by
   have e1:=k3 b;have e2:=Ao (f:=λt=>cF b (cR s.env t) (l5 a t)) (n:=n) (λt ht=>by rw[hs.lt t ht];rfl) _ (x0 h1);have e3:=Ao (f:=ux b β s.bx) (n:=s.bx.length) (λt ht=>by
    unfold ux;rw[abV ht];split;rename_i h;cases h
    rfl) _ (x0 h2)
   have e4:=KJ b β s.bx;unfold gZ wh;omega
  match vs,us,k2,hle,hr,k4 with
  |[v1],[u],k2,hle,hr,k4=>
   cases hr;refine⟨u,k4,k2.2 0 _ u rfl rfl,λb=>?_⟩;have:=hle b;simp only[bZ]at this;omega
  |[],us,k2,hle,hr,k4=>
   have:us=[]:=by have:=k2.1;simpa using this.symm
   subst this;cases hr;exact⟨_,k4,.ir _ _ rfl λi c v h=>by simp at h,λb=>by have:=hle b;simpa [gb,QW] using this⟩
  |v1::v2::vs,us,k2,hle,hr,k4=>
   cases hr;match us,k2,hle,k4 with
   |[],k2,_,_=>have:=k2.1;simp at this|[_],k2,_,_=>have:=k2.1;simp at this|u1::u2::us,k2,hle,k4=>
    exact⟨_,k4,.ir _ _ (by simpa using k2.1) λi c v h k=>k2.2 i c v h (by simpa using k),λb=>by have:=hle b;simpa [gb,QW] using this⟩
  |[_],[],k2,_,_,_=>have:=k2.1;simp at this|[_],_::_::_,k2,_,_,_=>have:=k2.1;simp at this
theorem IG{m:Mode}{st nG bG:ag}{v v':AV}{u:Value}{A:Nat->Nat}(hI0:kC w G st)(hk:dx (m.wK st.length wl) (m.qc st.length aa) st nG)(hf:m.nZ st v nG=some (v',bG))(hr:aY w' G' v u)(hI:kC w' G' nG)
  (hM:Mv w G A w' G' (λb=>gb b v u+cn b G'.ls nG)):∃G2,aY w' G2 v' u/\kC w' G2 bG/\Mv w G A w' G2 (λb=>gb b v' u+cn b G2.ls bG):=by
 have acQ:(m=.pure\/m=.oP)->GO st.length nG:=λh=>by
  have hl:m.qc st.length aa=st.length:=by rcases h with rfl|rfl<;>rfl
  rw[hl]at hk;exact hk.aa st.length (aaH _) (aaH _) hI0.ahf
 have cut:v.ay=true->GO st.length nG->∃G2,aY w' G2 v u/\kC w' G2 (nG.take st.length)/\Mv w G A w' G2 (λb=>gb b v u+cn b G2.ls (nG.take st.length)):=by
  intro hp hl;have hc:∀b,gb b v u+cn b (G'.cut st.length).ls (nG.take st.length)<=gb b v u+cn b G'.ls nG:=λb=>by
   have:=GP b st.length G'.ls nG;simp only[aR.cut];omega
  refine⟨G'.cut st.length,hr.Ei (jf _ v hp),hI.Ei hl,?_⟩;exact⟨YF hM.kA (by rw[hI0.len];exact aaH _),λb hb=>acF (hc b) (hM.gb b hb),λb=>acF (hc b) (hM.one b),λb hb h0=>hM.wR b hb h0,hM.size,hM.os,hM.out⟩
 cases m with
 |SH=>
  simp only[Mode.nZ,Option.some.injEq,Prod.mk.injEq]at hf;obtain⟨rfl,rfl⟩:=hf;exact⟨G',hr,hI,hM⟩
 |pure=>
  simp only[Mode.nZ]at hf;split at hf;rename_i hp;cases hf;obtain⟨G2,c1,c2,c3⟩:=cut hp (acQ (.inl rfl));have:nG.take st.length=st:=by
   apply agy;intro i;rw[abZ];split;rename_i hi;exact hk.low i (by simpa [Mode.wK] using hi) hi;rename_i hi;rw[abV (by omega)]
  rw[this]at c2 c3;exact⟨G2,c1,c2,c3⟩;cases hf
 |oP=>
  simp only[Mode.nZ]at hf;split at hf;rename_i hp;cases hf;exact cut hp (acQ (.inr rfl));cases hf
theorem No(w:World)(G:aR)(k:Nat):mz w G (aaO k ⟨none,[]⟩) (aaO k []) where
 len:=by simp
 box:=λj row g h1 h2=>by
  rw[List.getElem?_replicate]at h1 h2;split at h1;rename_i hj;rw[if_pos hj]at h2;cases h1;cases h2;exact⟨⟨rfl,λi c v h=>by simp at h⟩,rfl,.inl ⟨rfl,rfl⟩⟩;cases h1
theorem EB(b:Nat):∀k,gO b (aaO k ⟨none,[]⟩) (aaO k [])=0
 |0=>by simp[gO]|k+1=>by simp[List.replicate_succ,gO,EB b k,bZ]
theorem Ay(hT:KX S P)(hO:kh S P O)(hL:x9 S P O)(hP:Cf S O)(hK:se O){f:Nat}{sf:aA}(hf:S f=some sf){args:List AV}{st bG:ag}{v:AV}(hc:dD O wl aa sf args st=some (v,bG)) :
  QT P sf.eJ/\(f<100000->sf.eJ=f)/\
  ∀(w:World) (G:aR) (vs:List Value),cy w G args vs->kC w G st->(∀b,bZ b args vs+cn b G.ls st<=1)->
   Calls P sf.eJ vs.toArray w λe w'=>∃u G',e=.returned u/\aY w' G' v u/\kC w' G' bG/\
    Mv w G (λb=>bZ b args vs+cn b G.ls st) w' G' (λb=>gb b v u+cn b G'.ls bG):=by
 obtain⟨hm,al7⟩:=hT f sf hf;unfold O7 at hm;split at hm;rename_i fn Ub;split at hm;rename_i code abr;simp only[Ar,acg,decide_eq_true_eq]at hm;obtain⟨⟨⟨⟨⟨ahB,uy⟩,Q1⟩,hnt⟩,XU⟩,hnp⟩:=hm;refine⟨⟨fn,Ub,ahB,by rw[abr];rfl⟩,al7,λw G vs hR hI h1=>?_⟩;unfold dD at hc;split at hc;rename_i hlen;split at hc;rename_i x s ahC;split at hc;rename_i v1 Gg;refine calls_of_wp Ub abr ?_;have YD:vs.length=args.length:=hR.1.symm;have fM:(vs.toArray++agT (fn.ntmps-vs.toArray.size) undef).size=fn.ntmps:=by
  simp only[Array.size_append,List.size_toArray,ai3];omega
 let a0:Act:={ tmps:=vs.toArray++agT (fn.ntmps-vs.toArray.size) undef,defers:=[] }
 have ahD:∀t u,vs[t]?=some u->l5 a0 t=u:=λt u hu=>by
  have aQ:=(aab.1 hu).1;have:a0.tmps[t]?=some u:=by
   show (vs.toArray++agT (fn.ntmps-vs.toArray.size) undef)[t]?=some u;rw[Array.getElem?_append];simp[aQ,(aab.1 hu).2]
  simp[l5,this]
 have hη:∀t,cR (qM sf args st).env t=if t∈sf.dj then .none else (match args[t]? with|some v=>.val v|none=>.none):=λt=>by
  simp only[qM,u7,GM,Nat.zero_le,if_true,Nat.sub_zero]
  rfl
 have hFT:FT w G (aaO sf.aG ⟨none,[]⟩) a0 (qM sf args st) fn.ntmps:=by
  refine⟨rfl,by show fn.ntmps<=(vs.toArray++agT (fn.ntmps-vs.toArray.size) undef).size;omega,λt=>?_,λt ht=>?_,hI,No w G sf.aG⟩;rw[hη];split
  trivial
  split;rename_i v0 hv0;have aQ:t<vs.length:=by rw[YD];exact(aab.1 hv0).1
  have hu:=aao aQ;rw[ahD t _ hu];exact hR.2 t v0 _ hv0 hu
  trivial
  rw[hη,abV (by omega)];simp
 have acR:∀b,gZ (aaO sf.aG ⟨none,[]⟩) a0 (qM sf args st) G fn.ntmps b<=bZ b args vs+cn b G.ls st:=λb=>by
  have e1:=KY (w:=w) (G:=G) b args vs 0 fn.ntmps YD.symm (by omega);have e2:gP (λt=>cF b (cR (qM sf args st).env t) (l5 a0 t)) fn.ntmps<=gP (l6 b args vs 0) fn.ntmps:=Dh λt _=>by
   rw[hη];simp only[l6,Nat.zero_le,if_true,Nat.sub_zero];split;simp[cF];cases hv0:args[t]? with
   |none=>simp[cF]|some v0=>
    have aQ:t<vs.length:=(by rw[YD];exact(aab.1 hv0).1);have hu:=aao aQ;rw[ahD t _ hu,hu];exact aaH _
  have e3:=EB b sf.aG;unfold gZ wh;show gP (λt=>cF b (cR (qM sf args st).env t) (l5 a0 t)) fn.ntmps+gO b (aaO sf.aG ⟨none,[]⟩) (aaO sf.aG [])+cn b G.ls st<=_;omega
 have h0:∀b,gZ (aaO sf.aG ⟨none,[]⟩) a0 (qM sf args st) G fn.ntmps b<=1:=λb=>acF (acR b) (h1 b);refine tR hO hL hP sf.body code _ s x w G _ a0 _ uy hFT h0 ahC λw' G' gR a' hp=>?_;obtain⟨sr,g1,g2,g3⟩:=hp;have ahE:dx (sf.mode.wK st.length wl) (sf.mode.qc st.length aa) st s.st:=kg hK ahC;have nZ:yI sr sf.results=some v1->s.st=sr.st->a'.defers=[]/\∃u,(results fn a'.tmps).run P w'=.ok u w'/\∃u' G',(Ending.returned u)=.returned u'/\aY w' G' v u'/\kC w' G' bG/\
   Mv w G (λb=>bZ b args vs+cn b G.ls st) w' G' (λb=>gb b v u'+cn b G'.ls bG):=by
  intro hrv iO;obtain⟨u,r1,r2,r3⟩:=YX g1 Q1 hnt XU hrv;have hMv:Mv w G (λb=>bZ b args vs+cn b G.ls st) w' G' (λb=>gb b v1 u+cn b G'.ls s.st):=by
   rw[iO];have g3:=g2.T7 r3;exact g3.TF acR (λb hb=>acF (g3.gb b hb) (acR b)) g3.one
  have al9:kC w' G' s.st:=by rw[iO];exact g1.inv
  obtain⟨G2,c1,c2,c3⟩:=IG hI ahE hc r2 al9 hMv;exact⟨g1.KF,u,r1,u,G2,rfl,c1,c2,c3⟩
 cases x with
 |normal=>
  simp only at g3;subst g3;exact nZ Gg rfl
 |exit id=>cases Gg|ret v2=>
  cases Gg;exact nZ g3.1 g3.2
 cases hc;cases hc;cases hc;cases hm;cases hm
theorem EC{sf:aA}{args:List AV}{st bG:ag}{v:AV}(h:dD O wl aa sf args st=some (v,bG))(hm:sf.mode=.pure):v.ay=true/\bG=st:=by
 unfold dD at h;split at h;split at h;split at h;rw[hm]at h;simp only[Mode.nZ]at h;split at h;rename_i hp;cases h;exact⟨hp,rfl⟩;cases h;cases h;cases h;cases h
theorem II(hT:KX S P)(hO:kh S P O)(hL:x9 S P O)(hP:Cf S O)(hK:se O){f:Nat}{sf:aA}(hf:S f=some sf){args:List AV}{st bG:ag}{v:AV}(hc:eF O wl aa sf args st=some (v,bG)) :
  QT P sf.eJ/\(f<100000->sf.eJ=f)/\
  ∀(w:World) (G:aR) (vs:List Value),cy w G args vs->kC w G st->(∀b,bZ b args vs+cn b G.ls st<=1)->
   Calls P sf.eJ vs.toArray w λe w'=>∃u G',e=.returned u/\aY w' G' v u/\kC w' G' bG/\
    Mv w G (λb=>bZ b args vs+cn b G.ls st) w' G' (λb=>gb b v u+cn b G'.ls bG):=by
 unfold eF at hc;split at hc;rename_i Mu;simp only[wg,Ar,decide_eq_true_eq]at Mu;obtain⟨hm,hpa⟩:=Mu;simp only[Option.map_eq_some_iff]at hc;obtain⟨⟨v0,st0⟩,OM,hx⟩:=hc;cases hx;obtain⟨Ku,rfl⟩:=EC OM hm;obtain⟨h1,h2,h3⟩:=Ay hT hO hL hP hK hf OM;refine⟨h1,h2,λw G vs hR hI mw=>?_⟩;have acS:∀(i:Nat) c,args[i]?=some c->c.under 0=true:=λi c hc=>jf 0 c ((gz args).1 hpa c (de hc));have hI0:kC w (G.cut 0) []:=by
  have:=hI.Ei (n:=0) λid ob h=>by omega
  simpa using this
 have YY:∀b,cn b (G.cut 0).ls []=0:=λb=>by simp[cn]
 refine(h3 w (G.cut 0) vs ⟨hR.1,λi c v e1 e2=>(hR.2 i c v e1 e2).Ei (acS i c e1)⟩ hI0 λb=>by rw[YY b];have:=mw b;omega).mono λe w' he=>?_;obtain⟨u,G',rfl,r1,r2,r3⟩:=he;have tP:∀b,cn b G'.ls []=0:=λb=>by simp[cn]
 have hS:tM w G w' ⟨G.ls,G'.nH⟩:=⟨λb o hi=>r3.kA.Tb b o hi,λid bh hl=>⟨bh,hl,aaH _,λ_=>rfl⟩⟩;have EA:∀b,b<w.heap.size->bZ b args vs=0->eC w G w' ⟨G.ls,G'.nH⟩ b:=λb hb h0=>by
  have:=r3.wR b hb (by rw[h0,YY b]);exact this
 have hIs:kC w' ⟨G.ls,G'.nH⟩ st:=wW hI hS rfl (λb hb=>EA b (hI.held hb) (by have:=mw b;omega)) r2.oR;have fG:aY w' ⟨G.ls,G'.nH⟩ v0 u:=by
  have h0:=r1.Ei (n:=0) (jf 0 v0 Ku);exact h0.kA ⟨λb o hi=>⟨rfl,hi⟩,λid bh hl=>by simp[aR.cut]at hl⟩ λb _=>⟨rfl,rfl⟩
 refine⟨u,⟨G.ls,G'.nH⟩,rfl,fG,hIs,hS,λb hb=>?_,λb=>?_,λb hb h0=>EA b hb (by omega),r3.size,r3.os,r3.out⟩;have:=r3.gb b hb;rw[tP b,YY b]at this;show gb b v0 u+cn b G.ls st<=_;omega;have h4:=r3.one b;rw[tP b]at h4;show gb b v0 u+cn b G.ls st<=1;by_cases hb:b<w.heap.size;have h5:=r3.gb b hb;rw[tP b,YY b]at h5;have:=mw b;omega;have:cn b G.ls st=0:=by
  rcases agh (cn b G.ls st) with h|h;exact h;exact absurd (hI.held h) hb
 omega;exact Ay hT hO hL hP hK hf hc
theorem G6(hT:KX S P):∀n,kh S P (qv S n)/\x9 S P (qv S n)
 |0=>⟨λwl aa f args st v bG h=>by simp[qv]at h,λwl aa rs c s x s' h=>by simp[qv]at h⟩
 |n+1=>by
  obtain⟨i1,i2⟩:=G6 hT n;refine⟨λwl aa f args st v bG h=>?_,λwl aa rs c s x s' h code m hm w G β a hs h1 Q hQ=>?_⟩;simp only[qv]at h;split at h;rename_i sf hsf;exact⟨sf,hsf,II hT i1 i2 (KM S n) (GQ S n) hsf h⟩;cases h;simp only[qv]at h;refine KS ?_;cases hc:iN (qv S n) wl aa rs c s with
  |none=>rw[hc]at h;cases h|some y=>
   obtain⟨x1,s1⟩:=y;rw[hc]at h;refine tR i1 i2 (KM S n) c code s s1 x1 w G β a _ hm hs h1 hc λw' G' gR a' hp=>?_;cases x1 with
   |normal=>
    obtain⟨sr,g1,g2,g3⟩:=hp;simp only at g3;subst g3;exact i2 wl aa rs c s1 x s' h code m hm w' G' gR a' g1 g2.one Q λw2 G2 TM a2 wG=>hQ w2 G2 TM a2 (wG.trans g2)
   |exit id=>cases h;exact hQ w' G' gR a' hp|ret v=>cases h;exact hQ w' G' gR a' hp
end Ax
namespace Ax
open Go
variable {P:Program}{w w':World}{G G':aR}
def Dm(P:Program)(ts:List TypeId):Bool:=ts.all λt=>decide (t<P.types.size)&&match P.underlying t with
 |some .bool|some (.int _)|some .string=>true|some (.slice e)=>ts.contains e&&decide (0<P.cellsOf e)|some (.struct fs)=>fs.toList.all λf=>ts.contains f.type|_=>false
mutual
inductive Ty (P:Program):TypeId->List AV->Prop
 |bool {t:TypeId} (h:P.underlying t=some .bool) (b:Bool):Ty P t [.bool b]
 |int {t:TypeId} {k:IntKind} (h:P.underlying t=some (.int k)) (n:Int) (h1:k.min<=n) (h2:n<=k.max):Ty P t [.int k n]
 |str {t:TypeId} (h:P.underlying t=some .string) (l:List UInt8) (hn:l.length<=maxLen):Ty P t [.str l]
 |U {t e:TypeId} (h:P.underlying t=some (.slice e)):Ty P t [.U]
 |mV {t e:TypeId} (h:P.underlying t=some (.slice e)):Ty P t [.mV]
 |dh {t e:TypeId} (h:P.underlying t=some (.slice e)) (rows:List (List AV)) (hn:rows.length<=maxLen) (hl:∀r∈rows,r.length=P.cellsOf e) (h2:∀r∈rows,Ty P e r):Ty P t [.dh (P.cellsOf e) rows]
 |ahF {t:TypeId} {fs:Array Field} (h:P.underlying t=some (.struct fs)) (as:List AV) (h2:Uc P fs.toList as):Ty P t as
inductive Uc (P:Program):List Field->List AV->Prop
 |nil:Uc P [] []
 |cons {f:Field} {fs:List Field} {as bs:List AV} (hl:as.length=P.cellsOf f.type) (h1:Ty P f.type as) (h2:Uc P fs bs):Uc P (f::fs) (as++bs)
end
abbrev G0:aR:=⟨[],λ_=>none⟩
def zb(as:List AV):Prop:=AV.eM as=true/\AV.au as=true/\AV.aS as=true
theorem rJ{a:AV}(h1:a.cM=true)(h2:a.ay=true)(h3:a.cx=true):zb [a]:=by
 refine⟨?_,?_,?_⟩<;>simp[AV.eM,AV.au,AV.aS,h1,h2,h3]
theorem IJ{as bs:List AV}(h:zb as)(k:zb bs):zb (as++bs):=by
 obtain⟨h1,h2,h3⟩:=h;obtain⟨k1,k2,k3⟩:=k;refine⟨(cW _).2 λc hc=>?_,(gz _).2 λc hc=>?_,?_⟩;rcases abI.1 hc with h|h;exact(cW _).1 h1 c h;exact(cW _).1 k1 c h;rcases abI.1 hc with h|h;exact(gz _).1 h2 c h;exact(gz _).1 k2 c h;simp only[AV.aS,List.all_append,Ar]at *;exact⟨h3,k3⟩
theorem uz{a:AV}{v:Value}(h:aY w G a v):cy w G [a] [v]:=⟨rfl,λi c u h1 h2=>by
 cases i with
 |zero=>simp at h1 h2;subst h1;subst h2;exact h|succ i=>simp at h1⟩
theorem YZ{b o:Nat}(h:b<w.heap.size):Imm w G0 b o:=⟨h,λp hp=>by cases hp⟩
section
variable {H:Type}{enc:TypeId×Value->H}{ts:List TypeId}
theorem G7{cs:List Value}:∀(fs:List Field)(o:Nat),(∀(j:Nat) f,fs[j]?=some f->f.offset=o+((fs.take j).map λf=>P.cellsOf f.type).sum)->cs.length=o+(fs.map λf=>P.cellsOf f.type).sum->
  (∀f∈fs,∃as,cy w G0 as ((cs.drop f.offset).take (P.cellsOf f.type))/\Ty P f.type as/\zb as)->∃as,cy w G0 as (cs.drop o)/\Uc P fs as/\zb as
 |[],o,_,hl,_=>by
  simp at hl;have:cs.drop o=[]:=List.drop_eq_nil_of_le (by omega);rw[this];exact⟨[],⟨rfl,λi c v h=>by simp at h⟩,.nil,rfl,rfl,rfl⟩
 |f::fs,o,ho,hl,hf=>by
  have e0:f.offset=o:=by have:=ho 0 f rfl;simpa using this
  simp only[abh,ahl]at hl;obtain⟨bs,h1,h2,h3⟩:=G7 fs (o+P.cellsOf f.type) (λj g hg=>by
   have:=ho (j+1) g (by simpa using hg);simp only[List.take_succ_cons,abh,ahl]at this;omega) (by omega) (λg hg=>hf g (by simp[hg]))
  obtain⟨as,k1,k2,k3⟩:=hf f (by simp);rw[e0]at k1;have hlen:as.length=P.cellsOf f.type:=by
   rw[k1.1,List.length_take,List.length_drop];omega
  refine⟨as++bs,?_,.cons hlen k2 h2,IJ k3 h3⟩;have:cs.drop o=(cs.drop o).take (P.cellsOf f.type)++cs.drop (o+P.cellsOf f.type):=by
   rw[<-List.drop_drop,List.take_append_drop]
  rw[this];exact cy.append k1 h1
theorem Y0(hK:Kids P (· < P.types.size))(hp:Dm P ts=true):∀(n:Nat)(t:TypeId)(cs:List Value)(x:DataW H×List MemPlace),t∈ts->DataW.trod enc P w 0 (λ_=>true) true n t cs=some x->
  ∃as,cy w G0 as cs/\Ty P t as/\zb as:=by
 intro n;induction n with
 |zero=>intro t cs x _ h;simp[DataW.trod]at h|succ n ih=>
  intro t cs x ht h;have Np:=aaS.1 hp t ht;simp only[Ar,decide_eq_true_eq]at Np;obtain⟨aQ,Np⟩:=Np;split at Np;rename_i hu;obtain⟨b,rfl,rfl⟩:=DataW.trod_bool hu h;exact⟨[.bool b],uz (.bool b),.bool hu b,rJ rfl rfl rfl⟩;rename_i k hu;obtain⟨m,rfl,rfl,hw⟩:=DataW.trod_int hu h;simp only[Lit.wf,Ar,decide_eq_true_eq]at hw;exact⟨[.int k m],uz (.int k m),.int hu m hw.1 hw.2,rJ rfl rfl rfl⟩;rename_i hu;obtain⟨s,rfl,rfl,jB⟩:=DataW.trod_string hu h;exact⟨[.str s.data.toList],uz (.str _ s rfl),.str hu _ (by simpa using jB),rJ rfl rfl rfl⟩;rename_i e hu;simp only[Ar,afz,decide_eq_true_eq]at Np;obtain⟨he,fM⟩:=Np;rcases DataW.trod_slice hu h with⟨rfl,rfl⟩|⟨a,len,cap,elems,rest,m,hm,rfl,rfl,_,hlc,oU,hel,ahH,TB,_⟩;exact⟨[.U],uz .U,.U hu,rJ rfl rfl rfl⟩;cases hm;by_cases gT:cap=0;subst gT;have:len=0:=by omega
  subst this;exact⟨[.mV],uz (.mV a),.mV hu,rJ rfl rfl rfl⟩;have ff:∀i,i<cap->∃KZ y,w.cells? 0 (a.add (i*P.cellsOf e)) (P.cellsOf e)=some KZ/\DataW.trod enc P w 0 (λ_=>true) true n e KZ=some y:=by
   intro i hi;by_cases Q2:i<len;have h1:=ahH i Q2;have h2:∃y,elems[i]?=some y:=⟨_,aao (by omega)⟩;obtain⟨y,hy⟩:=h2;rw[hy,aap]at h1;obtain⟨KZ,e1,e2⟩:=h1;exact⟨KZ,y,e1,e2⟩;obtain⟨qQ,hr⟩:=TB rfl;have h1:=hr (i-len) (by omega);rw[show len+(i-len)=i by omega]at h1;have h2:∃y,rest[i-len]?=some y:=⟨_,aao (by omega)⟩;obtain⟨y,hy⟩:=h2;rw[hy,aap]at h1;obtain⟨KZ,e1,e2⟩:=h1;exact⟨KZ,y,e1,e2⟩
  have abu:a.spot=none:=by
   obtain⟨KZ,y,e1,_⟩:=ff 0 (by omega);obtain⟨_,g2,g3⟩:=World.cells?_some e1;have h0:=g3 0 fM;have:∃v,KZ[0]?=some v:=⟨_,aao (by omega)⟩;obtain⟨v,hv⟩:=this;rw[hv]at h0;have:=World.cell?_spot h0;simpa [Addr.add] using this
  obtain⟨j7,off,spot⟩:=a;simp only at abu;subst abu;have QE:∀off k,Addr.add ⟨j7,off,none⟩ k=⟨j7,off+k,none⟩:=λoff k=>by
   unfold Addr.add;split;rename_i h0;subst h0;rfl
   rfl
  have K0:∀i,i<len->∃r,(r.length=P.cellsOf e/\Ty P e r/\zb r)/\∀(j:Nat) c,r[j]?=some c->∃v,w.cell? ⟨j7,off+(i*P.cellsOf e+j),none⟩=some v/\aY w G0 c v:=by
   intro i hi;obtain⟨KZ,y,e1,e2⟩:=ff i (by omega);obtain⟨_,g2,g3⟩:=World.cells?_some e1;obtain⟨r,r1,r2,r3⟩:=ih e KZ y he e2;have qQ:r.length=P.cellsOf e:=(by rw[r1.1,g2]);refine⟨r,⟨qQ,r2,r3⟩,λj c hc=>?_⟩;have hj:j<P.cellsOf e:=(by rw[<-qQ];exact(aab.1 hc).1);have h0:=g3 j hj;have hv:∃v,KZ[j]?=some v:=⟨_,aao (by omega)⟩;obtain⟨v,hv⟩:=hv;rw[hv,QE,QE]at h0;refine⟨v,by rw[<-h0];congr 2;omega,r1.2 j c v hc hv⟩
  have key:∀m,m<=len->∃rows:List (List AV),rows.length=m/\∀(i:Nat) r,rows[i]?=some r->(r.length=P.cellsOf e/\Ty P e r/\zb r)/\∀(j:Nat) c,r[j]?=some c->∃v,w.cell? ⟨j7,off+(i*P.cellsOf e+j),none⟩=some v/\aY w G0 c v:=by
   intro m;induction m with
   |zero=>intro _;exact⟨[],rfl,λi r h=>by simp at h⟩|succ m ihm=>
    intro hm;obtain⟨rows,l1,l2⟩:=ihm (by omega);obtain⟨r,hr⟩:=K0 m (by omega);refine⟨rows++[r],by simp[l1],λi r' hi=>?_⟩;by_cases him:i<m;rw[aaE (by omega)]at hi;exact l2 i r' hi;rw[List.getElem?_append_right (by omega)]at hi;have:i-rows.length=0:=by
     rcases agh (i-rows.length) with h|h;exact h;rw[abV (by simp;omega)]at hi;cases hi
    rw[this]at hi;simp at hi;subst hi;have:i=m:=by omega
    subst this;exact hr
  obtain⟨rows,l1,l2⟩:=key len (aaH _);have F7:∀r∈rows,r.length=P.cellsOf e/\Ty P e r/\zb r:=λr hr=>by
   obtain⟨i,hi,rfl⟩:=abe.1 hr;exact(l2 i _ (aao hi)).1
  have fG:aY w G0 (.dh (P.cellsOf e) rows) (.slice (some ⟨j7,off,none⟩) rows.length cap):=by
   refine .dh (P.cellsOf e) rows ⟨j7,off,none⟩ cap rfl (by omega) ?_ (λr hr=>(F7 r hr).2.2.1) (λr hr=>(F7 r hr).2.2.2.1) (λr hr=>(F7 r hr).2.2.2.2) (λi r j c h1 h2=>?_) (λi r j c v h1 h2 h3=>?_);simp only[bw,aaS,beq_iff_eq];exact λr hr=>(F7 r hr).1;obtain⟨v,e1,_⟩:=(l2 i r h1).2 j c h2;exact⟨YZ (World.block_lt_of_cell? w ⟨j7,off+(i*P.cellsOf e+j),none⟩ e1:j7<w.heap.size),v,e1⟩;obtain⟨v',e1,e2⟩:=(l2 i r h1).2 j c h2;rw[e1]at h3;cases h3;exact e2
  rw[l1]at fG;exact⟨[.dh (P.cellsOf e) rows],uz fG,(.dh hu rows (by omega) (λr hr=>(F7 r hr).1) (λr hr=>(F7 r hr).2.1)),rJ rfl rfl rfl⟩;rename_i fs hu;simp only[aaS,afz,decide_eq_true_eq]at Np;obtain⟨xs,m,hm,rfl,hl,hlen,hf⟩:=DataW.trod_struct hu h;cases hm;obtain⟨_,k2,k3⟩:=hK.struct aQ hu;obtain⟨as,h1,h2,h3⟩:=G7 (P:=P) (w:=w) (cs:=cs) fs.toList 0 (λj f hf=>by rw[k3 j f hf];omega) (by rw[hl,k2];omega) λf hfm=>by
   obtain⟨i,hi,rfl⟩:=abe.1 hfm;have hg:fs.toList[i]?=some fs.toList[i]:=aao hi;have h1:=hf i fs.toList[i] (by simp);have hy:∃y,xs[i]?=some y:=⟨_,aao (by rw[hlen];simpa using hi)⟩;obtain⟨y,hy⟩:=hy;rw[hy]at h1;exact ih _ _ y (Np _ hfm) h1
  exact⟨as,by simpa using h1,.ahF hu as h2,h3⟩;cases Np
def TyV(P:Program)(t:TypeId)(a:AV):Prop:=(∃fs as,P.underlying t=some (.struct fs)/\a=.agg as/\Ty P t as)\/((∀fs,P.underlying t≠some (.struct fs))/\Ty P t [a])
def Y1(P:Program):List TypeId->List AV->Prop
 |[],[]=>True|t::ts,a::as=>TyV P t a/\Y1 P ts as|_,_=>False
theorem Ud(hK:Kids P (· < P.types.size))(hp:Dm P ts=true){r:Reach}{base:Nat}{t:TypeId}{v:Value}{d:DataW H}{ps:List MemPlace}(ht:t∈ts)(qR:Value.okWide P w r base t v)
  (h:DataW.Trod enc P w 0 (λ_=>true) true t v d ps):∃a,aY w G0 a v/\TyV P t a/\a.cM=true:=by
 obtain⟨n,hn⟩:=h;obtain⟨as,h1,h2,h3⟩:=Y0 hK hp n t _ _ ht hn;have one:v.cells = #[v]->(∀fs,P.underlying t≠some (.struct fs))->∃a,aY w G0 a v/\TyV P t a/\a.cM=true:=by
  intro hc hs;rw[hc]at h1;obtain⟨e1,e2⟩:=h1;match as,e1,e2,h2,h3 with
  |[a],_,e2,h2,h3=>exact⟨a,e2 0 a v rfl rfl,.inr ⟨hs,h2⟩,by have:=h3.1;simpa [AV.eM] using this⟩
 have Np:=aaS.1 hp t ht;simp only[Ar,decide_eq_true_eq]at Np;obtain⟨_,Np⟩:=Np;split at Np;rename_i hu;obtain⟨b,rfl⟩:=WideShapes.okWide_bool hu qR;exact one rfl λfs h=>by rw[hu]at h;cases h
 rename_i k hu;obtain⟨b,rfl⟩:=WideShapes.okWide_int hu qR;exact one rfl λfs h=>by rw[hu]at h;cases h
 rename_i hu;obtain⟨b,rfl⟩:=WideShapes.okWide_string hu qR;exact one rfl λfs h=>by rw[hu]at h;cases h
 rename_i e hu;obtain⟨a,l,c,rfl⟩:=WideShapes.okWide_slice hu qR;exact one rfl λfs h=>by rw[hu]at h;cases h
 rename_i fs hu;obtain⟨cs,rfl,_⟩:=WideShapes.okWide_struct hu qR;refine⟨.agg as,.agg as cs (by simpa [Value.cells] using h1.1) λi c v e1 e2=>h1.2 i c v e1 (by simpa [Value.cells] using e2),.inl ⟨fs,as,hu,rfl,h2⟩,?_⟩;simp only[AV.cM];exact h3.1;cases Np
theorem G8(hK:Kids P (· < P.types.size))(hp:Dm P ts=true){r:Reach}{base:Nat}:∀{us:List TypeId}{vs:List Value}{ds:List (DataW H)}{ps:List MemPlace},(∀t∈us,t∈ts)->
  (∀(j:Nat) t v,us[j]?=some t->vs[j]?=some v->Value.okWide P w r base t v)->DataW.TrodAll enc P w 0 (λ_=>true) true us vs ds ps->∃as,cy w G0 as vs/\Y1 P us as/\AV.eM as=true
 |[],[],[],_,_,_,_=>⟨[],⟨rfl,λi c v h=>by simp at h⟩,trivial,rfl⟩
 |t::us,v::vs,d::ds,ps,hu,hv,h=>by
  obtain⟨p,q,h1,h2,rfl⟩:=h;obtain⟨a,a1,a2,a3⟩:=Ud hK hp (hu t (by simp)) (hv 0 t v rfl rfl) h1;obtain⟨as,b1,b2,b3⟩:=G8 hK hp (λt ht=>hu t (by simp[ht])) (λj t v e1 e2=>hv (j+1) t v (by simpa using e1) (by simpa using e2)) h2;exact⟨a::as,cy.cons a1 b1,⟨a2,b2⟩,by simp[AV.eM,a3,b3]⟩
 |[],_::_,_,_,_,_,h=>h.elim|[],[],_::_,_,_,_,h=>h.elim|_::_,[],_,_,_,_,h=>h.elim|_::_,_::_,[],_,_,_,h=>h.elim
theorem zd(hK:Kids P (· < P.types.size))(hz:∀t e,t<P.types.size->P.underlying t=some (.slice e)->0<P.cellsOf e){sp:Nat->Bool}(Ue:∀b,b<w.heap.size->w'.heap[b]?=w.heap[b]?):∀{us:List TypeId}{vs:List Value}{ds:List (DataW H)}{ps:List MemPlace},(∀t∈us,t<P.types.size)->
  DataW.TrodAll enc P w 0 (λ_=>true) true us vs ds ps->(∀p∈ps,sp p.block=true)->DataW.TrodAll enc P w' 0 sp true us vs ds ps
 |[],[],[],_,_,h,_=>h|t::us,v::vs,d::ds,ps,hu,h,hs=>by
  obtain⟨p,q,⟨n,h1⟩,h2,rfl⟩:=h;refine⟨p,q,⟨n,DataW.trod_stays hK (fun {t e}=>hz t e) (λh=>by cases h) (hu t (by simp)) h1 (λx hx=>?_) λx hx=>hs x (by simp[hx])⟩,zd hK hz Ue (λt ht=>hu t (by simp[ht])) h2 (λx hx=>hs x (by simp[hx])),rfl⟩;have aQ:=DataW.trod_lt n t _ _ h1 x hx;cases x with
  |cell b off=>simp only[World.sameAt,World.cell?,Ue b aQ]|map b=>exact Ue b aQ
 |[],_::_,_,_,_,h,_=>h.elim|[],[],_::_,_,_,h,_=>h.elim|_::_,[],_,_,_,h,_=>h.elim|_::_,_::_,[],_,_,h,_=>h.elim
theorem Uf(w:World):kC w G0 []:=⟨rfl,λid ob bh h=>by simp at h,λb p h=>by cases h⟩
theorem IK{may:MemPlace->Prop}(h1:w'.os=w.os)(h2:w'.output=w.output)(h3:∀b,b<w.heap.size->w'.heap[b]?=w.heap[b]?):w.keptBut w' may:=by
 refine⟨h1,h2,λi hi=>?_⟩;rw[h3 i hi];have:=Array.getElem?_eq_getElem hi;rw[this];cases w.heap[i] with
 |cells c t fr=>exact⟨rfl,rfl,rfl,λ_ _=>rfl⟩|map es clock=>exact .inr ⟨rfl,rfl⟩|_=>rfl
theorem K1(_hsz:w.heap.size<=w'.heap.size)(h3:∀b,b<w.heap.size->w'.heap[b]?=w.heap[b]?)(a:Addr)(ha:a.block<w.heap.size):w'.frozen? a=w.frozen? a:=by
 simp only[World.frozen?,h3 a.block ha]
end
end Ax
namespace Ax
open Go Go.ChangeShapes
variable {P:Program}{w w':World}{G G':aR}{H:Type}{enc:TypeId×Value->H}
theorem Ug{f:Func}{s:ChangeSpec}{lJ fresh handsOn wj:Bool}{W W':World}{args:Array Value}{ds gs:List (DataW H)}{before:List MemPlace}{tb:TypeId}
  (hK:Kids P (· < P.types.size))(hz:∀t e,t<P.types.size->P.underlying t=some (.slice e)->0<P.cellsOf e)(acT:∀t∈f.params.toList,t<P.types.size)
  (hW:DataW.Whole enc P f.params.toList s.vars lJ W args.toList ds gs before) (hv:s.vars=[]) (CS:f.resultTypes = #[tb]) (htb:P.underlying tb=some .bool)
  (hr:(s.fn H ds).results=[.lit (.bool true)]) (ha:(s.fn H ds).args=ds) (DP:(s.fn H ds).vars=[])
  (h1:W'.os=W.os) (h2:W'.output=W.output) (h4:W.heap.size<=W'.heap.size) (h3:∀b,b<W.heap.size->W'.heap[b]?=W.heap[b]?) :
  s.post enc P f lJ fresh handsOn wj W args (.bool true) W':=by
 have hW':=hW;obtain⟨p,q,hA,hV,rfl,CJ,hn⟩:=hW';rw[hv]at hV;cases gs with
 |cons _ _=>exact hV.elim|nil=>
  have hq:q=[]:=hV;subst hq;simp only[abO]at hW CJ hn;have iO:∀sp:Nat->Bool,(∀x∈p,sp x.block=true)->DataW.TrodAll enc P W' 0 sp true f.params.toList args.toList ds p:=λsp n6=>zd hK hz h3 acT hA n6;have Y2:∀x∈p,x.block<W.heap.size:=DataW.TrodAll.lt hA;have hold:∀x∈p,(λb=>decide (b<W.heap.size)) x.block=true:=λx hx=>by simpa using Y2 x hx
  have qQ:(Value.bool true).resultList f.resultTypes.size=[.bool true]:=by rw[CS];rfl
  have Q1:∀(b:Nat) (sp:Nat->Bool) (hd:Bool),DataW.TrodAll enc P W' b sp hd f.resultTypes.toList ((Value.bool true).resultList f.resultTypes.size) (s.fn H (ds++[])).results []:=λb sp hd=>by
   rw[abO,hr,qQ,CS];exact⟨[],[],⟨1,by simp[DataW.trod,htb,Value.cells]⟩,rfl,rfl⟩
  refine⟨ds,[],p,[],p,[],hW,Q1 _ _ _,by rw[abO,ha];exact iO _ hold,by rw[hv,abO,DP];rfl,IK h1 h2 h3,λ_=>?_⟩;refine⟨λj t r e1 e2=>?_,[DataW.lit (.bool true)]++ds,[],p,⟨p,[],?_,(by rw[hv];exact(rfl:DataW.TrodVars enc P W' (λ_=>true) [] [] [])),by simp,?_,?_⟩,?_⟩;rw[CS]at e1;rw[qQ]at e2;cases j with
  |zero=>
   simp at e1 e2;subst e1;subst e2;exact RowKit.okWide_bool_mk htb true
  |succ j=>simp at e1
  have:=trodAll_append (iO _ (λ_ _=>rfl)) (Q1 0 (λ_=>true) true);simpa [hr] using this;intro b off hp;rw[K1 h4 h3 _ (Y2 _ hp)];exact CJ b off hp;exact hn;intro x hx _;exact hx
theorem Nq{S:Nat->Option aA}(hT:KX S P):kh S P (aP S):=λwl aa f args st v bG h=>by
 obtain⟨n,hn⟩:=(ug S).call _ _ _ _ _ _ h;exact(G6 hT n).1 wl aa f args st v bG hn
theorem Q3{S:Nat->Option aA}(hT:KX S P){f:FuncId}(hf:f<100000){as:List AV}{bG:ag}(hc:(aP S).call 0 0 f as []=some (.bool true,bG)){W:World}{args:Array Value}(hR:cy W G0 as args.toList)(iu:AV.eM as=true) :
  Calls P f args W λe W'=>e=.returned (.bool true)/\W'.os=W.os/\W'.output=W.output/\W.heap.size<=W'.heap.size/\∀b,b<W.heap.size->W'.heap[b]?=W.heap[b]?:=by
 obtain⟨sf,h1,h2,h3,h4⟩:=Nq hT _ _ _ _ _ _ _ hc;have hz:∀b,bZ b as args.toList+cn b G0.ls []=0:=λb=>by rw[ee b _ _ iu];simp[cn]
 have:=h4 W G0 args.toList hR (Uf W) (λb=>by rw[hz b];omega);rw[h3 hf]at this;refine this.mono λe W' h=>?_;obtain⟨u,G',rfl,r1,r2,r3⟩:=h;refine⟨by rw[aY.lX r1],r3.os,r3.out,r3.size,λb hb=>(r3.wR b hb (hz b)).2⟩
structure ahI (S:Nat->Option aA)(C:Checked)(ts:List TypeId):Prop where
 jz:ownKnob C.prog.godebug=none
 tab:KX S C.prog
 aK:Kids C.prog (· < C.prog.types.size)
 amb:∀t e,t<C.prog.types.size->C.prog.underlying t=some (.slice e)->0<C.prog.cellsOf e
 plain:Dm C.prog ts=true
theorem law_lifted{S:Nat->Option aA}{C:Checked}{ts:List TypeId}(hh:ahI S C ts){os:Os}(started:os.Started){f:FuncId}{fn:Func}{s:ChangeSpec}{conds:List PathCond}{lJ fresh handsOn wj:Bool}{tb:TypeId}
  (acU:C.prog.inits.idxOf? f=none)(Ub:C.prog.funcs[f]?=some fn)(hf:f<100000)
  (witness:∃(w:World) (tape:Tape) (i:Input),w.os=os/\(w.forCall tape i).Shaped C.prog/\i.vars=[]/\Input.okWide C.prog (w.forCall tape i) .any w.heap.size f i/\
   s.pre6 enc C.prog fn conds lJ (w.forCall tape i).memory i.args/\({}:Assume).holds C.prog (lone (Frame.enter C.prog f i.args .normal) [] (w.forCall tape i)))
  (acT:(fn.params.toList.all λt=>ts.contains t&&decide (t<C.prog.types.size))=true) (hv:s.vars=[]) (CS:fn.resultTypes = #[tb]) (htb:C.prog.underlying tb=some .bool)
  (ahJ:∀ds:List (DataW H),ds.length=fn.params.toList.length->(s.fn H ds).results=[.lit (.bool true)]/\(s.fn H ds).args=ds/\(s.fn H ds).vars=[])
  (fJ:∀as,Y1 C.prog fn.params.toList as->∃bG,(aP S).call 0 0 f as []=some (.bool true,bG)) :
  ReturnsInHanded {} C os f .any (s.pre6 enc C.prog fn conds lJ) (s.post enc C.prog fn lJ fresh handsOn wj):=by
 refine returnsInHanded_of_change hh.jz started acU Ub witness ?_;intro W base args ds gs before qR hW _ _;have hp:∀t∈fn.params.toList,t∈ts/\t<C.prog.types.size:=λt ht=>by
  have:=aaS.1 acT t ht;simpa using this
 obtain⟨p,q,hA,hV,hb,_,_⟩:=id hW;obtain⟨as,a1,a2,a3⟩:=G8 hh.aK hh.plain (λt ht=>(hp t ht).1) (λj t v e1 e2=>qR j t v (by simpa using e1) (by simpa using e2)) hA;obtain⟨bG,hc⟩:=fJ as a2;have hlen:∀(us:List TypeId) (vs:List Value) (ds:List (DataW H)) (p:List MemPlace),DataW.TrodAll enc C.prog W 0 (λ_=>true) true us vs ds p->ds.length=us.length:=by
  intro us;induction us with
  |nil=>intro vs ds p h;cases vs with
   |nil=>cases ds with
    |nil=>rfl|cons _ _=>exact h.elim
   |cons _ _=>cases ds<;>exact h.elim
  |cons t us ih=>intro vs ds p h;cases vs with
   |nil=>cases ds<;>exact h.elim|cons v vs=>cases ds with
    |nil=>exact h.elim|cons d ds=>
     obtain⟨_,_,_,h2,_⟩:=h;simp[ih vs ds _ h2]
 obtain⟨s1,s2,s3⟩:=ahJ ds (hlen _ _ _ _ hA);refine(Q3 hh.tab hf hc a1 a3).mono λe W' h=>?_;obtain⟨rfl,h1,h2,h3,h4⟩:=h;exact⟨_,rfl,Ug hh.aK hh.amb (λt ht=>(hp t ht).2) hW hv CS htb s1 s2 s3 h1 h2 h3 h4⟩
end Ax
namespace Ax
open Go
def yc(S:Nat->Option aA)(P:Program):Nat->List (Option aA)->Bool
 |_,[]=>true|k,none::l=>yc S P (k+1) l|k,some sf::l=>O7 S P sf&&(decide (100000<=k)||sf.eJ==k)&&yc S P (k+1) l
theorem vo{S:Nat->Option aA}{P:Program}:∀{l:List (Option aA)}{k:Nat},yc S P k l=true->∀(i:Nat) sf,l[i]?=some (some sf)->O7 S P sf=true/\(k+i<100000->sf.eJ=k+i)
 |[],_,_,i,sf,h=>by simp at h|none::l,k,h,i,sf,hi=>by
  cases i with
  |zero=>simp at hi|succ i=>
   have:=vo (l:=l) (k:=k+1) h i sf (by simpa using hi);rw[show k+1+i=k+(i+1) by omega]at this;exact this
 |some s::l,k,h,i,sf,hi=>by
  simp only[yc,Ar,abP,decide_eq_true_eq,beq_iff_eq]at h;obtain⟨⟨h1,h2⟩,h3⟩:=h;cases i with
  |zero=>
   simp at hi;subst hi;exact⟨h1,λhk=>by omega⟩
  |succ i=>
   have:=vo (l:=l) (k:=k+1) h3 i sf (by simpa using hi);rw[show k+1+i=k+(i+1) by omega]at this;exact this
theorem Y3{Yf Ib:List (Option aA)}{P:Program}(h1:yc (Ta Yf Ib) P 0 Yf=true)(h2:yc (Ta Yf Ib) P 100000 Ib=true):KX (Ta Yf Ib) P:=by
 intro f sf hf;unfold Ta at hf;split at hf;cases hg:Yf[f]? with
 |none=>rw[hg]at hf;cases hf|some x=>
  rw[hg]at hf;simp only[aeR]at hf;subst hf;have:=vo h1 f sf hg;exact⟨this.1,λh=>by have:=this.2 (by omega);omega⟩
 rename_i aQ;cases hg:Ib[f-100000]? with
 |none=>rw[hg]at hf;cases hf|some x=>
  rw[hg]at hf;simp only[aeR]at hf;subst hf;have:=vo h2 (f-100000) sf hg;exact⟨this.1,λh=>absurd h aQ⟩
end Ax
