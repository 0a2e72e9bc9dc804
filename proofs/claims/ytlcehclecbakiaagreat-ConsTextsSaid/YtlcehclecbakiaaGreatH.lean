/- Part of a proof. -/
import Derived.Test.YtlcehclecbakiaaGreatF
import Derived.Test.YtlcehclecbakiaaGreatI
import Derived.Test.YtlcehclecbakiaaGreatJ
import Derived.Test.YtlcehclecbakiaaGreatG
import Derived.Test.YtlcehclecbakiaaGreatCode2
import Derived.KernelRfl
import Derived.Test.YtlcehclecbakiaaGreatA6

open List renaming map_map→ab4,getElem?_map→abt,getElem?_eq_getElem→aao,length_pos_iff→acu,length_map→abM,getElem?_eq_some_iff→aab,all_map→afB,all_eq_true→aaS,mem_map→aa5
open Option renaming map_some→acA
open Nat renaming le_refl→aaH
open Int renaming toNat_natCast→afC
open Bool renaming and_eq_true→Ar,or_eq_true→abP,and_true→aeG
set_option maxRecDepth 100000
set_option maxHeartbeats 8000000
namespace yS
open Ax Go V7 jw jX sZ
def oO(i:In):cJ.ID:=⟨i.op,i.a,i.b,i.c,i.n,oI i.args⟩
theorem Ou(l:List Int):dI (oI l)=l:=by
 unfold dI oI;rw[aM];exact Dn l
end yS
namespace xT
open Ax Go V7 jw jX sZ
def cv(t:T3):cJ.T3:=⟨t.b,t.r,t.d⟩
def S6(l:List T3):AV:=aB 3 (l.map T3.cells)
def Sz(l:List In):AV:=aB 6 (l.map In.row)
def csV(l:List Cd):AV:=aB 7 (l.map Cd.row)
def bN(l:List Sd):AV:=aB 4 (l.map Sd.row)
def shV(l:List (List UInt8×List Vd)):AV:=aB 2 (l.map gD)
def oT(H:Hd)(main:Int)(cs:List Cd)(ss:List Sd):cJ.XD:=⟨shV H.bL,S6 (H.globals.map (·.ty)),csV cs,bN ss,main⟩
theorem uc(l:List T3):cJ.bJ (S6 l)=l.map cv:=by
 unfold cJ.bJ S6;rw[aM,ab4];rfl
theorem Be(l:List In):cJ.gx (Sz l)=l.map yS.oO:=by
 unfold cJ.gx Sz;rw[aM,ab4];rfl
def dX(c:Cd):cJ.CD:=⟨c.params,S6 c.vars,c.bg,cv c.res,Sz c.is⟩
theorem J1(l:List Cd):cJ.bP (csV l)=l.map dX:=by
 unfold cJ.bP csV;rw[aM,ab4];rfl
def ajV(s:Sd):cJ.SD:=⟨s.fn,cv s.ty⟩
theorem Ov(l:List Sd):cJ.oM (bN l)=l.map ajV:=by
 unfold cJ.oM bN;rw[aM,ab4];rfl
theorem J2(l:List Vd):cJ.uT (cj l)=l.map λv=>⟨v.nm,cv v.ty⟩:=by
 unfold cJ.uT cj;rw[aM,ab4];rfl
theorem J3(l:List (List UInt8×List Vd)):cJ.kq (shV l)=l.map λs=>⟨s.1,cj s.2⟩:=by
 unfold cJ.kq shV;rw[aM,ab4];rfl
theorem FL{sz:Nat}{l:List (List AV)}(h:bw sz l=true):bY sz (aB sz l)=true:=by
 cases l with
 |nil=>rfl|cons a b=>simp[aB,bF,bY,h]
variable {H:Hd}{vs:List T3}{t:T3}{a:Int}
theorem qn(h:nT vs t a):cJ.fR (vs.map cv) a=cv t:=by
 obtain⟨k,rfl,hk⟩:=h;unfold cJ.fR;rw[if_pos (by omega),afC,List.getD_eq_getElem?_getD,abt,hk];rfl
theorem XA(h:BT t):cv t≠cJ.T0:=by
 intro e;have:t.b=0:=congrArg cJ.T3.b e;have:=h.1;omega
theorem mm(h:nT vs t a)(hb:BT t):cJ.iU (vs.map cv) (cv t) [a]=true:=by
 unfold cJ.iU;simp[qn h,XA hb]
theorem afq{b:Int}(h:nT vs t a)(h2:nT vs t b)(hb:BT t):cJ.iU (vs.map cv) (cv t) [a,b]=true:=by
 unfold cJ.iU;simp[qn h,qn h2,XA hb]
theorem ajW{b c:Int}(h:nT vs t a)(h2:nT vs t b)(h3:nT vs t c)(hb:BT t):cJ.iU (vs.map cv) (cv t) [a,b,c]=true:=by
 unfold cJ.iU;simp[qn h,qn h2,qn h3,XA hb]
theorem bI:BT tI:=⟨by decide,by decide⟩
theorem bB:BT tB:=⟨by decide,by decide⟩
theorem XB{m:∀t∈vs,MT H t}(h:nT vs t a):BT t:=by
 obtain⟨k,_,hk⟩:=h;exact(m t (mem_of hk)).bt
theorem mq{α:Type}(l:List α)(k:Nat):cr.gh l (k:Int)=l[k]?:=by
 unfold cr.gh;rw[if_pos (by omega),afC]
theorem dIt(i:In):dI (yS.oO i).args=i.args:=yS.Ou i.args
theorem JV{p q r s:Bool}{i:In}(h1:p=true\/i.a=0)(h2:q=true\/i.b=0)(h3:r=true\/i.c=0)(h4:s=true\/i.n=0)(h5:i.op=13\/i.args=[]):cr.iD p q r s (yS.oO i)=true:=by
 unfold cr.iD;rw[dIt];simp only[Ar,abP,decide_eq_true_eq];exact⟨⟨⟨⟨h1,h2⟩,h3⟩,h4⟩,h5.imp id λh=>by rw[h];rfl⟩
theorem gJ{p q r s:Bool}{i:In}(e:cr.zm (yS.oO i)=cr.iD p q r s (yS.oO i))(h1:p=true\/i.a=0)(h2:q=true\/i.b=0)(h3:r=true\/i.c=0)(h4:s=true\/i.n=0)(h5:i.op=13\/i.args=[]):cr.zm (yS.oO i)=true:=e.trans (JV h1 h2 h3 h4 h5)
theorem Mp{m:∀t∈vs,MT H t}:∀{ps:List Vd}{l:List Int}{gs:List T3},tZ vs ps l->Fs ps gs->(l.zip (gs.map cv)).all (λp=>cJ.iU (vs.map cv) p.2 [p.1])=true\/l.length > ps.length
 |[],[],gs,_,_=>.inl (by simp)|p::ps,a::l,gs,h,hp=>by
  obtain⟨h1,h2⟩:=h;have h0:=hp 0 p rfl;match gs,h0 with
  |g::gs,h0=>
   simp only[List.getElem?_cons_zero,Option.some.injEq]at h0;subst h0;rcases Mp (m:=m) (gs:=gs) h2 (λk v hk=>by have:=hp (k+1) v (by simpa using hk);simpa using this) with q|q;left;simp only[List.map_cons,List.zip_cons_cons,List.all_cons,q,aeG];exact mm h1 (XB (m:=m) h1);right;simp;omega
 |[],_::_,_,h,_=>h.elim|_::_,[],_,h,_=>h.elim
theorem Mq:∀{ps:List Vd}{l:List Int},tZ vs ps l->l.length=ps.length
 |[],[],_=>rfl|_::_,_::_,h=>by simp[Mq h.2]|[],_::_,h=>h.elim|_::_,[],h=>h.elim
theorem Qo{ps:List Vd}{gs:List T3}(h:Fs ps gs):ps.length<=gs.length:=by
 refine Nat.le_of_not_lt λq=>?_;have:=h gs.length ps[gs.length] (aao q);rw[List.getElem?_eq_none (aaH _)]at this;cases this
theorem XC{rs:List cJ.RD}{vars:List cJ.T3}{a r k v:Int}{rd:cJ.RD}{fd:cJ.FD}(e1:cJ.fR vars a=⟨3,r,0⟩)(e2:cr.gh rs r=some rd)(e3:cr.gh (cJ.uT rd.bM) k=some fd)(e4:cJ.iU vars fd.t [v]=true):cr.C7 rs vars a k v=true:=by
 unfold cr.C7;rw[e1];simp[e2,e3,e4]
theorem afr{l:List cJ.CD}{vs:List cJ.T3}{i:cJ.ID}{g:cJ.CD}(e1:cr.gh l i.c=some g)(e2:cr.Sn vs i g=true):cr.C8 l vs i=true:=by
 unfold cr.C8;rw[e1];exact e2
variable {f:Nat}{s:Sg}{ss:List Sd}{c:Cd}{cs:List Cd}{main:Int}{i:In}
theorem Ow(_hF:Hd.yO H)(hm:∀t∈c.vars,MT H t)(pO:∀(j:Nat)(s:Sg),H.sigs[j]?=some s->∃g,cs[j]?=some g/\g.params=s.ps.length/\g.bg=s.bg/\g.res=s.res/\Fs s.ps g.vars)
  (hc:cs[f]?=some c)(hs:c.bg=s.bg)(hr:c.res=s.res)(_hsm:s∈H.sigs)(jJ:c.is≠[])(h:vU H f s.bg s.res c.vars ss (c.is.length-1) i):cr.uM (oT H main cs ss) f (yS.oO i)=true:=by
 have hle:c.is.length-1<c.is.length:=by have:=acu.2 jJ;omega
 unfold cr.uM;rw[show (oT H main cs ss).codes=csV cs from rfl,J1,mq,abt,hc];simp only[acA];rw[Ar];have hv:cJ.bJ (dX c).vars=c.vars.map cv:=uc c.vars;have hn:cJ.gx (dX c).dO=c.is.map yS.oO:=Be c.is;have b:∀{t a},nT c.vars t a->BT t:=λh=>XB (m:=hm) h;have plc:∀n:Nat,n<=c.is.length-1->cr.C9 (dX c) (n:Int)=true:=λn hq=>by
  unfold cr.C9;rw[hn,Ar,decide_eq_true_eq,decide_eq_true_eq,abM];omega
 have Mr:(yS.oO i).op ≥ 13->cr.mj (oT H main cs ss) (dX c) (yS.oO i)=true->cr.gf (oT H main cs ss) (f:Int) (dX c) (yS.oO i)=true:=λOX hg=>by
  unfold cr.gf;rw[if_neg (by omega),if_neg (by omega),if_neg (by omega),if_neg (by omega),if_neg (by omega),if_neg (by omega),if_neg (by omega),if_neg (by omega),if_neg (by omega),if_neg (by omega),if_neg (by omega),if_neg (by omega)];exact hg
 cases h with
 |c1 h1=>
  refine⟨gJ (p:=true) (q:=false) (r:=false) (s:=true) rfl (.inl rfl) (.inr rfl) (.inr rfl) (.inl rfl) (.inr rfl),?_⟩;rename_i a n;show (cJ.iU (cJ.bJ (dX c).vars) (cv tI) [a]||_)=true;rw[hv,mm h1 bI];rfl
 |c1b h1 h2=>
  refine⟨gJ (p:=true) (q:=false) (r:=false) (s:=true) rfl (.inl rfl) (.inr rfl) (.inr rfl) (.inl rfl) (.inr rfl),?_⟩;rename_i a n;show (_||cJ.iU (cJ.bJ (dX c).vars) (cv tB) [a]&&(decide (n=0)||decide (n=1)))=true;rw[hv,mm h1 bB,abP];right;simpa using h2
 |c2 h1 h2=>
  refine⟨gJ (p:=true) (q:=false) (r:=false) (s:=false) rfl (.inl rfl) (.inr rfl) (.inr rfl) (.inr rfl) (.inr rfl),?_⟩;rename_i a t;show cr.g9 (cJ.fR (cJ.bJ (dX c).vars) a)=true;rw[hv,qn h1];exact h2
 |c3 h1 h2=>
  refine⟨gJ (p:=true) (q:=true) (r:=false) (s:=false) rfl (.inl rfl) (.inl rfl) (.inr rfl) (.inr rfl) (.inr rfl),?_⟩;rename_i a b' t;show cJ.iU (cJ.bJ (dX c).vars) (cJ.fR (cJ.bJ (dX c).vars) a) [b']=true;rw[hv,qn h1];exact mm h2 (b h2)
 |c4 h1 h2 h3 h4 h5=>
  rename_i a b' c' k ta tb t r;refine⟨gJ (p:=true) (q:=true) (r:=true) (s:=true) rfl (.inl rfl) (.inl rfl) (.inl rfl) (.inl rfl) (.inr rfl),?_⟩;show cr.mZ (cJ.bJ (dX c).vars) (yS.oO ⟨4,a,b',c',k,[]⟩)=true;rw[hv];unfold cr.mZ;unfold jX.mZ at h3;show (if k=14\/k=15\/k=16\/k=17\/k=18 then cJ.iU _ (cv tI) [a,b',c'] else if k=19\/k=20 then cJ.iU _ (cv tB) [a]&&cJ.iU _ (cv tI) [b',c'] else if k=21\/k=22 then cJ.iU _ (cv tB) [a]&&cJ.iU _ (cJ.fR _ b') [c'] else if k=23\/k=24 then cJ.iU _ (cv tB) [a,b',c'] else false)=true;by_cases k1:k=14\/k=15\/k=16\/k=17\/k=18;rw[if_pos k1]at h3 ⊢;obtain⟨q1,rfl,_⟩:=cA h3;rw[Ar,decide_eq_true_eq,decide_eq_true_eq]at q1;obtain⟨rfl,rfl⟩:=q1;exact ajW h5 h1 h2 bI;rw[if_neg k1]at h3 ⊢;by_cases k2:k=19\/k=20;rw[if_pos k2]at h3 ⊢;obtain⟨q1,rfl,_⟩:=cA h3;rw[Ar,decide_eq_true_eq,decide_eq_true_eq]at q1;obtain⟨rfl,rfl⟩:=q1;rw[mm h5 bB,afq h1 h2 bI];rfl;rw[if_neg k2]at h3 ⊢;by_cases k3:k=21\/k=22;rw[if_pos k3]at h3 ⊢;obtain⟨q1,rfl,_⟩:=cA h3;rw[decide_eq_true_eq]at q1;subst q1;rw[mm h5 bB,qn h1,mm h2 (b h2)];rfl;rw[if_neg k3]at h3 ⊢;rw[if_pos (by omega)];obtain⟨q1,rfl,_⟩:=cA h3;rw[Ar,decide_eq_true_eq,decide_eq_true_eq]at q1;obtain⟨rfl,rfl⟩:=q1;exact ajW h5 h1 h2 bB
 |c5i h1 h2=>
  refine⟨gJ (p:=true) (q:=true) (r:=false) (s:=true) rfl (.inl rfl) (.inl rfl) (.inr rfl) (.inl rfl) (.inr rfl),?_⟩;rename_i a b';show (decide ((12:Int)=12)&&cJ.iU (cJ.bJ (dX c).vars) (cv tI) [a,b']||_)=true;rw[hv,afq h1 h2 bI];rfl
 |c5b h1 h2=>
  refine⟨gJ (p:=true) (q:=true) (r:=false) (s:=true) rfl (.inl rfl) (.inl rfl) (.inr rfl) (.inl rfl) (.inr rfl),?_⟩;rename_i a b';show (decide ((13:Int)=12)&&cJ.iU (cJ.bJ (dX c).vars) (cv tI) [a,b']||decide ((13:Int)=13)&&cJ.iU (cJ.bJ (dX c).vars) (cv tB) [a,b'])=true;rw[hv,afq h1 h2 bB];rfl
 |c6 h1 h2 h3 h4=>
  rename_i a b' r j sh v;refine⟨gJ (p:=true) (q:=true) (r:=true) (s:=false) rfl (.inl rfl) (.inl rfl) (.inl rfl) (.inr rfl) (.inr rfl),?_⟩;show cr.C7 (cJ.kq (shV H.bL)) (cJ.bJ (dX c).vars) b' j a=true;rw[hv,J3];refine XC (rd:=⟨sh.1,cj sh.2⟩) (fd:=⟨v.nm,cv v.ty⟩) (qn h1) ?_ ?_ (mm h4 (b h4));show cr.gh _ (r:Int)=_;rw[mq,abt,h2];rfl;show cr.gh (cJ.uT (cj sh.2)) (j:Int)=_;rw[J2,mq,abt,h3];rfl
 |c7 h1 h2 h3 h4=>
  rename_i a b' r j sh v;refine⟨gJ (p:=true) (q:=true) (r:=true) (s:=false) rfl (.inl rfl) (.inl rfl) (.inl rfl) (.inr rfl) (.inr rfl),?_⟩;show cr.C7 (cJ.kq (shV H.bL)) (cJ.bJ (dX c).vars) a j b'=true;rw[hv,J3];refine XC (rd:=⟨sh.1,cj sh.2⟩) (fd:=⟨v.nm,cv v.ty⟩) (qn h1) ?_ ?_ (mm h4 (b h4));show cr.gh _ (r:Int)=_;rw[mq,abt,h2];rfl;show cr.gh (cJ.uT (cj sh.2)) (j:Int)=_;rw[J2,mq,abt,h3];rfl
 |c8 h1 h2 h3 h4=>
  rename_i a b' c' t;refine⟨gJ (p:=true) (q:=true) (r:=true) (s:=false) rfl (.inl rfl) (.inl rfl) (.inl rfl) (.inr rfl) (.inr rfl),?_⟩;show (cr.A7 (cJ.bJ (dX c).vars) b' a&&cJ.iU (cJ.bJ (dX c).vars) (cv tI) [c'])=true;unfold cr.A7;rw[hv,qn h1,mm h4 bI];show (decide (0<t.d)&&cJ.iU _ (cv ⟨t.b,t.r,t.d-1⟩) [a]&&true)=true;rw[mm h3 (b h3)];simpa using h2
 |c9 h1 h2 h3 h4=>
  rename_i a b' c' t;refine⟨gJ (p:=true) (q:=true) (r:=true) (s:=false) rfl (.inl rfl) (.inl rfl) (.inl rfl) (.inr rfl) (.inr rfl),?_⟩;show (cr.A7 (cJ.bJ (dX c).vars) a c'&&cJ.iU (cJ.bJ (dX c).vars) (cv tI) [b'])=true;unfold cr.A7;rw[hv,qn h1,mm h4 bI];show (decide (0<t.d)&&cJ.iU _ (cv ⟨t.b,t.r,t.d-1⟩) [c']&&true)=true;rw[mm h3 (b h3)];simpa using h2
 |Cu h1 h2 h3=>
  rename_i a b' t;refine⟨gJ (p:=true) (q:=true) (r:=false) (s:=false) rfl (.inl rfl) (.inl rfl) (.inr rfl) (.inr rfl) (.inr rfl),?_⟩;show (cJ.iU (cJ.bJ (dX c).vars) (cv tI) [a]&&decide (0<(cJ.fR (cJ.bJ (dX c).vars) b').d))=true;rw[hv,mm h1 bI,qn h2];exact decide_eq_true h3
 |PZ h1 h2 h3 h4=>
  rename_i a n t;refine⟨gJ (p:=true) (q:=false) (r:=false) (s:=true) rfl (.inl rfl) (.inr rfl) (.inr rfl) (.inl rfl) (.inr rfl),?_⟩;show (decide ((cJ.fR (cJ.bJ (dX c).vars) a).b=3)&&decide ((cJ.fR (cJ.bJ (dX c).vars) a).d=0)&&cr.C6 (cJ.oM (bN ss)) f (cJ.bJ (dX c).vars) n a)=true;unfold cr.C6;rw[hv,qn h1,Ov,mq,abt,h4];simp only[acA];show (decide (t.b=3)&&decide (t.d=0)&&(decide (((f:Nat):Int)=f)&&cJ.iU _ (cv t) [a]))=true;rw[h2,h3,mm h1 (b h1)];simp
 |CX h1 h2 h3 h4=>
  rename_i a b' n t;refine⟨gJ (p:=true) (q:=true) (r:=false) (s:=true) rfl (.inl rfl) (.inl rfl) (.inr rfl) (.inl rfl) (.inr rfl),?_⟩;show (decide (0<(cJ.fR (cJ.bJ (dX c).vars) a).d)&&cr.C6 (cJ.oM (bN ss)) f (cJ.bJ (dX c).vars) n a&&cJ.iU (cJ.bJ (dX c).vars) (cv tI) [b'])=true;unfold cr.C6;rw[hv,qn h1,Ov,mq,abt,h3,mm h4 bI];simp only[acA];show (decide (0<t.d)&&(decide (((f:Nat):Int)=f)&&cJ.iU _ (cv t) [a])&&true)=true;rw[mm h1 (b h1)];simpa using h2
 |CY h1 h2 h3=>
  rename_i a j s' l;refine⟨gJ (p:=true) (q:=false) (r:=true) (s:=false) rfl (.inl rfl) (.inr rfl) (.inl rfl) (.inr rfl) (.inl rfl),Mr (by show (13:Int) ≥ 13;decide) ?_⟩;obtain⟨g,g1,g2,g3,g4,g5⟩:=pO j s' h1;show cr.C8 (cJ.bP (csV cs)) (cJ.bJ (dX c).vars) _=true;refine afr (g:=dX g) ?_ ?_;show cr.gh (cJ.bP (csV cs)) (j:Int)=_;rw[J1,mq,abt,g1];rfl;unfold cr.Sn;have Oi:cJ.bJ (dX g).vars=g.vars.map cv:=uc g.vars;have hl:=Mq h2;have hz:=(Mp (m:=hm) h2 g5).resolve_right (by omega);have Ij:=Qo g5;rw[hv,Oi];have hdi:dI (yS.oO ⟨13,a,0,j,0,l⟩).args=l:=yS.Ou l;rw[hdi,hz];have e1:((dX g).params:Int)=s'.ps.length:=by show ((g.params:Nat):Int)=_;rw[g2]
  rw[e1,abM];have e2:(decide (a = -1)||(dX g).bg&&cJ.iU (c.vars.map cv) (dX g).res [a])=true:=by
   rcases h3 with q|⟨q1,q2⟩;rw[q];rfl;rw[abP];right;show (g.bg&&cJ.iU _ (cv g.res) [a])=true;rw[g3,q1,g4,mm q2 (b q2)];rfl
  have e3:(yS.oO ⟨13,a,0,j,0,l⟩).a=a:=rfl;rw[e3,e2];simp only[aeG,Ar,decide_eq_true_eq];exact⟨by omega,by omega⟩
 |c14 h1=>
  refine⟨gJ (p:=true) (q:=false) (r:=false) (s:=false) rfl (.inl rfl) (.inr rfl) (.inr rfl) (.inr rfl) (.inr rfl),Mr (by show (14:Int) ≥ 13;decide) ?_⟩;rename_i a;show cJ.iU (cJ.bJ (dX c).vars) (cv tI) [a]=true;rw[hv];exact mm h1 bI
 |c15 h1=>
  refine⟨gJ (p:=true) (q:=false) (r:=false) (s:=false) rfl (.inl rfl) (.inr rfl) (.inr rfl) (.inr rfl) (.inr rfl),Mr (by show (15:Int) ≥ 13;decide) ?_⟩;rename_i a;show cJ.iU (cJ.bJ (dX c).vars) (cv tI) [a]=true;rw[hv];exact mm h1 bI
 |c16 h1=>
  refine⟨gJ (p:=false) (q:=false) (r:=false) (s:=true) rfl (.inr rfl) (.inr rfl) (.inr rfl) (.inl rfl) (.inr rfl),Mr (by show (16:Int) ≥ 13;decide) ?_⟩;rename_i n;show cr.C9 (dX c) (n:Int)=true;exact plc _ h1
 |c17 h1 h2 h3=>
  refine⟨gJ (p:=true) (q:=false) (r:=true) (s:=true) rfl (.inl rfl) (.inr rfl) (.inl rfl) (.inl rfl) (.inr rfl),Mr (by show (17:Int) ≥ 13;decide) ?_⟩;rename_i a n c';show (cJ.iU (cJ.bJ (dX c).vars) (cv tB) [a]&&cr.C9 (dX c) (n:Int)&&cr.C9 (dX c) (c':Int))=true;rw[hv,mm h1 bB,plc _ h2,plc _ h3];rfl
 |c18 h1=>
  refine⟨gJ (p:=true) (q:=false) (r:=false) (s:=false) rfl (.inl rfl) (.inr rfl) (.inr rfl) (.inr rfl) (.inr rfl),Mr (by show (18:Int) ≥ 13;decide) ?_⟩;rename_i a;show (if c.bg=true then cJ.iU (cJ.bJ (dX c).vars) (cv c.res) [a] else decide (a = -1))=true;rw[hv,hs,hr];cases hh:s.bg with
  |true=>
   rw[hh]at h1;rw[if_pos rfl]at h1 ⊢;exact mm h1 (b h1)
  |false=>
   rw[hh]at h1;rw[if_neg (by simp)]at h1 ⊢;exact decide_eq_true h1
 |c19 h1 h2=>
  rename_i a j v;refine⟨gJ (p:=true) (q:=false) (r:=false) (s:=true) rfl (.inl rfl) (.inr rfl) (.inr rfl) (.inl rfl) (.inr rfl),Mr (by show (19:Int) ≥ 13;decide) ?_⟩;show cr.FI (cJ.bJ (S6 (H.globals.map (·.ty)))) (cJ.bJ (dX c).vars) j a=true;unfold cr.FI;rw[hv,uc,mq,ab4,abt,h1];simp only[acA];exact mm h2 (b h2)
 |c20 h1 h2=>
  rename_i a j v;refine⟨gJ (p:=true) (q:=false) (r:=false) (s:=true) rfl (.inl rfl) (.inr rfl) (.inr rfl) (.inl rfl) (.inr rfl),Mr (by show (20:Int) ≥ 13;decide) ?_⟩;show cr.FI (cJ.bJ (S6 (H.globals.map (·.ty)))) (cJ.bJ (dX c).vars) j a=true;unfold cr.FI;rw[hv,uc,mq,ab4,abt,h1];simp only[acA];exact mm h2 (b h2)
end xT
namespace xT
open Ax Go V7 jw jX sZ
variable {H:Hd}{ss:List Sd}{cs:List Cd}{main:Int}{all:Nat}
theorem Bf{t:T3}(hF:Hd.yO H)(h:MT H t):cr.lT (cr.nr (oT H main cs ss)) (cv t)=true:=by
 have hn:cr.nr (oT H main cs ss)=H.rs.length:=by
  show (cJ.kq (shV H.bL)).length=_;rw[J3,abM,hF.ok.rs]
 rw[hn];obtain⟨⟨h1,h2,h3⟩,⟨h4,h5⟩,h6⟩:=h;unfold cr.lT;show (decide (¬t.d<0)&&decide (¬3<t.d)&&if t.b=1\/t.b=2 then decide (t.r=0) else decide (t.b=3)&&decide (0<=t.r)&&decide (t.r<H.rs.length))=true;rw[decide_eq_true (by omega:¬t.d<0),decide_eq_true (by omega:¬3<t.d)];by_cases q:t.b=3;obtain⟨q1,q2⟩:=h3 q;rw[if_neg (by omega),decide_eq_true q,decide_eq_true q1,decide_eq_true q2];rfl;rw[if_pos (by omega),decide_eq_true (h6 q)];rfl
theorem Ox(hF:Hd.yO H)(hM:Made H cs ss all)(hl:cs.length=H.sigs.length){j:Nat}{c:Cd}(hc:cs[j]?=some c):cr.zn (oT H main cs ss) j (dX c)=true:=by
 obtain⟨s,hs,hg⟩:=hM.code j c hc;have pP:=mem_of hs;have jJ:c.is≠[]:=by
  obtain⟨i,hi,_⟩:=hg.aem;intro q;rw[q]at hi;cases hi
 have pO:∀(j:Nat) (s:Sg),H.sigs[j]?=some s->∃g,cs[j]?=some g/\g.params=s.ps.length/\g.bg=s.bg/\g.res=s.res/\Fs s.ps g.vars:=λj s hs=>by
  have hj:j<cs.length:=by rw[hl];exact(aab.1 hs).1
  obtain⟨s',h1,h2⟩:=hM.code j cs[j] (aao hj);rw[hs]at h1;cases h1;exact⟨cs[j],aao hj,h2.params,h2.bg,h2.res,h2.pre⟩
 have hv:cJ.bJ (dX c).vars=c.vars.map cv:=uc c.vars;have hn:cJ.gx (dX c).dO=c.is.map yS.oO:=Be c.is;have hp:=hF.pn s pP;have Ij:=Qo hg.pre;have hnv:=hg.nv;have Q2:=acu.2 jJ;unfold cr.zn;rw[hv,hn];simp only[Ar,decide_eq_true_eq,abM];have e1:(dX c).params=((s.ps.length:Nat):Int):=by show ((c.params:Nat):Int)=_;rw[hg.params]
 rw[e1];refine⟨⟨⟨⟨⟨⟨⟨⟨by omega,by omega⟩,by omega⟩,by omega⟩,by omega⟩,?_⟩,?_⟩,?_⟩,?_⟩;rw[afB,aaS];exact λt ht=>Bf hF (hg.vt t ht);show (if c.bg=true then cr.lT _ (cv c.res) else cr.fT (cv c.res) ⟨0,0,0⟩)=true;rw[hg.bg,hg.res];cases hh:s.bg with
 |true=>rw[if_pos rfl];exact Bf hF (hF.yes s pP hh)|false=>rw[if_neg (by simp),hF.no s pP hh];rfl
 rw[afB,aaS];exact λi hi=>Ow hF hg.vt pO hc hg.bg hg.res pP jJ (hg.FO i hi);obtain⟨i,h1,h2⟩:=hg.aem;unfold cr.Mf;rw[List.getLast?_map,h1];show (decide (i.op=16)||decide (i.op=17)||decide (i.op=18))=true;rw[h2];rfl
theorem Bg(hF:Hd.yO H)(hM:Made H cs ss all)(hl:cs.length=H.sigs.length):∀(l pre:List Cd),cs=pre++l->cr.oN (oT H main cs ss) (l.map dX) pre.length ((pre.map (·.is.length)).sum:Nat)=true
 |[],_,_=>rfl|c::l,pre,e=>by
  have hc:cs[pre.length]?=some c:=by rw[e,List.getElem?_append_right (aaH _)];simp
  have hn:cJ.gx (dX c).dO=c.is.map yS.oO:=Be c.is;have Gd:(pre.map (·.is.length)).sum+c.is.length<=2500:=by
   have h1:=hM.sum;have h2:=hM.few;rw[e]at h1;simp at h1;omega
  show (decide (¬2500<(((pre.map (·.is.length)).sum:Nat):Int)+((cJ.gx (dX c).dO).length:Int))&&cr.zn _ (pre.length:Int) (dX c)&&cr.oN _ (l.map dX) ((pre.length:Int)+1) ((((pre.map (·.is.length)).sum:Nat):Int)+((cJ.gx (dX c).dO).length:Int)))=true;rw[hn,abM,decide_eq_true (by omega),Ox hF hM hl hc];have ih:=Bg hF hM hl l (pre++[c]) (by rw[e];simp);have e2:((pre++[c]).length:Int)=(pre.length:Int)+1:=by simp
  have e3:((((pre++[c]).map (·.is.length)).sum:Nat):Int)=(((pre.map (·.is.length)).sum:Nat):Int)+(c.is.length:Int):=by simp
  rw[e2,e3]at ih;rw[ih];rfl
theorem Oy(hF:Hd.yO H)(hM:Made H cs ss all)(hl:cs.length=H.sigs.length){k:Nat}{s:Sg}(hk:main=k)(hs:H.sigs[k]?=some s)(hp:s.ps=[])(hh:s.bg=false):cr.lB (oT H main cs ss)=true:=by
 have uR:=(aab.1 hs).1;have RA:k<cs.length:=by omega
 obtain⟨s',h1,hg⟩:=hM.code k cs[k] (aao RA);rw[hs]at h1;cases h1;unfold cr.lB;have r1:cJ.kq (oT H main cs ss).aD=H.bL.map λs=>⟨s.1,cj s.2⟩:=J3 _;have r2:cJ.bJ (oT H main cs ss).globals=(H.globals.map (·.ty)).map cv:=uc _;have r3:cJ.bP (oT H main cs ss).codes=cs.map dX:=J1 _;have r4:cJ.oM (oT H main cs ss).ax=ss.map ajV:=Ov _;have hn1:=hF.nr;have hn2:=hF.ng;have hn3:=hF.nf;have hn4:=hM.ns;rw[r1,r2,r3,r4];have HD:cr.gh (cs.map dX) (oT H main cs ss).main=some (dX cs[k]):=by
  show cr.gh (cs.map dX) main=_;rw[hk,mq,abt,aao RA];rfl
 have XT:(decide ((dX cs[k]).params=0) && !(dX cs[k]).bg)=true:=by
  show (decide (((cs[k].params:Nat):Int)=0) && !cs[k].bg)=true;rw[hg.params,hg.bg,hp,hh];rfl
 rw[HD];simp only[Ar,decide_eq_true_eq,abM]at XT ⊢;refine⟨⟨⟨⟨⟨⟨⟨⟨⟨by omega,by omega⟩,?_⟩,by omega⟩,by omega⟩,XT⟩,?_⟩,?_⟩,?_⟩,?_⟩;intro q;have:=congrArg List.length q;simp at this;rw[this]at RA;exact absurd RA (by simp);rw[afB,aaS];intro sh hsh;show cr.wF _ ⟨sh.1,cj sh.2⟩=true;unfold cr.wF;rw[J2,abM,Ar,decide_eq_true_eq];have:=hF.bL sh hsh;refine⟨by omega,?_⟩;rw[afB,aaS];exact λv hv=>Bf hF ⟨hF.ok.bL sh hsh v hv,hF.gd.bL sh hsh v hv,hF.rt.bL sh hsh v hv⟩;rw[afB,afB,aaS];exact λv hv=>Bf hF ⟨hF.ok.globals v hv,hF.gd.globals v hv,hF.rt.globals v hv⟩;rw[afB,aaS];intro sd hsd;obtain⟨a,b,c⟩:=hM.RX sd hsd;show (cr.lT _ (cv sd.ty)&&cr.g9 (cv sd.ty)&&decide (¬((sd.fn:Nat):Int)<0)&&decide (((sd.fn:Nat):Int)<(cs.length:Nat)))=true;rw[Bf hF a,show cr.g9 (cv sd.ty)=true from b,decide_eq_true (by omega),decide_eq_true (by omega)];rfl;have:=Bg (main:=main) hF hM hl cs [] rfl;exact this
end xT
namespace xT
open Ax Go V7 jw jX sZ
variable {H:Hd}{cs:List Cd}{ss:List Sd}{all:Nat}{main:Int}
theorem yF{sz:Nat}{p:List AV->Bool}{l:List (List AV)}(hf:∀r∈l,r.length=sz)(hp:∀r∈l,p r=true):cJ.fj sz p (aB sz l)=true:=by
 unfold cJ.fj;rw[aM];have h1:cJ.fZ (aB sz l)=true:=by cases l<;>rfl
 have h2:bY sz (aB sz l)=true:=by
  cases l with
  |nil=>rfl|cons a l=>simp only[Rp,kU,beq_self_eq_true,Bool.true_and,bw,aaS,beq_iff_eq];exact hf
 rw[h1,h2,aaS.2 hp];rfl
theorem Ms{a:Int}(h : -1000000<=a)(h2:a<=1000000):cJ.pU a=true:=by simp only[cJ.pU,Ar,decide_eq_true_eq];omega
theorem Qp{t:T3}(hn:H.rs.length<=100)(h:MT H t):cJ.pU t.b=true/\cJ.pU t.r=true/\cJ.pU t.d=true:=by
 obtain⟨⟨a,b,c⟩,⟨d,e⟩,f⟩:=h;refine⟨Ms (by omega) (by omega),?_,Ms (by omega) (by omega)⟩;by_cases q:t.b=3;have:=c q;exact Ms (by omega) (by omega);rw[f q];decide
theorem acj(hn:H.rs.length<=100){l:List T3}(h:∀t∈l,MT H t):cJ.sY (S6 l)=true:=by
 refine yF (λr hr=>?_) λr hr=>?_;obtain⟨t,ht,rfl⟩:=aa5.1 hr;rfl;obtain⟨t,ht,rfl⟩:=aa5.1 hr;obtain⟨a,b,c⟩:=Qp hn (h t ht);show (cJ.pU t.b&&cJ.pU t.r&&cJ.pU t.d)=true;rw[a,b,c];rfl
theorem ajX(hn:H.rs.length<=100){l:List Vd}(h:∀v∈l,MT H v.ty):cJ.Oj (cj l)=true:=by
 refine yF (λr hr=>?_) λr hr=>?_;obtain⟨t,ht,rfl⟩:=aa5.1 hr;rfl;obtain⟨t,ht,rfl⟩:=aa5.1 hr;obtain⟨a,b,c⟩:=Qp hn (h t ht);show (cJ.pU t.ty.b&&cJ.pU t.ty.r&&cJ.pU t.ty.d)=true;rw[a,b,c];rfl
theorem aaY(l:List Int):tu (oI l)=true/\cJ.fZ (oI l)=true:=by
 refine⟨?_,by cases l<;>rfl⟩;unfold tu oI;rw[aM];have:bY 1 (aB 1 (cp l))=true:=by
  cases l with
  |nil=>rfl|cons a l=>simp[cp,bw]
 rw[this];simp[cp]
theorem ajY(l:List In):cJ.BX (Sz l)=true:=by
 refine yF (λr hr=>?_) λr hr=>?_;obtain⟨t,ht,rfl⟩:=aa5.1 hr;rfl;obtain⟨t,ht,rfl⟩:=aa5.1 hr;obtain⟨a,b⟩:=aaY t.args;show (cJ.fZ (oI t.args)&&tu (oI t.args))=true;rw[a,b];rfl
theorem Oz{α:Type}{l:List α}{x:α}(h:x∈l):∃k:Nat,l[k]?=some x:=by
 obtain⟨k,hk,rfl⟩:=List.getElem_of_mem h;exact⟨k,aao hk⟩
theorem aoS(hF:Hd.yO H)(hM:Made H cs ss all)(hl:cs.length=H.sigs.length):(oT H main cs ss).ok:=by
 have hn:H.rs.length<=100:=by have:=hF.ok.rs;have:=hF.nr;omega
 have hc:cs.length<=100:=by have:=hF.nf;omega
 refine⟨?_,acj hn λt ht=>?_,?_,?_⟩;refine yF (λr hr=>?_) λr hr=>?_;obtain⟨t,ht,rfl⟩:=aa5.1 hr;rfl;obtain⟨s,hs,rfl⟩:=aa5.1 hr;exact ajX hn λv hv=>⟨hF.ok.bL s hs v hv,hF.gd.bL s hs v hv,hF.rt.bL s hs v hv⟩;obtain⟨v,hv,rfl⟩:=aa5.1 ht;exact⟨hF.ok.globals v hv,hF.gd.globals v hv,hF.rt.globals v hv⟩;refine yF (λr hr=>?_) λr hr=>?_;obtain⟨t,ht,rfl⟩:=aa5.1 hr;rfl;obtain⟨c,oU,rfl⟩:=aa5.1 hr;obtain⟨k,hk⟩:=Oz oU;obtain⟨s,hs,hg⟩:=hM.code k c hk;have pP:s∈H.sigs:=List.mem_of_getElem? hs;have hp:=hF.pn s pP;have hr3:cJ.pU c.res.b=true/\cJ.pU c.res.r=true/\cJ.pU c.res.d=true:=by
  rw[hg.res];cases hh:s.bg with
  |true=>exact Qp hn (hF.yes s pP hh)|false=>rw[hF.no s pP hh];exact⟨rfl,rfl,rfl⟩
 obtain⟨a,b,d⟩:=hr3;show (cJ.pU ((c.params:Nat):Int)&&cJ.pU c.res.b&&cJ.pU c.res.r&&cJ.pU c.res.d&&cJ.sY (S6 c.vars)&&cJ.BX (Sz c.is))=true;rw[a,b,d,acj hn hg.vt,ajY,Ms (by omega) (by rw[hg.params];omega)];rfl;refine yF (λr hr=>?_) λr hr=>?_;obtain⟨t,ht,rfl⟩:=aa5.1 hr;rfl;obtain⟨s,hs,rfl⟩:=aa5.1 hr;obtain⟨h1,_,h3⟩:=hM.RX s hs;obtain⟨a,b,d⟩:=Qp hn h1;show (cJ.pU ((s.fn:Nat):Int)&&cJ.pU s.ty.b&&cJ.pU s.ty.r&&cJ.pU s.ty.d)=true;rw[a,b,d,Ms (by omega) (by omega)];rfl
theorem XE:∀{l:List Cd}{c:Cd},c∈l->c.is.length<=(l.map (·.is.length)).sum
 |[],_,h=>by cases h|a::l,c,h=>by
  rcases List.mem_cons.1 h with rfl|h;simp;have:=XE h;simp;omega
end xT
namespace cr
open Ax Go aF cJ
section
variable {x:XD}(hx:x.ok)(hm:Sm x)
include hx hm
theorem irR(wl aa:Nat)(st:ag):(aP S).call wl aa 25 [cH x] st=some (.bool (lB x),st):=
 Xr wl aa st hx (λg hg=>by have:=hm.vars g hg;unfold Ye at this;omega) (λg hg=>by have:=hm.dO g hg;omega)
theorem rrR(wl aa:Nat)(st:ag):(aP S).call wl aa 18 [cH x] st=some (.bool (lB x),st):=by
 rw[Xs];exact Sw wl aa st hx (λg hg=>by have:=hm.vars g hg;unfold Ye at this;omega) (λg hg=>by have:=hm.dO g hg;omega)
def BZ(x:XD):List (List AV):=if lB x then s7 x (bP x.codes).length else []
def J4(x:XD):Int:=if lB x then fD (bP x.codes)+(bP x.codes).length+(bJ x.globals).length else 0
def rq(x:XD)(f v:Int):Int:=if lB x/\0<=f/\0<=v then (match (bP x.codes)[f.toNat]? with
 |some c=>if v<(bJ c.vars).length then jG x f.toNat+v else -1
 |none=>-1) else -1
def vm(x:XD)(f:Int):Int:=if lB x/\0<=f/\f<(bP x.codes).length then fD (bP x.codes)+f else -1
theorem JO(wl aa:Nat)(st:ag):(aP S).call wl aa 10 [cH x] st=some ((bF 4 (BZ x)).view,st):=by
 have e:=irR hx hm;unfold BZ;cases hr:lB x with
 |true=>
  simp only[if_true];exact Sy wl aa st hx hm (J0 hx hm hr) (by rw[e,hr])
 |false=>
  have hs:=hx.sl;simp only[cH,hr]at e;refine aH (sf:=s10) rfl rfl (by simp[hx.pure]) rfl (by simp) ?_;simp[s10,cH,hs,e,fY,AV.view]
theorem FA(wl aa:Nat)(st:ag):(aP S).call wl aa 11 [cH x] st=some (bF 4 (BZ x),st):=by
 have e:=rrR hx hm;have hs:=hx.sl;unfold BZ;refine aH (sf:=s11) rfl rfl (by simp[hx.pure]) rfl (by simp) ?_;cases hr:lB x with
 |true=>
  have eo:=λwl aa st=>Sx wl aa st hx hm (J0 hx hm hr);simp only[cH,hr]at e eo;simp[s11,cH,hs,e,eo]
 |false=>
  simp only[cH,hr]at e;simp[s11,cH,hs,e,fY]
theorem XF(wl aa:Nat)(st:ag):(aP S).call wl aa 12 [cH x] st=some (.int .i64 (J4 x),st):=by
 have e:=irR hx hm;have ev:=λwl aa st=>A8 wl aa st hx hm;have hs:=hx.sl;have hlc:=aV hx.codes;have hlg:=dw hx.globals;have b1:=hm.all;have b2:=hm.codes;have b3:=hm.globals;have w1:IntKind.i64.wrap ((fD (bP x.codes):Int)+((bP x.codes).length:Int))=(fD (bP x.codes):Int)+((bP x.codes).length:Int):=by rw[cI]<;>omega
 have w2:IntKind.i64.wrap ((fD (bP x.codes):Int)+((bP x.codes).length:Int)+((bJ x.globals).length:Int))=(fD (bP x.codes):Int)+((bP x.codes).length:Int)+((bJ x.globals).length:Int):=by rw[cI]<;>omega
 unfold J4;simp only[cH]at e ev;refine aH (sf:=s12) rfl rfl (by simp[hx.pure]) rfl (by simp) ?_;cases hr:lB x<;>simp[s12,cH,hs,hlc,hlg,e,ev,hr,w1,w2,ai,ah]
end
end cr
namespace cr
open Ax Go aF
theorem afs:(aP S).call 0 0 14 [] []=some (.bool true,[]):=by
 have h:adw ((Rb S 300).call 0 0 14 [] [])=true:=by kernel_rfl
 exact adv (Zx h)
end cr
namespace cr
open Ax Go aF cJ
def aft(r:List AV):Bool:=match r with | [.int .i64 _,.int .i64 _,.int .i64 _,.int .i64 _]=>true|_=>false
theorem aaZ{r:List AV}(h:aft r=true):∃a b c d,r=jV a b c d:=by
 unfold aft at h;split at h;exact⟨_,_,_,_,rfl⟩;cases h
def zV(l:List (List AV)):Bool:=l.all aft
theorem Bh(a b:List (List AV)):zV (a++b)=(zV a&&zV b):=by simp[zV]
theorem XG(p:Prop) [Decidable p](a b:List (List AV)):zV (if p then a else b)=if p then zV a else zV b:=by
 by_cases h:p<;>simp[h]
theorem HY(c:CD)(to a:Int)(l:List Int):∀j:Nat,zV (l6 c to a l j)=true
 |0=>rfl|j+1=>by
  have ih:=HY c to a l j;simp only[l6,List.range_succ,List.flatMap_append,Bh,List.flatMap_cons,List.flatMap_nil,List.append_nil,Ar]at *;refine⟨ih,?_⟩;split<;>rfl
theorem SA(x:XD)(k:Nat)(c:CD)(i:ID):zV (lD x k c i)=true:=by
 have h0:zV []=true:=rfl;have h1:∀a b d e,zV [jV a b d e]=true:=λ_ _ _ _=>rfl;simp only[lD,XG,Bh,HY,h0,h1,ite_self,Bool.and_self]
theorem HZ(x:XD)(k:Nat)(c:CD):∀j:Nat,j<=(gx c.dO).length->zV (xS x k c j)=true
 |0,_=>rfl|j+1,h=>by rw[uN (by omega),Bh,HZ x k c j (by omega),SA];rfl
theorem H6(x:XD):∀k:Nat,k<=(bP x.codes).length->zV (s7 x k)=true
 |0,_=>rfl|k+1,h=>by rw[uP (by omega),Bh,H6 x k (by omega),HZ _ _ _ _ (aaH _)];rfl
theorem SB(x:XD):zV (BZ x)=true:=by
 unfold BZ;split;exact H6 x _ (aaH _)
 rfl
theorem SE(x:XD):bw 4 (BZ x)=true:=by
 unfold BZ;split;exact HW x _ (aaH _)
 rfl
theorem XH{x:XD}(hx:x.ok)(hm:Sm x):(BZ x).length<1000000000:=by
 unfold BZ;split;rename_i h;have:=Bb hm (J0 hx hm h) _ (aaH _);have:=hm.codes;omega;simp
theorem aa0(wl aa:Nat)(a b:AV)(l:List (List AV))(st:ag)(ha:bY 4 a=true)(hb:bY 4 b=true)(tg:aJ a=l)(hlb:aJ b=l)(hc:zV l=true)(hn:l.length<1000000000) :
  (aP S).call wl aa 9 [a,b] st=some (.bool true,st):=by
 have h1:=jl ha;have h2:=jl hb;refine aH (sf:=s9) rfl rfl (by simp[cD h1,cD h2]) rfl (by simp) ?_;simp[s9,h1,h2,tg,hlb];refine aT abH.eq_1 (λk:Nat=>⟨[(0,.val a),(1,.val b),(5,.val (.int .i64 k))],[],[]⟩) (λk=>k<=l.length) (λk=>l.length-k) 0 (by simp) (by simp) ?_;intro k hk ih;by_cases aQ:k<l.length;have hw:=wk k (by omega);obtain⟨p,q,r,s,ff⟩:=aaZ (aaS.1 hc _ (List.getElem_mem aQ));simp[h1,ha,hb,tg,hlb,aQ,ff,hw,ai,ah,AV.view];exact ih (k+1) (by omega) (by omega);simp[h1,tg,aQ]
end cr
