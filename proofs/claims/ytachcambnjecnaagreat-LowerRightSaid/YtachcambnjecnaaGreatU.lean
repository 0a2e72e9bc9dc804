/-
  An instruction, as those who check codes see it.
-/
import Derived.Test.YtachcambnjecnaaGreatF
import Derived.Test.YtachcambnjecnaaGreatI
import Derived.Test.YtachcambnjecnaaGreatR

set_option maxHeartbeats 1000000
namespace FX
open Ax Go V7 lP mV vC
def vE (i:In):cA.ID:=⟨i.op,i.a,i.b,i.c,i.n,kR i.args⟩
theorem Sb (l:List Int):dI (kR l)=l:=by
 unfold dI kR
 rw[aO]
 exact Ah l
end FX
namespace IB
open Ax Go V7 lP mV vC
def cv (t:T3):cA.T3:=⟨t.b,t.r,t.d⟩
def SB (l:List T3):AV:=aD 3 (l.map T3.cells)
def Nu (l:List In):AV:=aD 6 (l.map In.row)
def ZT (l:List Cd):AV:=aD 7 (l.map Cd.row)
def bz (l:List Sd):AV:=aD 4 (l.map Sd.row)
def ZU (l:List (List UInt8×List Vd)):AV:=aD 2 (l.map iT)
def Dg (H:Hd)(main:Int)(cs:List Cd)(ss:List Sd):cA.XD:=⟨ZU H.bQ,SB (H.globals.map (·.ty)),ZT cs,bz ss,main⟩
theorem wM (l:List T3):cA.dg (SB l)=l.map cv:=by
 unfold cA.dg SB
 rw[aO,List.map_map];rfl
theorem AB (l:List In):cA.mF (Nu l)=l.map FX.vE:=by
 unfold cA.mF Nu
 rw[aO,List.map_map];rfl
def fy (c:Cd):cA.CD:=⟨c.params,SB c.vars,c.has,cv c.res,Nu c.is⟩
theorem FY (l:List Cd):cA.jL (ZT l)=l.map fy:=by
 unfold cA.jL ZT
 rw[aO,List.map_map];rfl
def aee (s:Sd):cA.SD:=⟨s.fn,cv s.ty⟩
theorem Ke (l:List Sd):cA.vm (bz l)=l.map aee:=by
 unfold cA.vm bz
 rw[aO,List.map_map];rfl
theorem AD (l:List Vd):cA.x0 (bT l)=l.map λv=>⟨v.nm,cv v.ty⟩:=by
 unfold cA.x0 bT
 rw[aO,List.map_map];rfl
theorem CE (l:List (List UInt8×List Vd)):cA.oJ (ZU l)=l.map λs=>⟨s.1,bT s.2⟩:=by
 unfold cA.oJ ZU
 rw[aO,List.map_map];rfl
variable {H:Hd}{vs:List T3}{t:T3}{a:Int}
theorem oh (h:mB vs t a):cA.iy (vs.map cv) a=cv t:=by
 obtain⟨k,rfl,hk⟩:=h
 unfold cA.iy
 rw[if_pos (by omega),Int.toNat_natCast,List.getD_eq_getElem?_getD,List.getElem?_map,hk];rfl
theorem Sc (h:BT t):cv t≠cA.T0:=by
 intro e
 have:t.b=0:=congrArg cA.T3.b e
 have:=h.1
 omega
theorem ku (h:mB vs t a)(hb:BT t):cA.kT (vs.map cv) (cv t) [a]=true:=by
 unfold cA.kT
 simp[oh h,Sc hb]
theorem ZV {b:Int}(h:mB vs t a)(h2:mB vs t b)(hb:BT t):cA.kT (vs.map cv) (cv t) [a,b]=true:=by
 unfold cA.kT
 simp[oh h,oh h2,Sc hb]
theorem aef {b c:Int}(h:mB vs t a)(h2:mB vs t b)(h3:mB vs t c)(hb:BT t):cA.kT (vs.map cv) (cv t) [a,b,c]=true:=by
 unfold cA.kT
 simp[oh h,oh h2,oh h3,Sc hb]
theorem bI:BT tI:=⟨by decide,by decide⟩
theorem bB:BT tB:=⟨by decide,by decide⟩
theorem Se {m:∀t∈vs,MT H t}(h:mB vs t a):BT t:=by
 obtain⟨k,_,hk⟩:=h
 exact(m t (mem_of hk)).bt
theorem kz {α:Type}(l:List α)(k:Nat):fF.gH l (k:Int)=l[k]?:=by
 unfold fF.gH
 rw[if_pos (by omega),Int.toNat_natCast]
theorem dIt (i:In):dI (FX.vE i).args=i.args:=FX.Sb i.args
theorem Vx {p q r s:Bool}{i:In}(h1:p=true\/i.a=0)(h2:q=true\/i.b=0)(h3:r=true\/i.c=0)(h4:s=true\/i.n=0)(h5:i.op=13\/i.args=[]):fF.rB p q r s (FX.vE i)=true:=by
 unfold fF.rB
 rw[dIt]
 simp only[Bool.and_eq_true,Bool.or_eq_true,decide_eq_true_eq]
 exact⟨⟨⟨⟨h1,h2⟩,h3⟩,h4⟩,h5.imp id λh=>by rw[h];rfl⟩
theorem fM {p q r s:Bool}{i:In}(e:fF.CB (FX.vE i)=fF.rB p q r s (FX.vE i))(h1:p=true\/i.a=0)(h2:q=true\/i.b=0)(h3:r=true\/i.c=0)(h4:s=true\/i.n=0)(h5:i.op=13\/i.args=[]):fF.CB (FX.vE i)=true:=e.trans (Vx h1 h2 h3 h4 h5)
theorem IC {m:∀t∈vs,MT H t}:∀{ps:List Vd}{l:List Int}{gs:List T3},sL vs ps l->Cq ps gs->(l.zip (gs.map cv)).all (λp=>cA.kT (vs.map cv) p.2 [p.1])=true\/l.length > ps.length
 |[],[],gs,_,_=>.inl (by simp)
 |p::ps,a::l,gs,h,hp=>by
  obtain⟨h1,h2⟩:=h
  have h0:=hp 0 p rfl
  match gs,h0 with
  |g::gs,h0=>
   simp only[List.getElem?_cons_zero,Option.some.injEq]at h0
   subst h0
   rcases IC (m:=m) (gs:=gs) h2 (λk v hk=>by have:=hp (k+1) v (by simpa using hk);simpa using this) with q|q
   ·left
    simp only[List.map_cons,List.zip_cons_cons,List.all_cons,q,Bool.and_true]
    exact ku h1 (Se (m:=m) h1)
   ·right;simp;omega
 |[],_::_,_,h,_=>h.elim
 |_::_,[],_,h,_=>h.elim
theorem IE:∀{ps:List Vd}{l:List Int},sL vs ps l->l.length=ps.length
 |[],[],_=>rfl
 |_::_,_::_,h=>by simp[IE h.2]
 |[],_::_,h=>h.elim
 |_::_,[],h=>h.elim
theorem LN {ps:List Vd}{gs:List T3}(h:Cq ps gs):ps.length<=gs.length:=by
 refine Nat.le_of_not_lt λq=>?_
 have:=h gs.length ps[gs.length] (List.getElem?_eq_getElem q)
 rw[List.getElem?_eq_none (Nat.le_refl _)]at this
 cases this
theorem Sf {rs:List cA.RD}{vars:List cA.T3}{a r k v:Int}{rd:cA.RD}{fd:cA.FD}(e1:cA.iy vars a=⟨3,r,0⟩)(e2:fF.gH rs r=some rd)(e3:fF.gH (cA.x0 rd.fields) k=some fd)(e4:cA.kT vars fd.t [v]=true):fF.Iw rs vars a k v=true:=by
 unfold fF.Iw
 rw[e1]
 simp[e2,e3,e4]
theorem ZW {l:List cA.CD}{vs:List cA.T3}{i:cA.ID}{g:cA.CD}(e1:fF.gH l i.c=some g)(e2:fF.Vt vs i g=true):fF.Nm l vs i=true:=by
 unfold fF.Nm
 rw[e1];exact e2
variable {f:Nat}{s:Sg}{ss:List Sd}{c:Cd}{cs:List Cd}{main:Int}{i:In}
theorem Kf (_hF:Hd.Ct H)(hm:∀t∈c.vars,MT H t)(mI:∀(j:Nat)(s:Sg),H.sigs[j]?=some s->∃g,cs[j]?=some g/\g.params=s.ps.length/\g.has=s.has/\g.res=s.res/\Cq s.ps g.vars)
  (hc:cs[f]?=some c) (hs:c.has=s.has) (hr:c.res=s.res) (_hsm:s∈H.sigs) (iQ:c.is≠[]) (h:sI H f s.has s.res c.vars ss (c.is.length-1) i):fF.stepT (Dg H main cs ss) f (FX.vE i)=true:=by
 have hle:c.is.length-1<c.is.length:=by have:=List.length_pos_iff.2 iQ;omega
 unfold fF.stepT
 rw[show (Dg H main cs ss).aR=ZT cs from rfl,FY,kz,List.getElem?_map,hc]
 simp only[Option.map_some]
 rw[Bool.and_eq_true]
 have hv:cA.dg (fy c).vars=c.vars.map cv:=wM c.vars
 have hn:cA.mF (fy c).ins=c.is.map FX.vE:=AB c.is
 have b:∀{t a},mB c.vars t a->BT t:=λh=>Se (m:=hm) h
 have plc:∀n:Nat,n<=c.is.length-1->fF.FQ (fy c) (n:Int)=true:=λn hq=>by
  unfold fF.FQ
  rw[hn,Bool.and_eq_true,decide_eq_true_eq,decide_eq_true_eq,List.length_map];omega
 have IF:(FX.vE i).op ≥ 13->fF.RZ (Dg H main cs ss) (fy c) (FX.vE i)=true->fF.Ix (Dg H main cs ss) (f:Int) (fy c) (FX.vE i)=true:=λTn hg=>by
  unfold fF.Ix
  rw[if_neg (by omega),if_neg (by omega),if_neg (by omega),if_neg (by omega),if_neg (by omega),if_neg (by omega),if_neg (by omega),if_neg (by omega),if_neg (by omega),if_neg (by omega),if_neg (by omega),if_neg (by omega)]
  exact hg
 cases h with
 |c1 h1=>
  refine⟨fM (p:=true) (q:=false) (r:=false) (s:=true) rfl (.inl rfl) (.inr rfl) (.inr rfl) (.inl rfl) (.inr rfl),?_⟩
  rename_i a n
  show (cA.kT (cA.dg (fy c).vars) (cv tI) [a]||_)=true
  rw[hv,ku h1 bI];rfl
 |c1b h1 h2=>
  refine⟨fM (p:=true) (q:=false) (r:=false) (s:=true) rfl (.inl rfl) (.inr rfl) (.inr rfl) (.inl rfl) (.inr rfl),?_⟩
  rename_i a n
  show (_||cA.kT (cA.dg (fy c).vars) (cv tB) [a]&&(decide (n=0)||decide (n=1)))=true
  rw[hv,ku h1 bB,Bool.or_eq_true]
  right
  simpa using h2
 |c2 h1 h2=>
  refine⟨fM (p:=true) (q:=false) (r:=false) (s:=false) rfl (.inl rfl) (.inr rfl) (.inr rfl) (.inr rfl) (.inr rfl),?_⟩
  rename_i a t
  show fF.kX (cA.iy (cA.dg (fy c).vars) a)=true
  rw[hv,oh h1];exact h2
 |c3 h1 h2=>
  refine⟨fM (p:=true) (q:=true) (r:=false) (s:=false) rfl (.inl rfl) (.inl rfl) (.inr rfl) (.inr rfl) (.inr rfl),?_⟩
  rename_i a b' t
  show cA.kT (cA.dg (fy c).vars) (cA.iy (cA.dg (fy c).vars) a) [b']=true
  rw[hv,oh h1];exact ku h2 (b h2)
 |c4 h1 h2 h3 h4 h5=>
  rename_i a b' c' k ta tb t r
  refine⟨fM (p:=true) (q:=true) (r:=true) (s:=true) rfl (.inl rfl) (.inl rfl) (.inl rfl) (.inl rfl) (.inr rfl),?_⟩
  show fF.ue (cA.dg (fy c).vars) (FX.vE ⟨4,a,b',c',k,[]⟩)=true
  rw[hv]
  unfold fF.ue
  unfold mV.ue at h3
  show (if k=14\/k=15\/k=16\/k=17\/k=18 then cA.kT _ (cv tI) [a,b',c'] else if k=19\/k=20 then cA.kT _ (cv tB) [a]&&cA.kT _ (cv tI) [b',c'] else if k=21\/k=22 then cA.kT _ (cv tB) [a]&&cA.kT _ (cA.iy _ b') [c'] else if k=23\/k=24 then cA.kT _ (cv tB) [a,b',c'] else false)=true
  by_cases k1:k=14\/k=15\/k=16\/k=17\/k=18
  ·rw[if_pos k1]at h3 ⊢
   obtain⟨q1,rfl,_⟩:=b6 h3
   rw[Bool.and_eq_true,decide_eq_true_eq,decide_eq_true_eq]at q1
   obtain⟨rfl,rfl⟩:=q1
   exact aef h5 h1 h2 bI
  rw[if_neg k1]at h3 ⊢
  by_cases k2:k=19\/k=20
  ·rw[if_pos k2]at h3 ⊢
   obtain⟨q1,rfl,_⟩:=b6 h3
   rw[Bool.and_eq_true,decide_eq_true_eq,decide_eq_true_eq]at q1
   obtain⟨rfl,rfl⟩:=q1
   rw[ku h5 bB,ZV h1 h2 bI];rfl
  rw[if_neg k2]at h3 ⊢
  by_cases k3:k=21\/k=22
  ·rw[if_pos k3]at h3 ⊢
   obtain⟨q1,rfl,_⟩:=b6 h3
   rw[decide_eq_true_eq]at q1
   subst q1
   rw[ku h5 bB,oh h1,ku h2 (b h2)];rfl
  rw[if_neg k3]at h3 ⊢
  rw[if_pos (by omega)]
  obtain⟨q1,rfl,_⟩:=b6 h3
  rw[Bool.and_eq_true,decide_eq_true_eq,decide_eq_true_eq]at q1
  obtain⟨rfl,rfl⟩:=q1
  exact aef h5 h1 h2 bB
 |c5i h1 h2=>
  refine⟨fM (p:=true) (q:=true) (r:=false) (s:=true) rfl (.inl rfl) (.inl rfl) (.inr rfl) (.inl rfl) (.inr rfl),?_⟩
  rename_i a b'
  show (decide ((12:Int)=12)&&cA.kT (cA.dg (fy c).vars) (cv tI) [a,b']||_)=true
  rw[hv,ZV h1 h2 bI];rfl
 |c5b h1 h2=>
  refine⟨fM (p:=true) (q:=true) (r:=false) (s:=true) rfl (.inl rfl) (.inl rfl) (.inr rfl) (.inl rfl) (.inr rfl),?_⟩
  rename_i a b'
  show (decide ((13:Int)=12)&&cA.kT (cA.dg (fy c).vars) (cv tI) [a,b']||decide ((13:Int)=13)&&cA.kT (cA.dg (fy c).vars) (cv tB) [a,b'])=true
  rw[hv,ZV h1 h2 bB];rfl
 |c6 h1 h2 h3 h4=>
  rename_i a b' r j sh v
  refine⟨fM (p:=true) (q:=true) (r:=true) (s:=false) rfl (.inl rfl) (.inl rfl) (.inl rfl) (.inr rfl) (.inr rfl),?_⟩
  show fF.Iw (cA.oJ (ZU H.bQ)) (cA.dg (fy c).vars) b' j a=true
  rw[hv,CE]
  refine Sf (rd:=⟨sh.1,bT sh.2⟩) (fd:=⟨v.nm,cv v.ty⟩) (oh h1) ?_ ?_ (ku h4 (b h4))
  ·show fF.gH _ (r:Int)=_
   rw[kz,List.getElem?_map,h2];rfl
  ·show fF.gH (cA.x0 (bT sh.2)) (j:Int)=_
   rw[AD,kz,List.getElem?_map,h3];rfl
 |c7 h1 h2 h3 h4=>
  rename_i a b' r j sh v
  refine⟨fM (p:=true) (q:=true) (r:=true) (s:=false) rfl (.inl rfl) (.inl rfl) (.inl rfl) (.inr rfl) (.inr rfl),?_⟩
  show fF.Iw (cA.oJ (ZU H.bQ)) (cA.dg (fy c).vars) a j b'=true
  rw[hv,CE]
  refine Sf (rd:=⟨sh.1,bT sh.2⟩) (fd:=⟨v.nm,cv v.ty⟩) (oh h1) ?_ ?_ (ku h4 (b h4))
  ·show fF.gH _ (r:Int)=_
   rw[kz,List.getElem?_map,h2];rfl
  ·show fF.gH (cA.x0 (bT sh.2)) (j:Int)=_
   rw[AD,kz,List.getElem?_map,h3];rfl
 |c8 h1 h2 h3 h4=>
  rename_i a b' c' t
  refine⟨fM (p:=true) (q:=true) (r:=true) (s:=false) rfl (.inl rfl) (.inl rfl) (.inl rfl) (.inr rfl) (.inr rfl),?_⟩
  show (fF.Iu (cA.dg (fy c).vars) b' a&&cA.kT (cA.dg (fy c).vars) (cv tI) [c'])=true
  unfold fF.Iu
  rw[hv,oh h1,ku h4 bI]
  show (decide (0<t.d)&&cA.kT _ (cv ⟨t.b,t.r,t.d-1⟩) [a]&&true)=true
  rw[ku h3 (b h3)]
  simpa using h2
 |c9 h1 h2 h3 h4=>
  rename_i a b' c' t
  refine⟨fM (p:=true) (q:=true) (r:=true) (s:=false) rfl (.inl rfl) (.inl rfl) (.inl rfl) (.inr rfl) (.inr rfl),?_⟩
  show (fF.Iu (cA.dg (fy c).vars) a c'&&cA.kT (cA.dg (fy c).vars) (cv tI) [b'])=true
  unfold fF.Iu
  rw[hv,oh h1,ku h4 bI]
  show (decide (0<t.d)&&cA.kT _ (cv ⟨t.b,t.r,t.d-1⟩) [c']&&true)=true
  rw[ku h3 (b h3)]
  simpa using h2
 |zx h1 h2 h3=>
  rename_i a b' t
  refine⟨fM (p:=true) (q:=true) (r:=false) (s:=false) rfl (.inl rfl) (.inl rfl) (.inr rfl) (.inr rfl) (.inr rfl),?_⟩
  show (cA.kT (cA.dg (fy c).vars) (cv tI) [a]&&decide (0<(cA.iy (cA.dg (fy c).vars) b').d))=true
  rw[hv,ku h1 bI,oh h2]
  exact decide_eq_true h3
 |Ll h1 h2 h3 h4=>
  rename_i a n t
  refine⟨fM (p:=true) (q:=false) (r:=false) (s:=true) rfl (.inl rfl) (.inr rfl) (.inr rfl) (.inl rfl) (.inr rfl),?_⟩
  show (decide ((cA.iy (cA.dg (fy c).vars) a).b=3)&&decide ((cA.iy (cA.dg (fy c).vars) a).d=0)&&fF.Iv (cA.vm (bz ss)) f (cA.dg (fy c).vars) n a)=true
  unfold fF.Iv
  rw[hv,oh h1,Ke,kz,List.getElem?_map,h4]
  simp only[Option.map_some]
  show (decide (t.b=3)&&decide (t.d=0)&&(decide (((f:Nat):Int)=f)&&cA.kT _ (cv t) [a]))=true
  rw[h2,h3,ku h1 (b h1)]
  simp
 |zU h1 h2 h3 h4=>
  rename_i a b' n t
  refine⟨fM (p:=true) (q:=true) (r:=false) (s:=true) rfl (.inl rfl) (.inl rfl) (.inr rfl) (.inl rfl) (.inr rfl),?_⟩
  show (decide (0<(cA.iy (cA.dg (fy c).vars) a).d)&&fF.Iv (cA.vm (bz ss)) f (cA.dg (fy c).vars) n a&&cA.kT (cA.dg (fy c).vars) (cv tI) [b'])=true
  unfold fF.Iv
  rw[hv,oh h1,Ke,kz,List.getElem?_map,h3,ku h4 bI]
  simp only[Option.map_some]
  show (decide (0<t.d)&&(decide (((f:Nat):Int)=f)&&cA.kT _ (cv t) [a])&&true)=true
  rw[ku h1 (b h1)]
  simpa using h2
 |CN h1 h2 h3=>
  rename_i a j s' l
  refine⟨fM (p:=true) (q:=false) (r:=true) (s:=false) rfl (.inl rfl) (.inr rfl) (.inl rfl) (.inr rfl) (.inl rfl),IF (by show (13:Int) ≥ 13;decide) ?_⟩
  obtain⟨g,g1,g2,g3,g4,g5⟩:=mI j s' h1
  show fF.Nm (cA.jL (ZT cs)) (cA.dg (fy c).vars) _=true
  refine ZW (g:=fy g) ?_ ?_
  ·show fF.gH (cA.jL (ZT cs)) (j:Int)=_
   rw[FY,kz,List.getElem?_map,g1];rfl
  unfold fF.Vt
  have Zc:cA.dg (fy g).vars=g.vars.map cv:=wM g.vars
  have hl:=IE h2
  have hz:=(IC (m:=hm) h2 g5).resolve_right (by omega)
  have LX:=LN g5
  rw[hv,Zc]
  have hdi:dI (FX.vE ⟨13,a,0,j,0,l⟩).args=l:=FX.Sb l
  rw[hdi,hz]
  have e1:((fy g).params:Int)=s'.ps.length:=by show ((g.params:Nat):Int)=_;rw[g2]
  rw[e1,List.length_map]
  have e2:(decide (a = -1)||(fy g).has&&cA.kT (c.vars.map cv) (fy g).res [a])=true:=by
   rcases h3 with q|⟨q1,q2⟩
   ·rw[q];rfl
   ·rw[Bool.or_eq_true]
    right
    show (g.has&&cA.kT _ (cv g.res) [a])=true
    rw[g3,q1,g4,ku q2 (b q2)];rfl
  have e3:(FX.vE ⟨13,a,0,j,0,l⟩).a=a:=rfl
  rw[e3,e2]
  simp only[Bool.and_true,Bool.and_eq_true,decide_eq_true_eq]
  exact⟨by omega,by omega⟩
 |c14 h1=>
  refine⟨fM (p:=true) (q:=false) (r:=false) (s:=false) rfl (.inl rfl) (.inr rfl) (.inr rfl) (.inr rfl) (.inr rfl),IF (by show (14:Int) ≥ 13;decide) ?_⟩
  rename_i a
  show cA.kT (cA.dg (fy c).vars) (cv tI) [a]=true
  rw[hv];exact ku h1 bI
 |c15 h1=>
  refine⟨fM (p:=true) (q:=false) (r:=false) (s:=false) rfl (.inl rfl) (.inr rfl) (.inr rfl) (.inr rfl) (.inr rfl),IF (by show (15:Int) ≥ 13;decide) ?_⟩
  rename_i a
  show cA.kT (cA.dg (fy c).vars) (cv tI) [a]=true
  rw[hv];exact ku h1 bI
 |c16 h1=>
  refine⟨fM (p:=false) (q:=false) (r:=false) (s:=true) rfl (.inr rfl) (.inr rfl) (.inr rfl) (.inl rfl) (.inr rfl),IF (by show (16:Int) ≥ 13;decide) ?_⟩
  rename_i n
  show fF.FQ (fy c) (n:Int)=true
  exact plc _ h1
 |c17 h1 h2 h3=>
  refine⟨fM (p:=true) (q:=false) (r:=true) (s:=true) rfl (.inl rfl) (.inr rfl) (.inl rfl) (.inl rfl) (.inr rfl),IF (by show (17:Int) ≥ 13;decide) ?_⟩
  rename_i a n c'
  show (cA.kT (cA.dg (fy c).vars) (cv tB) [a]&&fF.FQ (fy c) (n:Int)&&fF.FQ (fy c) (c':Int))=true
  rw[hv,ku h1 bB,plc _ h2,plc _ h3];rfl
 |Zf h1=>
  refine⟨fM (p:=true) (q:=false) (r:=false) (s:=false) rfl (.inl rfl) (.inr rfl) (.inr rfl) (.inr rfl) (.inr rfl),IF (by show (18:Int) ≥ 13;decide) ?_⟩
  rename_i a
  show (if c.has=true then cA.kT (cA.dg (fy c).vars) (cv c.res) [a] else decide (a = -1))=true
  rw[hv,hs,hr]
  cases hh:s.has with
  |true=>
   rw[hh]at h1
   rw[if_pos rfl]at h1 ⊢
   exact ku h1 (b h1)
  |false=>
   rw[hh]at h1
   rw[if_neg (by simp)]at h1 ⊢
   exact decide_eq_true h1
 |c19 h1 h2=>
  rename_i a j v
  refine⟨fM (p:=true) (q:=false) (r:=false) (s:=true) rfl (.inl rfl) (.inr rfl) (.inr rfl) (.inl rfl) (.inr rfl),IF (by show (19:Int) ≥ 13;decide) ?_⟩
  show fF.J9 (cA.dg (SB (H.globals.map (·.ty)))) (cA.dg (fy c).vars) j a=true
  unfold fF.J9
  rw[hv,wM,kz,List.map_map,List.getElem?_map,h1]
  simp only[Option.map_some]
  exact ku h2 (b h2)
 |c20 h1 h2=>
  rename_i a j v
  refine⟨fM (p:=true) (q:=false) (r:=false) (s:=true) rfl (.inl rfl) (.inr rfl) (.inr rfl) (.inl rfl) (.inr rfl),IF (by show (20:Int) ≥ 13;decide) ?_⟩
  show fF.J9 (cA.dg (SB (H.globals.map (·.ty)))) (cA.dg (fy c).vars) j a=true
  unfold fF.J9
  rw[hv,wM,kz,List.map_map,List.getElem?_map,h1]
  simp only[Option.map_some]
  exact ku h2 (b h2)
end IB
namespace IB
open Ax Go V7 lP mV vC
variable {H:Hd}{ss:List Sd}{cs:List Cd}{main:Int}{all:Nat}
theorem x4 {t:T3}(hF:Hd.Ct H)(h:MT H t):fF.oL (fF.nr (Dg H main cs ss)) (cv t)=true:=by
 have hn:fF.nr (Dg H main cs ss)=H.rs.length:=by
  show (cA.oJ (ZU H.bQ)).length=_
  rw[CE,List.length_map,hF.ok.rs]
 rw[hn]
 obtain⟨⟨h1,h2,h3⟩,⟨h4,h5⟩,h6⟩:=h
 unfold fF.oL
 show (decide (¬t.d<0)&&decide (¬3<t.d)&&if t.b=1\/t.b=2 then decide (t.r=0) else decide (t.b=3)&&decide (0<=t.r)&&decide (t.r<H.rs.length))=true
 rw[decide_eq_true (by omega:¬t.d<0),decide_eq_true (by omega:¬3<t.d)]
 by_cases q:t.b=3
 ·obtain⟨q1,q2⟩:=h3 q
  rw[if_neg (by omega),decide_eq_true q,decide_eq_true q1,decide_eq_true q2];rfl
 ·rw[if_pos (by omega),decide_eq_true (h6 q)];rfl
theorem Kg (hF:Hd.Ct H)(hM:Made H cs ss all)(hl:cs.length=H.sigs.length){j:Nat}{c:Cd}(hc:cs[j]?=some c):fF.Iz (Dg H main cs ss) j (fy c)=true:=by
 obtain⟨s,hs,hg⟩:=hM.code j c hc
 have nU:=mem_of hs
 have iQ:c.is≠[]:=by
  obtain⟨i,hi,_⟩:=hg.last
  intro q;rw[q]at hi;cases hi
 have mI:∀(j:Nat) (s:Sg),H.sigs[j]?=some s->∃g,cs[j]?=some g/\g.params=s.ps.length/\g.has=s.has/\g.res=s.res/\Cq s.ps g.vars:=λj s hs=>by
  have hj:j<cs.length:=by rw[hl];exact(List.getElem?_eq_some_iff.1 hs).1
  obtain⟨s',h1,h2⟩:=hM.code j cs[j] (List.getElem?_eq_getElem hj)
  rw[hs]at h1
  cases h1
  exact⟨cs[j],List.getElem?_eq_getElem hj,h2.params,h2.has,h2.res,h2.pre⟩
 have hv:cA.dg (fy c).vars=c.vars.map cv:=wM c.vars
 have hn:cA.mF (fy c).ins=c.is.map FX.vE:=AB c.is
 have hp:=hF.pn s nU
 have LX:=LN hg.pre
 have hnv:=hg.nv
 have ND:=List.length_pos_iff.2 iQ
 unfold fF.Iz
 rw[hv,hn]
 simp only[Bool.and_eq_true,decide_eq_true_eq,List.length_map]
 have e1:(fy c).params=((s.ps.length:Nat):Int):=by show ((c.params:Nat):Int)=_;rw[hg.params]
 rw[e1]
 refine⟨⟨⟨⟨⟨⟨⟨⟨by omega,by omega⟩,by omega⟩,by omega⟩,by omega⟩,?_⟩,?_⟩,?_⟩,?_⟩
 ·rw[List.all_map,List.all_eq_true]
  exact λt ht=>x4 hF (hg.vt t ht)
 ·show (if c.has=true then fF.oL _ (cv c.res) else fF.fq (cv c.res) ⟨0,0,0⟩)=true
  rw[hg.has,hg.res]
  cases hh:s.has with
  |true=>rw[if_pos rfl];exact x4 hF (hF.yes s nU hh)
  |false=>rw[if_neg (by simp),hF.no s nU hh];rfl
 ·rw[List.all_map,List.all_eq_true]
  exact λi hi=>Kf hF hg.vt mI hc hg.has hg.res nU iQ (hg.fit i hi)
 ·obtain⟨i,h1,h2⟩:=hg.last
  unfold fF.Iy
  rw[List.getLast?_map,h1]
  show (decide (i.op=16)||decide (i.op=17)||decide (i.op=18))=true
  rw[h2];rfl
theorem x5 (hF:Hd.Ct H)(hM:Made H cs ss all)(hl:cs.length=H.sigs.length):∀(l pre:List Cd),cs=pre++l->fF.yN (Dg H main cs ss) (l.map fy) pre.length ((pre.map (·.is.length)).sum:Nat)=true
 |[],_,_=>rfl
 |c::l,pre,e=>by
  have hc:cs[pre.length]?=some c:=by rw[e,List.getElem?_append_right (Nat.le_refl _)];simp
  have hn:cA.mF (fy c).ins=c.is.map FX.vE:=AB c.is
  have EC:(pre.map (·.is.length)).sum+c.is.length<=2500:=by
   have h1:=hM.sum
   have h2:=hM.Wj
   rw[e]at h1
   simp at h1
   omega
  show (decide (¬2500<(((pre.map (·.is.length)).sum:Nat):Int)+((cA.mF (fy c).ins).length:Int))&&fF.Iz _ (pre.length:Int) (fy c)&&fF.yN _ (l.map fy) ((pre.length:Int)+1) ((((pre.map (·.is.length)).sum:Nat):Int)+((cA.mF (fy c).ins).length:Int)))=true
  rw[hn,List.length_map,decide_eq_true (by omega),Kg hF hM hl hc]
  have ih:=x5 hF hM hl l (pre++[c]) (by rw[e];simp)
  have e2:((pre++[c]).length:Int)=(pre.length:Int)+1:=by simp
  have e3:((((pre++[c]).map (·.is.length)).sum:Nat):Int)=(((pre.map (·.is.length)).sum:Nat):Int)+(c.is.length:Int):=by simp
  rw[e2,e3]at ih
  rw[ih];rfl
theorem Kh (hF:Hd.Ct H)(hM:Made H cs ss all)(hl:cs.length=H.sigs.length){k:Nat}{s:Sg}(hk:main=k)(hs:H.sigs[k]?=some s)(hp:s.ps=[])(hh:s.has=false):fF.FU (Dg H main cs ss)=true:=by
 have s8:=(List.getElem?_eq_some_iff.1 hs).1
 have Sy:k<cs.length:=by omega
 obtain⟨s',h1,hg⟩:=hM.code k cs[k] (List.getElem?_eq_getElem Sy)
 rw[hs]at h1
 cases h1
 unfold fF.FU
 have r1:cA.oJ (Dg H main cs ss).aQ=H.bQ.map λs=>⟨s.1,bT s.2⟩:=CE _
 have r2:cA.dg (Dg H main cs ss).globals=(H.globals.map (·.ty)).map cv:=wM _
 have r3:cA.jL (Dg H main cs ss).aR=cs.map fy:=FY _
 have r4:cA.vm (Dg H main cs ss).sites=ss.map aee:=Ke _
 have hn1:=hF.nr
 have hn2:=hF.ng
 have hn3:=hF.nf
 have hn4:=hM.ns
 rw[r1,r2,r3,r4]
 have Rr:fF.gH (cs.map fy) (Dg H main cs ss).main=some (fy cs[k]):=by
  show fF.gH (cs.map fy) main=_
  rw[hk,kz,List.getElem?_map,List.getElem?_eq_getElem Sy];rfl
 have Sp:(decide ((fy cs[k]).params=0) && !(fy cs[k]).has)=true:=by
  show (decide (((cs[k].params:Nat):Int)=0) && !cs[k].has)=true
  rw[hg.params,hg.has,hp,hh];rfl
 rw[Rr]
 simp only[Bool.and_eq_true,decide_eq_true_eq,List.length_map]at Sp ⊢
 refine⟨⟨⟨⟨⟨⟨⟨⟨⟨by omega,by omega⟩,?_⟩,by omega⟩,by omega⟩,Sp⟩,?_⟩,?_⟩,?_⟩,?_⟩
 ·intro q
  have:=congrArg List.length q
  simp at this
  rw[this]at Sy
  exact absurd Sy (by simp)
 ·rw[List.all_map,List.all_eq_true]
  intro sh hsh
  show fF.Df _ ⟨sh.1,bT sh.2⟩=true
  unfold fF.Df
  rw[AD,List.length_map,Bool.and_eq_true,decide_eq_true_eq]
  have:=hF.bQ sh hsh
  refine⟨by omega,?_⟩
  rw[List.all_map,List.all_eq_true]
  exact λv hv=>x4 hF ⟨hF.ok.bQ sh hsh v hv,hF.gd.bQ sh hsh v hv,hF.rt.bQ sh hsh v hv⟩
 ·rw[List.all_map,List.all_map,List.all_eq_true]
  exact λv hv=>x4 hF ⟨hF.ok.globals v hv,hF.gd.globals v hv,hF.rt.globals v hv⟩
 ·rw[List.all_map,List.all_eq_true]
  intro sd hsd
  obtain⟨a,b,c⟩:=hM.site sd hsd
  show (fF.oL _ (cv sd.ty)&&fF.kX (cv sd.ty)&&decide (¬((sd.fn:Nat):Int)<0)&&decide (((sd.fn:Nat):Int)<(cs.length:Nat)))=true
  rw[x4 hF a,show fF.kX (cv sd.ty)=true from b,decide_eq_true (by omega),decide_eq_true (by omega)];rfl
 ·have:=x5 (main:=main) hF hM hl cs [] rfl
  exact this
end IB
namespace IB
open Ax Go V7 lP mV vC
variable {H:Hd}{cs:List Cd}{ss:List Sd}{all:Nat}{main:Int}
theorem vn {sz:Nat}{p:List AV->Bool}{l:List (List AV)}(hf:∀r∈l,r.length=sz)(hp:∀r∈l,p r=true):cA.eJ sz p (aD sz l)=true:=by
 unfold cA.eJ
 rw[aO]
 have h1:cA.gp (aD sz l)=true:=by cases l<;>rfl
 have h2:cD sz (aD sz l)=true:=by
  cases l with
  |nil=>rfl
  |cons a l=>simp only[MF,iJ,beq_self_eq_true,Bool.true_and,fits,List.all_eq_true,beq_iff_eq];exact hf
 rw[h1,h2,List.all_eq_true.2 hp];rfl
theorem IG {a:Int}(h : -1000000<=a)(h2:a<=1000000):cA.nG a=true:=by simp only[cA.nG,Bool.and_eq_true,decide_eq_true_eq];omega
theorem LO {t:T3}(hn:H.rs.length<=100)(h:MT H t):cA.nG t.b=true/\cA.nG t.r=true/\cA.nG t.d=true:=by
 obtain⟨⟨a,b,c⟩,⟨d,e⟩,f⟩:=h
 refine⟨IG (by omega) (by omega),?_,IG (by omega) (by omega)⟩
 by_cases q:t.b=3
 ·have:=c q;exact IG (by omega) (by omega)
 ·rw[f q];decide
theorem WH (hn:H.rs.length<=100){l:List T3}(h:∀t∈l,MT H t):cA.qZ (SB l)=true:=by
 refine vn (λr hr=>?_) λr hr=>?_
 ·obtain⟨t,ht,rfl⟩:=List.mem_map.1 hr;rfl
 ·obtain⟨t,ht,rfl⟩:=List.mem_map.1 hr
  obtain⟨a,b,c⟩:=LO hn (h t ht)
  show (cA.nG t.b&&cA.nG t.r&&cA.nG t.d)=true
  rw[a,b,c];rfl
theorem aeg (hn:H.rs.length<=100){l:List Vd}(h:∀v∈l,MT H v.ty):cA.J8 (bT l)=true:=by
 refine vn (λr hr=>?_) λr hr=>?_
 ·obtain⟨t,ht,rfl⟩:=List.mem_map.1 hr;rfl
 ·obtain⟨t,ht,rfl⟩:=List.mem_map.1 hr
  obtain⟨a,b,c⟩:=LO hn (h t ht)
  show (cA.nG t.ty.b&&cA.nG t.ty.r&&cA.nG t.ty.d)=true
  rw[a,b,c];rfl
theorem Vy (l:List Int):th (kR l)=true/\cA.gp (kR l)=true:=by
 refine⟨?_,by cases l<;>rfl⟩
 unfold th kR
 rw[aO]
 have:cD 1 (aD 1 (ints l))=true:=by
  cases l with
  |nil=>rfl
  |cons a l=>simp[ints,fits]
 rw[this]
 simp[ints]
theorem aeh (l:List In):cA.zY (Nu l)=true:=by
 refine vn (λr hr=>?_) λr hr=>?_
 ·obtain⟨t,ht,rfl⟩:=List.mem_map.1 hr;rfl
 ·obtain⟨t,ht,rfl⟩:=List.mem_map.1 hr
  obtain⟨a,b⟩:=Vy t.args
  show (cA.gp (kR t.args)&&th (kR t.args))=true
  rw[a,b];rfl
theorem Sh {α:Type}{l:List α}{x:α}(h:x∈l):∃k:Nat,l[k]?=some x:=by
 obtain⟨k,hk,rfl⟩:=List.getElem_of_mem h
 exact⟨k,List.getElem?_eq_getElem hk⟩
theorem aiP (hF:Hd.Ct H)(hM:Made H cs ss all)(hl:cs.length=H.sigs.length):(Dg H main cs ss).ok:=by
 have hn:H.rs.length<=100:=by have:=hF.ok.rs;have:=hF.nr;omega
 have hc:cs.length<=100:=by have:=hF.nf;omega
 refine⟨?_,WH hn λt ht=>?_,?_,?_⟩
 ·refine vn (λr hr=>?_) λr hr=>?_
  ·obtain⟨t,ht,rfl⟩:=List.mem_map.1 hr;rfl
  ·obtain⟨s,hs,rfl⟩:=List.mem_map.1 hr
   exact aeg hn λv hv=>⟨hF.ok.bQ s hs v hv,hF.gd.bQ s hs v hv,hF.rt.bQ s hs v hv⟩
 ·obtain⟨v,hv,rfl⟩:=List.mem_map.1 ht
  exact⟨hF.ok.globals v hv,hF.gd.globals v hv,hF.rt.globals v hv⟩
 ·refine vn (λr hr=>?_) λr hr=>?_
  ·obtain⟨t,ht,rfl⟩:=List.mem_map.1 hr;rfl
  ·obtain⟨c,wv,rfl⟩:=List.mem_map.1 hr
   obtain⟨k,hk⟩:=Sh wv
   obtain⟨s,hs,hg⟩:=hM.code k c hk
   have nU:s∈H.sigs:=List.mem_of_getElem? hs
   have hp:=hF.pn s nU
   have hr3:cA.nG c.res.b=true/\cA.nG c.res.r=true/\cA.nG c.res.d=true:=by
    rw[hg.res]
    cases hh:s.has with
    |true=>exact LO hn (hF.yes s nU hh)
    |false=>rw[hF.no s nU hh];exact⟨rfl,rfl,rfl⟩
   obtain⟨a,b,d⟩:=hr3
   show (cA.nG ((c.params:Nat):Int)&&cA.nG c.res.b&&cA.nG c.res.r&&cA.nG c.res.d&&cA.qZ (SB c.vars)&&cA.zY (Nu c.is))=true
   rw[a,b,d,WH hn hg.vt,aeh,IG (by omega) (by rw[hg.params];omega)];rfl
 ·refine vn (λr hr=>?_) λr hr=>?_
  ·obtain⟨t,ht,rfl⟩:=List.mem_map.1 hr;rfl
  ·obtain⟨s,hs,rfl⟩:=List.mem_map.1 hr
   obtain⟨h1,_,h3⟩:=hM.site s hs
   obtain⟨a,b,d⟩:=LO hn h1
   show (cA.nG ((s.fn:Nat):Int)&&cA.nG s.ty.b&&cA.nG s.ty.r&&cA.nG s.ty.d)=true
   rw[a,b,d,IG (by omega) (by omega)];rfl
theorem Si:∀{l:List Cd}{c:Cd},c∈l->c.is.length<=(l.map (·.is.length)).sum
 |[],_,h=>by cases h
 |a::l,c,h=>by
  rcases List.mem_cons.1 h with rfl|h
  ·simp
  ·have:=Si h;simp;omega
theorem Vz (hM:Made H cs ss all):(∀g∈cA.jL (Dg H main cs ss).aR,(cA.dg g.vars).length<1000000000)/\∀g∈cA.jL (Dg H main cs ss).aR,(cA.mF g.ins).length<1000000000:=by
 have r3:cA.jL (Dg H main cs ss).aR=cs.map fy:=FY _
 rw[r3]
 refine⟨λg hg=>?_,λg hg=>?_⟩
 ·obtain⟨c,hc,rfl⟩:=List.mem_map.1 hg
  obtain⟨k,hk⟩:=Sh hc
  obtain⟨s,hs,hgc⟩:=hM.code k c hk
  show (cA.dg (SB c.vars)).length<_
  rw[wM,List.length_map]
  have:=hgc.nv;omega
 ·obtain⟨c,hc,rfl⟩:=List.mem_map.1 hg
  show (cA.mF (Nu c.is)).length<_
  rw[AB,List.length_map]
  have:=Si hc
  have:=hM.sum;have:=hM.Wj;omega
end IB
