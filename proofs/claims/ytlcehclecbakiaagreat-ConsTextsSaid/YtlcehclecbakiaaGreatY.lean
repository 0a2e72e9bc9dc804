/- Part of a proof. -/
import Derived.Test.YtlcehclecbakiaaGreatH
import Derived.Test.YtlcehclecbakiaaGreatQ
import Derived.Test.YtlcehclecbakiaaGreatF

open List renaming length_map→abM,map_cons→abh,flatMap_cons→afk,length_append→aa6,getElem?_append_right→aaJ,getElem?_map→abt,getElem?_eq_some_iff→aab,mem_of_getElem?→aeP,mem_singleton→ady,mem_append→abI,mem_flatMap→aj2,take_length→aev,mem_map→aa5,take_succ_eq_append_getElem→abL,map_append→abT
open Nat renaming add_sub_cancel_left→acn
set_option maxRecDepth 100000
set_option maxHeartbeats 1000000
namespace Cns
open Ax Go V7 jw jX sZ xT
variable {H:Hd}{cs:List Cd}{ss:List Sd}{all:Nat}{main:Int}
def gy(cs:List Cd):List T3:=cs.flatMap (·.vars)
def TL(H:Hd)(cs:List Cd):List T3:=gy cs++(cs.map (·.res)++H.globals.map (·.ty))
def eX(TL:List T3)(ss:List Sd)(k a b f:Int):Prop:=∃(p q:Nat)(t:T3),a=p/\b=q/\TL[p]?=some t/\g9 t=true/\
 ((k=1/\∃s:Sd,ss[q]?=some s/\s.ty=t)\/(k=2/\TL[q]?=some t)\/((k=3\/k=4)/\(∃u,TL[q]?=some u/\g9 u=true)/\0<=f/\f<8))
theorem XI(c:Cd):cr.Ye (dX c)=c.vars.length:=by
 show (cJ.bJ (S6 c.vars)).length=_;rw[uc,abM]
theorem J5:∀l:List Cd,cr.fD (l.map dX)=(gy l).length
 |[]=>rfl|c::l=>by
  have h1:=XI c;have h2:=J5 l;simp only[cr.fD,abh,List.sum_cons,gy,afk,aa6]at h2 ⊢;rw[h1,h2]
theorem H7:cJ.bP (oT H main cs ss).codes=cs.map dX:=J1 cs
theorem XJ(k:Nat):cr.jG (oT H main cs ss) k=((gy (cs.take k)).length:Int):=by
 unfold cr.jG;rw[H7,<-List.map_take,J5]
theorem Mt:cr.fD (cJ.bP (oT H main cs ss).codes)=(gy cs).length:=by rw[H7,J5]
theorem Qq:(cJ.bP (oT H main cs ss).codes).length=cs.length:=by rw[H7,abM]
theorem Qr:∀{cs:List Cd}{k:Nat}{c:Cd}{a:Nat}{t:T3},cs[k]?=some c->c.vars[a]?=some t->(gy cs)[(gy (cs.take k)).length+a]?=some t
 |[],k,c,a,t,h,_=>by simp at h|d::cs,0,c,a,t,h,h2=>by
  simp only[List.getElem?_cons_zero,Option.some.injEq]at h;subst h;simp only[gy,List.take_zero,List.flatMap_nil,List.length_nil,Nat.zero_add,afk];exact pX h2
 |d::cs,k+1,c,a,t,h,h2=>by
  have ih:=Qr (cs:=cs) (by simpa using h) h2;simp only[gy,List.take_succ_cons,afk,aa6]at ih ⊢;rw[aaJ (by omega),show d.vars.length+((List.flatMap (λx=>x.vars) (List.take k cs))).length+a-d.vars.length=((List.flatMap (λx=>x.vars) (List.take k cs))).length+a by omega];exact ih
theorem XK{k:Nat}{c:Cd}{a:Nat}{t:T3}(h:cs[k]?=some c)(h2:c.vars[a]?=some t):(TL H cs)[(gy (cs.take k)).length+a]?=some t:=pX (Qr h h2)
theorem XL{k:Nat}{c:Cd}(h:cs[k]?=some c):(TL H cs)[(gy cs).length+k]?=some c.res:=by
 unfold TL;rw[aaJ (by omega),acn];exact pX (by rw[abt,h];rfl)
theorem Qs{j:Nat}{v:Vd}(h:H.globals[j]?=some v):(TL H cs)[(gy cs).length+cs.length+j]?=some v.ty:=by
 unfold TL;rw[aaJ (by omega),show (gy cs).length+cs.length+j-(gy cs).length=cs.length+j by omega,aaJ (by simp),abM,acn,abt,h]
 rfl
theorem zp{c:Cd}{a:Int}{t:T3}(h:nT c.vars t a):cr.rf (dX c) a=g9 t:=by
 unfold cr.rf;have e:cJ.bJ (dX c).vars=c.vars.map cv:=uc c.vars;rw[e,qn h];rfl
theorem ack{c:Cd}:cr.rf (dX c) (-1)=false:=rfl
theorem XM{c:Cd}:∀{ps:List Vd}{l:List Int}{q:Nat},tZ c.vars ps l->q<l.length->∃v,ps[q]?=some v/\nT c.vars v.ty (l.getD q 0)
 |[],[],q,_,h=>by simp at h|p::ps,a::l,0,h,_=>⟨p,rfl,h.1⟩
 |p::ps,a::l,q+1,h,h2=>by
  obtain⟨v,h3,h4⟩:=XM (q:=q) h.2 (by simpa using h2);exact⟨v,by simpa using h3,by simpa using h4⟩
 |[],_::_,_,h,_=>h.elim|_::_,[],_,h,_=>h.elim
theorem XN{r:Int}:g9 ⟨3,r,0⟩=true:=rfl
theorem XO{t:T3}(h:0<t.d):g9 t=true:=by unfold g9;simp[h]
theorem ud{α:Type}{p:Bool}{x y:α}(h:x∈(if p=true then [y] else [])):p=true/\x=y:=by
 cases p with
 |true=>exact⟨rfl,by simpa using h⟩|false=>simp at h
theorem XP(hF:Hd.yO H)(hM:Made H cs ss all)(hl:cs.length=H.sigs.length){k:Nat}{c:Cd}(hc:cs[k]?=some c){i:In}(hi:i∈c.is):∀r∈cr.lD (oT H main cs ss) k (dX c) (yS.oO i),∃kd a b f,r=cr.jV kd a b f/\eX (TL H cs) ss kd a b f:=by
 obtain⟨s,hs,hg⟩:=hM.code k c hc;have ho:=hg.FO i hi;have hv:∀{t:T3} {a:Int},nT c.vars t a->∃p:Nat,cr.jG (oT H main cs ss) k+a=(p:Int)/\(TL H cs)[p]?=some t:=fun {t a} h=>by
  obtain⟨n,rfl,hn⟩:=h;exact⟨(gy (cs.take k)).length+n,by rw[XJ];omega,XK hc hn⟩
 intro r hr;cases ho with
 |c1 a=>simp[cr.lD,yS.oO]at hr|c1b a b=>simp[cr.lD,yS.oO]at hr|c2 a b=>simp[cr.lD,yS.oO]at hr|@c3 x y t h1 h2=>
  have hr:r∈(if cr.rf (dX c) x=true then [cr.jV 2 (cr.jG (oT H main cs ss) k+x) (cr.jG (oT H main cs ss) k+y) 0] else []):=hr;obtain⟨q,rfl⟩:=ud hr;rw[zp h1]at q;obtain⟨p1,e1,g1⟩:=hv h1;obtain⟨p2,e2,g2⟩:=hv h2;exact⟨_,_,_,_,rfl,p1,p2,t,e1,e2,g1,q,.inr (.inl ⟨rfl,g2⟩)⟩
 |c4 a b c d e=>simp[cr.lD,yS.oO]at hr|c5i a b=>simp[cr.lD,yS.oO]at hr|c5b a b=>simp[cr.lD,yS.oO]at hr|@c6 x y rr j sh v h1 h2 h3 h4=>
  have hr:r∈(if cr.rf (dX c) x=true then [cr.jV 3 (cr.jG (oT H main cs ss) k+x) (cr.jG (oT H main cs ss) k+y) (j:Int)] else []):=hr;obtain⟨q,rfl⟩:=ud hr;rw[zp h4]at q;obtain⟨p1,e1,g1⟩:=hv h4;obtain⟨p2,e2,g2⟩:=hv h1;have hj:j<sh.2.length:=(aab.1 h3).1;have h8:=hF.bL sh (aeP h2);exact⟨_,_,_,_,rfl,p1,p2,v.ty,e1,e2,g1,q,.inr (.inr ⟨.inl rfl,⟨_,g2,XN⟩,by omega,by omega⟩)⟩
 |@c7 x y rr j sh v h1 h2 h3 h4=>
  have hr:r∈(if cr.rf (dX c) y=true then [cr.jV 4 (cr.jG (oT H main cs ss) k+x) (cr.jG (oT H main cs ss) k+y) (j:Int)] else []):=hr;obtain⟨q,rfl⟩:=ud hr;rw[zp h4]at q;obtain⟨p1,e1,g1⟩:=hv h1;obtain⟨p2,e2,g2⟩:=hv h4;have hj:j<sh.2.length:=(aab.1 h3).1;have h8:=hF.bL sh (aeP h2);exact⟨_,_,_,_,rfl,p1,p2,_,e1,e2,g1,XN,.inr (.inr ⟨.inr rfl,⟨_,g2,q⟩,by omega,by omega⟩)⟩
 |@c8 x y z t h1 h2 h3 h4=>
  have hr:r∈(if cr.rf (dX c) x=true then [cr.jV 3 (cr.jG (oT H main cs ss) k+x) (cr.jG (oT H main cs ss) k+y) 0] else []):=hr;obtain⟨q,rfl⟩:=ud hr;rw[zp h3]at q;obtain⟨p1,e1,g1⟩:=hv h3;obtain⟨p2,e2,g2⟩:=hv h1;exact⟨_,_,_,_,rfl,p1,p2,_,e1,e2,g1,q,.inr (.inr ⟨.inl rfl,⟨_,g2,XO h2⟩,by omega,by omega⟩)⟩
 |@c9 x y z t h1 h2 h3 h4=>
  have hr:r∈(if cr.rf (dX c) z=true then [cr.jV 4 (cr.jG (oT H main cs ss) k+x) (cr.jG (oT H main cs ss) k+z) 0] else []):=hr;obtain⟨q,rfl⟩:=ud hr;rw[zp h3]at q;obtain⟨p1,e1,g1⟩:=hv h1;obtain⟨p2,e2,g2⟩:=hv h3;exact⟨_,_,_,_,rfl,p1,p2,_,e1,e2,g1,XO h2,.inr (.inr ⟨.inr rfl,⟨_,g2,q⟩,by omega,by omega⟩)⟩
 |Cu a b c=>simp[cr.lD,yS.oO]at hr|@PZ x n t h1 h2 h3 h4=>
  have hr:r∈[cr.jV 1 (cr.jG (oT H main cs ss) k+x) (n:Int) 0]:=hr;rw[ady]at hr;subst hr;obtain⟨p1,e1,g1⟩:=hv h1;exact⟨_,_,_,_,rfl,p1,n,t,e1,rfl,g1,by unfold g9;simp[h2],.inl ⟨rfl,_,h4,rfl⟩⟩
 |@CX x y n t h1 h2 h3 h4=>
  have hr:r∈[cr.jV 1 (cr.jG (oT H main cs ss) k+x) (n:Int) 0]:=hr;rw[ady]at hr;subst hr;obtain⟨p1,e1,g1⟩:=hv h1;exact⟨_,_,_,_,rfl,p1,n,t,e1,rfl,g1,XO h2,.inl ⟨rfl,_,h3,rfl⟩⟩
 |@CY x j sg l h1 h2 h3=>
  have hj:j<cs.length:=by rw[hl];exact(aab.1 h1).1
  obtain⟨d,hd⟩:∃d,cs[j]?=some d:=⟨_,List.getElem?_eq_getElem hj⟩;obtain⟨sg',J9,MF⟩:=hM.code j d hd;rw[h1]at J9;cases J9;have hr:r∈cr.l6 (dX c) (cr.jG (oT H main cs ss) (j:Int).toNat) (cr.jG (oT H main cs ss) k) (dI (oI l)) (dI (oI l)).length++(if cr.rf (dX c) x=true then [cr.jV 2 (cr.jG (oT H main cs ss) k+x) (cr.fD (cJ.bP (oT H main cs ss).codes)+(j:Int)) 0] else []):=hr;rw[yS.Ou,Int.toNat_natCast]at hr;rcases abI.1 hr with hr|hr;unfold cr.l6 at hr;obtain⟨q,hq,hr⟩:=aj2.1 hr;rw[List.mem_range]at hq;obtain⟨p,rfl⟩:=ud hr;obtain⟨v,hv1,hv2⟩:=XM h2 hq;rw[zp hv2]at p;obtain⟨p2,e2,g2⟩:=hv hv2;have g1:=XK (H:=H) hd (MF.pre q v hv1);exact⟨_,_,_,_,rfl,_,p2,v.ty,by rw[XJ];omega,e2,g1,p,.inr (.inl ⟨rfl,g2⟩)⟩;obtain⟨q,rfl⟩:=ud hr;rcases h3 with h3|⟨h3,h4⟩;rw[h3,ack]at q;cases q;rw[zp h4]at q;obtain⟨p1,e1,g1⟩:=hv h4;have g2:=XL (H:=H) hd;rw[MF.res]at g2;exact⟨_,_,_,_,rfl,p1,_,sg.res,e1,by rw[Mt];omega,g1,q,.inr (.inl ⟨rfl,g2⟩)⟩
 |c14 a=>simp[cr.lD,yS.oO]at hr|c15 a=>simp[cr.lD,yS.oO]at hr|c16 a=>simp[cr.lD,yS.oO]at hr|c17 a b c=>simp[cr.lD,yS.oO]at hr|@c18 x h1=>
  have hr:r∈(if cr.rf (dX c) x=true then [cr.jV 2 (cr.fD (cJ.bP (oT H main cs ss).codes)+(k:Int)) (cr.jG (oT H main cs ss) k+x) 0] else []):=hr;obtain⟨q,rfl⟩:=ud hr;split at h1;rw[zp h1]at q;obtain⟨p2,e2,g2⟩:=hv h1;have g1:=XL (H:=H) hc;rw[hg.res]at g1;exact⟨_,_,_,_,rfl,_,p2,s.res,by rw[Mt];omega,e2,g1,q,.inr (.inl ⟨rfl,g2⟩)⟩;rw[h1,ack]at q;cases q
 |@c19 x j v h1 h2=>
  have hr:r∈(if cr.rf (dX c) x=true then [cr.jV 2 (cr.jG (oT H main cs ss) k+x) (cr.fD (cJ.bP (oT H main cs ss).codes)+(cJ.bP (oT H main cs ss).codes).length+(j:Int)) 0] else []):=hr;obtain⟨q,rfl⟩:=ud hr;rw[zp h2]at q;obtain⟨p1,e1,g1⟩:=hv h2;exact⟨_,_,_,_,rfl,p1,_,v.ty,e1,by rw[Mt,Qq];omega,g1,q,.inr (.inl ⟨rfl,Qs h1⟩)⟩
 |@c20 x j v h1 h2=>
  have hr:r∈(if cr.rf (dX c) x=true then [cr.jV 2 (cr.fD (cJ.bP (oT H main cs ss).codes)+(cJ.bP (oT H main cs ss).codes).length+(j:Int)) (cr.jG (oT H main cs ss) k+x) 0] else []):=hr;obtain⟨q,rfl⟩:=ud hr;rw[zp h2]at q;obtain⟨p1,e1,g1⟩:=hv h2;exact⟨_,_,_,_,rfl,_,p1,v.ty,by rw[Mt,Qq];omega,e1,Qs h1,q,.inr (.inl ⟨rfl,g1⟩)⟩
theorem H8(hF:Hd.yO H)(hM:Made H cs ss all)(hl:cs.length=H.sigs.length):∀n:Nat,∀r∈cr.s7 (oT H main cs ss) n,∃kd a b f,r=cr.jV kd a b f/\eX (TL H cs) ss kd a b f
 |0,r,h=>by simp[cr.s7]at h|n+1,r,h=>by
  unfold cr.s7 at h;rcases abI.1 h with h|h;exact H8 hF hM hl n r h;rw[H7,abt]at h;cases hc:cs[n]? with
  |none=>rw[hc]at h;simp at h|some c=>
   rw[hc]at h;have h:r∈cr.xS (oT H main cs ss) n (dX c) (cJ.gx (dX c).dO).length:=h;unfold cr.xS at h;rw[aev]at h;have e:cJ.gx (dX c).dO=c.is.map yS.oO:=Be c.is;rw[e]at h;obtain⟨i',om,h⟩:=aj2.1 h;obtain⟨i,hi,rfl⟩:=aa5.1 om;exact XP hF hM hl hc hi r h
theorem SF(hF:Hd.yO H)(hM:Made H cs ss all)(hl:cs.length=H.sigs.length):∀r∈cr.BZ (oT H main cs ss),∃kd a b f,r=cr.jV kd a b f/\eX (TL H cs) ss kd a b f:=by
 intro r h;unfold cr.BZ at h;split at h;exact H8 hF hM hl _ r h;simp at h
end Cns
namespace Cns
open Ax Go aF V7 jw jX sZ
open K9 (me)
open N7 U7
open S9 (AR)
open qG (sM X7 vZ iR ZX WE Fv Qa HE)
theorem aa1{p:Pg}(hF:jy (kO p)=none)(hg:iR p=false){bs:List Bd}(hR:ue (aW p) (aW p).sigs p.funcs=.ok bs){cs:List Cd}{ss:List Sd}(h:zP [] [] 0 (aW p).sigs bs=.ok (cs,ss)) :
  Hd.yO (aW p)/\∃all,Made (aW p) cs ss all/\cs.length=(aW p).sigs.length:=by
 have xP:=P9 hF (qG.JD hg);obtain⟨all,h1,h2⟩:=LY xP (by simp[aW]) hR rfl (cs:=[]) (ss:=[]) (all:=0) ⟨λj c h=>by simp at h,λs h=>by simp at h,by simp,rfl,by simp⟩ h;exact⟨xP,all,h1,h2⟩
theorem OA(p:Pg):(∃e a:Int,e≠0/\sM p=.ir [ZX,.agg [.int .i64 e,.int .i64 a]])\/
  ∃H main cs ss all,sM p=.ir [.agg (vZ H main cs ss),.agg [.int .i64 0,.int .i64 0]]/\Hd.yO H/\Made H cs ss all/\cs.length=H.sigs.length/\cr.lB (xT.oT H main cs ss)=true:=by
 cases hF:jy (kO p) with
 |some a=>exact .inl ⟨3,a,by decide,by unfold sM;rw[hF]⟩|none=>
  cases hR:ue (aW p) (aW p).sigs p.funcs with
  |error a=>exact .inl ⟨3,a,by decide,by unfold sM;rw[hF];simp only[hR]⟩|ok bs=>
   cases hS:AR p with
   |some a=>exact .inl ⟨3,a,by decide,by unfold sM;rw[hF];simp only[hR,hS]⟩|none=>
    cases hg:iR p with
    |true=>exact .inl ⟨4,0,by decide,by unfold sM;rw[hF];simp only[hR,hS,hg,if_true]⟩|false=>
     cases hm:zP [] [] 0 (aW p).sigs bs with
     |error a=>exact .inl ⟨4,a,by decide,by unfold sM X7;rw[hF];simp only[hR,hS,hg,hm];rfl⟩|ok y=>
      obtain⟨cs,ss⟩:=y;obtain⟨xP,all,hM,hl⟩:=aa1 hF hg hR hm;obtain⟨k,hk,s,hs,hp,hh⟩:=aan hF;exact .inr ⟨aW p,me p,cs,ss,all,by unfold sM X7;rw[hF];simp only[hR,hS,hg,hm];rfl,xP,hM,hl,xT.Oy xP hM hl hk hs hp hh⟩
theorem aoT{H:Hd}{main:Int}{cs:List Cd}{ss:List Sd}{all:Nat}(hF:Hd.yO H)(hM:Made H cs ss all)(hl:cs.length=H.sigs.length):cr.Sm (xT.oT H main cs ss):=by
 have hnf:=hF.nf;have hng:=hF.ng;refine⟨by rw[Qq];omega,λg hg=>?_,λg hg=>?_,?_⟩;rw[H7]at hg;obtain⟨c,hc,rfl⟩:=aa5.1 hg;rw[XI];obtain⟨k,hk⟩:=xT.Oz hc;obtain⟨s,hs,hgc⟩:=hM.code k c hk;have:=hgc.nv;omega;rw[H7]at hg;obtain⟨c,hc,rfl⟩:=aa5.1 hg;show (cJ.gx (xT.Sz c.is)).length<=_;rw[xT.Be,abM];have:=xT.XE hc;have:=hM.sum;have:=hM.few;omega;show (cJ.bJ (xT.S6 (H.globals.map (·.ty)))).length<=_;rw[xT.uc];simp;omega
theorem H9{cs:List Cd}{k:Nat}(h:k<cs.length):gy (cs.take (k+1))=gy (cs.take k)++cs[k].vars:=by
 unfold gy;rw[abL h,List.flatMap_append];simp
theorem Qt{cs:List Cd}(h:∀c∈cs,c.vars.length<=4000):(gy cs).length<=4000*cs.length:=by
 induction cs with
 |nil=>simp[gy]|cons c cs ih=>
  have h1:=ih λd hd=>h d (List.mem_cons_of_mem _ hd);have h2:=h c List.mem_cons_self;simp only[gy,afk,aa6,List.length_cons]at h1 ⊢;omega
theorem SG(s:List UInt8):(aP S).call 0 0 4 [.str s] []=some (.bool true,[]):=by
 have kn:=λwl li st=>Uq (sf:=s14) rfl rfl rfl cr.afs wl li st;have pk:=λwl li st=>aae wl li s st;have hfi:=Fv s;have rk:=λwl li st=>F3.JO wl li (oG s).1 st (aiW hfi.inn) (aiX hfi.inn) (Qa hfi) (HE hfi);have mr:=OA (oG s).1;refine aH (sf:=s4) rfl rfl (by simp[AV.au,AV.ay]) rfl rfl ?_;generalize oG s=P at *;obtain⟨p,fe,fa⟩:=P;simp only at pk rk mr;have r1:aL (aB 3 (p.aD.map Rc.row))=true:=bq;have r2:(aB 3 (p.aD.map Rc.row)).view=aB 3 (p.aD.map Rc.row):=bC;have f1:aL (aB 7 (p.funcs.map Fc.row))=true:=bq;have f2:(aB 7 (p.funcs.map Fc.row)).view=aB 7 (p.funcs.map Fc.row):=bC;have g1:aL (aB 4 (p.globals.map PD.cells))=true:=bq;have g2:(aB 4 (p.globals.map PD.cells)).view=aB 4 (p.globals.map PD.cells):=bC;unfold Pg.row at pk rk;generalize aB 3 (p.aD.map Rc.row)=PR at *;generalize aB 7 (p.funcs.map Fc.row)=PF at *;generalize aB 4 (p.globals.map PD.cells)=PG at *;by_cases c0:(4000:Int)<(s.length:Int);simp[s4,pk,r1,r2,f1,f2,g1,g2,aj,AV.view,c0];by_cases ce:¬fe=0;simp[s4,pk,r1,r2,f1,f2,g1,g2,aj,AV.view,c0,ce];have ce:fe=0:=Decidable.byContradiction ce;subst ce;rcases mr with⟨e,a,he,h1⟩|⟨H,main,cs,ss,all,h1,hF,hM,hl,hR⟩;rw[h1]at rk;simp[s4,pk,rk,r1,r2,f1,f2,g1,g2,aj,AV.view,AV.cG,c0,he,kn];rw[h1]at rk;have hx:=xT.aoS (main:=main) hF hM hl;have hm:=aoT (main:=main) hF hM hl;have hcg:=SF (main:=main) hF hM hl;have mk:=λwl li st=>cr.JO hx hm wl li st;have rm:=λwl li st=>cr.FA hx hm wl li st;have ct:=λwl li st=>cr.XF hx hm wl li st;have rg:=λwl li st=>cr.rrR hx hm wl li st;rw[hR]at rg;have hxe:cr.cH (xT.oT H main cs ss)=.agg [aB 2 (H.bL.map gD),aB 3 (H.globals.map (λv=>v.ty.cells)),aB 7 (cs.map Cd.row),aB 4 (ss.map Sd.row),.int .i64 main]:=by
  show AV.agg [_,_,_,_,_]=_;simp only[xT.oT,xT.shV,xT.S6,xT.csV,xT.bN,List.map_map]
  rfl
 have F6:=cr.XH hx hm;have fJ:=cr.SB (xT.oT H main cs ss);have bE:=cr.SE (xT.oT H main cs ss);have hct:cr.J4 (xT.oT H main cs ss)=((TL H cs).length:Int):=by
  unfold cr.J4;rw[if_pos hR,Mt,Qq];have:(cJ.bJ (xT.oT H main cs ss).globals).length=H.globals.length:=by
   show (cJ.bJ (xT.S6 (H.globals.map (·.ty)))).length=_;rw[xT.uc];simp
  rw[this];simp[TL];omega
 rw[hxe]at mk rm ct rg;rw[hct]at ct;generalize cr.BZ (xT.oT H main cs ss)=CL at *;unfold vZ at rk;have nf:=hF.nf;have ng:=hF.ng;have hv4:∀c∈cs,c.vars.length<=4000:=λc hc=>by
  obtain⟨k,hk⟩:=xT.Oz hc;obtain⟨s,hs,hgc⟩:=hM.code k c hk;exact hgc.nv
 have YD:=Qt hv4;have x1:aL (aB 2 (H.bL.map gD))=true:=bq;have x2:(aB 2 (H.bL.map gD)).view=aB 2 (H.bL.map gD):=bC;have y1:aL (aB 3 (H.globals.map (λv=>v.ty.cells)))=true:=bq;have y2:(aB 3 (H.globals.map (λv=>v.ty.cells))).view=aB 3 (H.globals.map (λv=>v.ty.cells)):=bC;have y3:aJ (aB 3 (H.globals.map (λv=>v.ty.cells)))=H.globals.map (λv=>v.ty.cells):=aM;have y4:bY 3 (aB 3 (H.globals.map (λv=>v.ty.cells)))=true:=xT.FL (by simp[bw]);have z1:aL (aB 4 (ss.map Sd.row))=true:=bq;have z2:(aB 4 (ss.map Sd.row)).view=aB 4 (ss.map Sd.row):=bC;have z3:aJ (aB 4 (ss.map Sd.row))=ss.map Sd.row:=aM;have z4:bY 4 (aB 4 (ss.map Sd.row))=true:=xT.FL (by simp[bw,Sd.row]);have i1:aL (aB 7 (cs.map Cd.row))=true:=bq;have i2:(aB 7 (cs.map Cd.row)).view=aB 7 (cs.map Cd.row):=bC;have i3:aJ (aB 7 (cs.map Cd.row))=cs.map Cd.row:=aM;have i4:bY 7 (aB 7 (cs.map Cd.row))=true:=xT.FL (by simp[bw,Cd.row]);generalize aB 2 (H.bL.map gD)=SV at *;generalize hGV:aB 3 (H.globals.map (λv=>v.ty.cells))=GV at *;generalize aB 4 (ss.map Sd.row)=TV at *;generalize aB 7 (cs.map Cd.row)=CV at *;simp[s4,pk,rk,r1,r2,f1,f2,g1,g2,x1,x2,y1,y2,z1,z2,i1,i2,aj,AV.view,AV.cG,c0];refine aT abE.eq_1 (λk:Nat=>⟨[(5,.fp 2 0),(7,.val (bF 3 ((gy (cs.take k)).map T3.cells))),(8,.val (.int .i64 k))],[[PR,PG,PF],[.int .i64 0,.int .i64 fa],[SV,GV,CV,TV,.int .i64 main],[.int .i64 0,.int .i64 0],[]],[]⟩)
  (λk=>k<=cs.length) (λk=>cs.length-k) 0 (by simp[gy,bF]) (by simp) ?_
 intro k hk ih;have hT0:aL (bF 3 ((gy (cs.take k)).map T3.cells))=true:=cP;have hZ0:bY 3 (bF 3 ((gy (cs.take k)).map T3.cells))=true:=by rw[vr];simp[bw]
 by_cases aQ:k<cs.length;have wA:=wk k (by omega);have fA:=ih (k+1) (by omega) (by omega);have hlr:k<(cs.map Cd.row).length:=by simpa using aQ
 have Yb:(cs.map Cd.row)[k]'hlr=Cd.row cs[k]:=by simp
 have hll:(cs.map Cd.row).length=cs.length:=by simp
 rw[H9 aQ,abT]at fA;have v1:aL (aB 3 (cs[k].vars.map T3.cells))=true:=bq;have v2:(aB 3 (cs[k].vars.map T3.cells)).view=aB 3 (cs[k].vars.map T3.cells):=bC;have v3:aJ (aB 3 (cs[k].vars.map T3.cells))=cs[k].vars.map T3.cells:=aM;have hlen:(gy (cs.take k)).length+cs[k].vars.length<=64000:=by
  have h1:=Qt (cs:=cs.take (k+1)) λc hc=>hv4 c (List.mem_of_mem_take hc);rw[H9 aQ]at h1;simp only[aa6,List.length_take]at h1;omega
 have nC:qY 3 24 (bF 3 ((gy (cs.take k)).map T3.cells)) (cs[k].vars.map T3.cells)=some (bF 3 ((gy (cs.take k)).map T3.cells++cs[k].vars.map T3.cells)):=
  eB (by simp[bw]) (by simp[dQ];omega)
 simp only[Cd.row]at Yb;generalize aB 3 (cs[k].vars.map T3.cells)=VV at *;generalize cs[k].vars.map T3.cells=VR at *;generalize bF 3 ((gy (cs.take k)).map T3.cells++VR)=M1 at *;generalize bF 3 ((gy (cs.take k)).map T3.cells)=M0 at *;simp[aQ,wA,hll,Yb,i1,i2,i3,i4,v1,v2,v3,nC,AV.view];exact fA;have RA:k=cs.length:=by omega
 rw[RA,aev]at hT0 hZ0 ⊢;simp[i1,i2,i3];clear hT0 hZ0 ih hk aQ RA;refine aT abF.eq_1 (λk:Nat=>⟨[(5,.fp 2 0),(7,.val (bF 3 ((gy cs).map T3.cells++(cs.take k).map (λc=>c.res.cells)))),(9,.val (.int .i64 k))],[[PR,PG,PF],[.int .i64 0,.int .i64 fa],[SV,GV,CV,TV,.int .i64 main],[.int .i64 0,.int .i64 0],[]],[]⟩)
  (λk=>k<=cs.length) (λk=>cs.length-k) 0 (by simp) (by simp) ?_
 intro k hk ih;have hT0:aL (bF 3 ((gy cs).map T3.cells++(cs.take k).map (λc=>c.res.cells)))=true:=cP;have hZ0:bY 3 (bF 3 ((gy cs).map T3.cells++(cs.take k).map (λc=>c.res.cells)))=true:=by
  rw[vr];simp only[bw,List.all_append,List.all_map,Bool.and_eq_true,List.all_eq_true];exact⟨λ_ _=>rfl,λ_ _=>rfl⟩
 by_cases aQ:k<cs.length;have wA:=wk k (by omega);have fA:=ih (k+1) (by omega) (by omega);have hlr:k<(cs.map Cd.row).length:=by simpa using aQ
 have Yb:(cs.map Cd.row)[k]'hlr=Cd.row cs[k]:=by simp
 have hll:(cs.map Cd.row).length=cs.length:=by simp
 rw[abL aQ,abT,abh,List.map_nil,<-List.append_assoc]at fA;have nC:qY 3 24 (bF 3 ((gy cs).map T3.cells++(cs.take k).map (λc=>c.res.cells))) [cs[k].res.cells]=some (bF 3 ((gy cs).map T3.cells++(cs.take k).map (λc=>c.res.cells)++[cs[k].res.cells])):=
  eB (by simp[bw]) (by simp[dQ];omega)
 have v1:aL (aB 3 (cs[k].vars.map T3.cells))=true:=bq;have v2:aL (aB 6 (cs[k].is.map In.row))=true:=bq;have v3:(aB 3 (cs[k].vars.map T3.cells)).view=aB 3 (cs[k].vars.map T3.cells):=bC;have v4:(aB 6 (cs[k].is.map In.row)).view=aB 6 (cs[k].is.map In.row):=bC;simp only[Cd.row]at Yb;generalize aB 3 (cs[k].vars.map T3.cells)=VV at *;generalize aB 6 (cs[k].is.map In.row)=IV at *;generalize (gy cs).map T3.cells++(cs.take k).map (λc=>c.res.cells)=R0 at *;simp only[T3.cells]at nC fA;generalize bF 3 (R0++[[.int .i64 cs[k].res.b,.int .i64 cs[k].res.r,.int .i64 cs[k].res.d]])=M1 at *;generalize bF 3 R0=M0 at *;simp[aQ,wA,hll,Yb,i1,i2,i3,i4,nC,AV.view];exact fA;have RA:k=cs.length:=by omega
 rw[RA,aev]at hT0 hZ0 ⊢;have hTR:(gy cs).map T3.cells++cs.map (λc=>c.res.cells)++H.globals.map (λv=>v.ty.cells)=(TL H cs).map T3.cells:=by
  simp[TL,List.map_map,Function.comp_def]
 have nC:qY 3 24 (bF 3 ((gy cs).map T3.cells++cs.map (λc=>c.res.cells))) (H.globals.map (λv=>v.ty.cells))=some (bF 3 ((TL H cs).map T3.cells)):=by
  rw[<-hTR];exact eB (by simp[bw]) (by simp[dQ];omega)
 have Bn:(TL H cs).length<=70000:=by simp[TL];omega
 have t1:aL (bF 3 ((TL H cs).map T3.cells))=true:=cP;have t2:bY 3 (bF 3 ((TL H cs).map T3.cells))=true:=by rw[vr];simp[bw]
 have t3:aJ (bF 3 ((TL H cs).map T3.cells))=(TL H cs).map T3.cells:=qi;have t4:(bF 3 ((TL H cs).map T3.cells)).view=aB 3 ((TL H cs).map T3.cells):=rfl;have t5:aJ (aB 3 ((TL H cs).map T3.cells))=(TL H cs).map T3.cells:=aM;have t6:aL (aB 3 ((TL H cs).map T3.cells))=true:=bq;have t7:bY 3 (aB 3 ((TL H cs).map T3.cells))=true:=xT.FL (by simp[bw]);have hmv:(bF 4 CL).view=aB 4 CL:=rfl;have k1:aL (aB 4 CL)=true:=bq;have k2:(aB 4 CL).view=aB 4 CL:=bC;have k3:aJ (aB 4 CL)=CL:=aM;have k4:bY 4 (aB 4 CL)=true:=xT.FL bE;have k5:bY 4 (bF 4 CL)=true:=by rw[vr];exact bE
 have k6:aJ (bF 4 CL)=CL:=qi;have k7:aL (bF 4 CL)=true:=cP;have sm:=λwl li st=>cr.aa0 wl li (aB 4 CL) (bF 4 CL) CL st k4 k5 k3 k6 fJ F6;rw[hmv]at mk;have tl:((TL H cs).map T3.cells).length=(TL H cs).length:=by simp
 generalize bF 3 ((gy cs).map T3.cells++cs.map (λc=>c.res.cells))=M0 at *;generalize H.globals.map (λv=>v.ty.cells)=GR at *;obtain⟨TR,ajZ⟩:∃TR,TR=(TL H cs).map T3.cells:=⟨_,rfl⟩;rw[<-ajZ]at nC t1 t2 t3 t4 t5 t6 t7 tl;simp[i1,i2,i3,y1,y2,y3,x2,z2,nC,mk,AV.view,AV.cG];refine aT abG.eq_1 (λx:Nat×List AV=>⟨[(5,.fp 2 0),(7,.val (bF 3 TR)),(10,.val (aB 4 CL)),(11,.val (.int .i64 x.1))],[[PR,PG,PF],[.int .i64 0,.int .i64 fa],[SV,GV,CV,TV,.int .i64 main],[.int .i64 0,.int .i64 0],x.2],[]⟩)
  (λx=>x.1<=CL.length) (λx=>CL.length-x.1) (0,[]) (by simp) (by simp) ?_
 rintro⟨k,bx⟩ hk ih;simp only at hk ih;have tq:∀a b c:Int,cr.fT ⟨a,b,c⟩ ⟨a,b,c⟩=true:=λa b c=>by simp[cr.fT]
 have hz:∀a:Nat,(a:Int)<0↔False:=λa=>⟨λh=>by omega,λh=>h.elim⟩;by_cases aQ:k<CL.length;have wA:=wk k (by omega);have fA:=λbx=>ih (k+1,bx) (by simp only;omega) (by simp only;omega);simp only at fA;obtain⟨kd,a,b,f,ff,p',q',t,rfl,rfl,hp,CS,V8⟩:=hcg CL[k] (List.getElem_mem aQ);have XQ:∀{n:Nat} {u:T3},(TL H cs)[n]?=some u->∃h:n<TR.length,TR[n]=u.cells:=fun {n u} h=>by
  have h1:TR[n]?=some u.cells:=by rw[ajZ,abt,h];rfl
  obtain⟨h2,h3⟩:=aab.1 h1;exact⟨h2,h3⟩
 obtain⟨Ij,gp⟩:=XQ hp;have rf:=λwl li st=>U7.pZ wl li t st;rw[CS]at rf;have npl:¬(TR.length:Int)<=(p':Int):=by omega
 have asP:¬TR.length<=p':=by omega
 simp only[T3.cells]at gp rf;rcases V8 with⟨rfl,s',hs,iO⟩|⟨rfl,hq⟩|⟨hkd,⟨u,hq,hru⟩,S5,hf8⟩;have FY:q'<(ss.map Sd.row).length:=by
  rw[abM];exact(aab.1 hs).1
 have gq:(ss.map Sd.row)[q']=[.int .i64 s'.fn,.int .i64 t.b,.int .i64 t.r,.int .i64 t.d]:=by
  rw[List.getElem_map,(aab.1 hs).2,<-iO];rfl
 have nql:¬((ss.map Sd.row).length:Int)<=(q':Int):=by omega
 have aj0:¬(ss.map Sd.row).length<=q':=by omega
 generalize ss.map Sd.row=SR at *;simp[aQ,wA,ff,k1,k2,k3,k4,t4,t5,t6,t7,hz,Ij,gp,rf,npl,FY,gq,nql,z1,z2,z3,z4,tq,aj,AV.view,ai,ah];exact fA _;obtain⟨FY,gq⟩:=XQ hq;have nql:¬(TR.length:Int)<=(q':Int):=by omega
 have aj0:¬TR.length<=q':=by omega
 simp only[T3.cells]at gq;simp[aQ,wA,ff,k1,k2,k3,k4,t4,t5,t6,t7,hz,Ij,gp,rf,npl,FY,gq,nql,tq,aj,AV.view,ai,ah];exact fA _;obtain⟨FY,gq⟩:=XQ hq;have nql:¬(TR.length:Int)<=(q':Int):=by omega
 have aj0:¬TR.length<=q':=by omega
 have rf2:=λwl li st=>U7.pZ wl li u st;rw[hru]at rf2;simp only[T3.cells]at gq rf2;have nf0:¬f<0:=by omega
 have nf8:¬8<=f:=by omega
 rcases hkd with rfl|rfl;simp[aQ,wA,ff,k1,k2,k3,k4,t4,t5,t6,t7,hz,Ij,gp,rf,rf2,npl,FY,gq,nql,nf0,nf8,aj,AV.view];exact fA _;simp[aQ,wA,ff,k1,k2,k3,k4,t4,t5,t6,t7,hz,Ij,gp,rf,rf2,npl,FY,gq,nql,nf0,nf8,aj,AV.view];exact fA _;simp[aQ,k1,k2,k3,t1,t3,x2,y2,z2,i2,ct,rg,rm,sm,tl,kn,AV.view,AV.cG]
end Cns
