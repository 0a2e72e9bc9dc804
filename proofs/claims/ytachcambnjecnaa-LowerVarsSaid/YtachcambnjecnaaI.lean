/-
  Where a program's parts stand in the text turns nothing: the checkers, the codes.
-/
import Derived.Test.YtachcambnjecnaaT
import Derived.Test.YtachcambnjecnaaP
import Derived.Test.YtachcambnjecnaaF

set_option maxHeartbeats 1000000
namespace Inv
open Ax Go V7 j4 k8 uF
open nO (er lp qG Iv tF Fl)
mutual
def ez:E->E
 |.mk k n nm on od kids _ ty ref=>.mk k n nm on od (ow kids) 0 ty ref
def ow:List E->List E
 |[]=>[]
 |e::l=>ez e::ow l
end
theorem Ri (e:E):ez e=.mk e.k e.n e.nm e.on e.od (ow e.kids) 0 e.ty e.ref:=by
 obtain⟨k,n,nm,on,od,kids,a,ty,ref⟩:=e
 (conv=>lhs;unfold ez)<;>rfl
theorem VQ (k n:Int)(nm on:List UInt8)(od:Int)(kids:List E)(a:Int)(ty:T3)(ref:Int):ez (.mk k n nm on od kids a ty ref)=.mk k n nm on od (ow kids) 0 ty ref:=by
 (conv=>lhs;unfold ez)<;>rfl
theorem b9 (e:E)(l:List E):ow (e::l)=ez e::ow l:=by (conv=>lhs;unfold ow)<;>rfl
theorem iH:ow []=[]:=by unfold ow;rfl
theorem Fq:∀l:List E,(ow l).length=l.length
 |[]=>by rw[iH]
 |e::l=>by rw[b9];simp[Fq l]
theorem xq:∀l:List E,(lp l).length=l.length
 |[]=>rfl
 |e::l=>by simp[lp,xq l]
theorem DS (e:E):(ez e).ty=e.ty:=by rw[Ri];rfl
def zE (r:Except Int E):Option E:=match r with|.ok y=>some (ez y)|.error _=>none
def zL (r:Except Int (List E)):Option (List E):=match r with|.ok y=>some (ow y)|.error _=>none
theorem Li (k n:Int)(m:Nat):cR k (jV k n) m=cR k n m:=by
 unfold cR jV
 by_cases c:k=1\/k=2
 ·rw[if_pos c]
 ·rw[if_neg c]
  by_cases c1:k=1\/k=3\/k=4\/k=8\/k=11
  ·rw[if_pos c1,if_pos c1]
  ·have c2:¬k=2:=λh=>c (.inr h)
   simp only[if_neg c1,if_neg c2]
theorem Rj:∀(ps:List Vd)(l m:List E),ow l=ow m->lM ps l=lM ps m
 |[],[],[],_=>rfl
 |_::_,[],[],_=>rfl
 |ps,e::l,[],h=>by rw[b9,iH]at h;cases h
 |ps,[],e::l,h=>by rw[b9,iH]at h;cases h
 |[],e::l,f::m,_=>rfl
 |p::ps,e::l,f::m,h=>by
  rw[b9,b9]at h
  obtain⟨h1,h2⟩:=List.cons.inj h
  have:e.ty=f.ty:=by rw[<-DS e,h1,DS]
  unfold lM
  rw[this,Rj ps l m h2]
theorem Rk {l m:List E}(h:ow l=ow m):rV l=rV m:=by
 match l,m,h with
 |[],[],_=>rfl
 |e::l,[],h=>rw[b9,iH]at h;cases h
 |[],e::l,h=>rw[b9,iH]at h;cases h
 |e::l,f::m,h=>
  rw[b9,b9]at h
  show e.ty=f.ty
  rw[<-DS e,(List.cons.inj h).1,DS]
theorem VR {l m:List E}(h:ow l=ow m):BI l=BI m:=by
 match l,m,h with
 |[],[],_=>rfl
 |e::l,[],h=>rw[b9,iH]at h;cases h
 |[],e::l,h=>rw[b9,iH]at h;cases h
 |e::l,f::m,h=>
  rw[b9,b9]at h
  have:=Rk (List.cons.inj h).2
  match l,m,this with
  |[],[],_=>rfl
  |[],_::_,h=>exact h
  |_::_,[],h=>exact h
  |_::_,_::_,h=>exact h
theorem VS (H:Hd)(V:List Vd)(k:Int)(nm on:List UInt8)(od:Int){l m:List E}(h:ow l=ow m):mD H V k nm on od l=mD H V k (fz k nm) (fM k on) (fN k od) m:=by
 unfold mD
 rw[Rk h,VR h]
 by_cases c1:k=1\/k=11
 ·rw[if_pos c1,if_pos c1]
 rw[if_neg c1,if_neg c1]
 by_cases c2:k=2
 ·rw[if_pos c2,if_pos c2]
 rw[if_neg c2,if_neg c2]
 by_cases c3:k=3
 ·rw[if_pos c3,if_pos c3];simp[fM,fN,c3]
 rw[if_neg c3,if_neg c3]
 by_cases c4:k=4
 ·rw[if_pos c4,if_pos c4];simp[fz,c4]
 rw[if_neg c4,if_neg c4]
 by_cases c5:k=5
 ·rw[if_pos c5,if_pos c5];simp[fz,c5]
 rw[if_neg c5,if_neg c5]
 by_cases c6:k=6
 ·rw[if_pos c6,if_pos c6]
 rw[if_neg c6,if_neg c6]
 by_cases c7:k=7
 ·rw[if_pos c7,if_pos c7]
  simp only[fz,c7,or_true,if_true]
  unfold BJ
  split
  ·rw[Rj _ _ _ h]
  ·rfl
 rw[if_neg c7,if_neg c7]
 by_cases c8:k=8
 ·rw[if_pos c8,if_pos c8];simp[fM,fN,c8]
 rw[if_neg c8,if_neg c8]
 by_cases c9:k=9
 ·rw[if_pos c9,if_pos c9];simp[fM,fN,c9]
 rw[if_neg c9,if_neg c9]
theorem Rl (H:Hd)(V:List Vd)(e:E):rW H V e=if cR e.k e.n e.kids.length then
   match kG H V e.kids with
   |.error x=>.error x
   |.ok ks=>match mD H V e.k e.nm e.on e.od ks with
    |none=>.error e.a
    |some (t,r)=>.ok (.mk e.k (jV e.k e.n) (fz e.k e.nm) (fM e.k e.on) (fN e.k e.od) ks e.a t r)
  else .error e.a:=by
 obtain⟨k,n,nm,on,od,kids,a,ty,ref⟩:=e
 (conv=>lhs;unfold rW)<;>rfl
theorem Rm (H:Hd)(V:List Vd)(e:E)(l:List E):kG H V (e::l)=match rW H V e with
   |.error x=>.error x
   |.ok y=>if y.ty=T0 then .error y.a else match kG H V l with
    |.error x=>.error x
    |.ok ys=>.ok (y::ys):=by
 (conv=>lhs;unfold kG)<;>rfl
theorem Rn {H:Hd}{V:List Vd}:∀{l m:List E},(∀e∈l,∀f,er e=er f->zE (rW H V e)=zE (rW H V f))->lp l=lp m->zL (kG H V l)=zL (kG H V m)
 |[],[],_,_=>rfl
 |e::l,[],_,h=>by simp[lp]at h
 |[],e::l,_,h=>by simp[lp]at h
 |e::l,f::m,hp,h=>by
  simp only[lp]at h
  obtain⟨h1,h2⟩:=List.cons.inj h
  have a:=hp e List.mem_cons_self f h1
  have b:=Rn (λx hx=>hp x (List.mem_cons_of_mem _ hx)) h2
  rw[Rm,Rm]
  cases hx:rW H V e with
  |error x=>
   rw[hx]at a
   cases hy:rW H V f with
   |error y=>rfl
   |ok y=>rw[hy]at a;cases a
  |ok x=>
   rw[hx]at a
   cases hy:rW H V f with
   |error y=>rw[hy]at a;cases a
   |ok y=>
    rw[hy]at a
    have a:ez x=ez y:=Option.some.inj a
    have ht:x.ty=y.ty:=by rw[<-DS x,a,DS]
    simp only
    rw[ht]
    by_cases c:y.ty=T0
    ·rw[if_pos c,if_pos c];rfl
    ·rw[if_neg c,if_neg c]
     cases hl:kG H V l with
     |error u=>
      rw[hl]at b
      cases hm:kG H V m with
      |error v=>rfl
      |ok v=>rw[hm]at b;cases b
     |ok u=>
      rw[hl]at b
      cases hm:kG H V m with
      |error v=>rw[hm]at b;cases b
      |ok v=>
       rw[hm]at b
       have b:ow u=ow v:=Option.some.inj b
       show some (ow (x::u))=some (ow (y::v))
       rw[b9,b9,a,b]
theorem Ia {e f:E}(h:er e=er f):e.k=f.k/\jV e.k e.n=jV e.k f.n/\fz e.k e.nm=fz e.k f.nm/\fM e.k e.on=fM e.k f.on/\fN e.k e.od=fN e.k f.od/\lp e.kids=lp f.kids:=by
 rw[qG,qG]at h
 injection h with h1 h2 h3 h4 h5 h6
 rw[<-h1]at h2 h3 h4 h5
 exact⟨h1,h2,h3,h4,h5,h6⟩
theorem VT (H:Hd)(V:List Vd)(e:E):∀f,er e=er f->zE (rW H V e)=zE (rW H V f):=by
 induction e using E.ind with
 |_ e ih=>
  intro f h
  obtain⟨h1,h2,h3,h4,h5,h6⟩:=Ia h
  have hk:cR e.k e.n e.kids.length=cR f.k f.n f.kids.length:=by
   rw[<-Li e.k e.n,h2,Li,<-h1]
   have:e.kids.length=f.kids.length:=by rw[<-xq,h6,xq]
   rw[this]
  have hv:=Rn ih h6
  rw[Rl,Rl,hk]
  by_cases c:cR f.k f.n f.kids.length=true
  ·rw[if_pos c,if_pos c]
   cases hl:kG H V e.kids with
   |error u=>
    rw[hl]at hv
    cases hm:kG H V f.kids with
    |error v=>rfl
    |ok v=>rw[hm]at hv;cases hv
   |ok u=>
    rw[hl]at hv
    cases hm:kG H V f.kids with
    |error v=>rw[hm]at hv;cases hv
    |ok v=>
     rw[hm]at hv
     have hv:ow u=ow v:=Option.some.inj hv
     have ht:mD H V e.k e.nm e.on e.od u=mD H V f.k f.nm f.on f.od v:=by
      rw[VS H V e.k e.nm e.on e.od hv,h3,h4,h5,<-h1]
      exact(VS H V e.k f.nm f.on f.od (l:=v) rfl).symm
     simp only
     rw[ht]
     cases hy:mD H V f.k f.nm f.on f.od v with
     |none=>rfl
     |some y=>
      obtain⟨t,r⟩:=y
      show some (ez _)=some (ez _)
      rw[VQ,VQ,hv,h2,h3,h4,h5,h1]
  ·rw[if_neg c,if_neg c];rfl
mutual
def zC:Sm->Sm
 |.mk k nm on od es bd el _ ref=>.mk k nm on od (ow es) (xu bd) (xu el) 0 ref
def xu:List Sm->List Sm
 |[]=>[]
 |s::l=>zC s::xu l
end
theorem Ro (s:Sm):zC s=.mk s.k s.nm s.on s.od (ow s.es) (xu s.bd) (xu s.el) 0 s.ref:=by
 obtain⟨k,nm,on,od,es,bd,el,a,ref⟩:=s
 (conv=>lhs;unfold zC)<;>rfl
theorem yB (k:Int)(nm on:List UInt8)(od:Int)(es:List E)(bd el:List Sm)(a ref:Int):zC (.mk k nm on od es bd el a ref)=.mk k nm on od (ow es) (xu bd) (xu el) 0 ref:=by
 (conv=>lhs;unfold zC)<;>rfl
theorem kJ (s:Sm)(l:List Sm):xu (s::l)=zC s::xu l:=by (conv=>lhs;unfold xu)<;>rfl
theorem Af:xu []=[]:=by unfold xu;rfl
def zS (r:Except Int (Sm×List Vd)):Option (Sm×List Vd):=match r with|.ok (y,Wv)=>some (zC y,Wv)|.error _=>none
def zB (r:Except Int (List Sm×List Vd)):Option (List Sm×List Vd):=match r with|.ok (y,Wv)=>some (xu y,Wv)|.error _=>none
theorem adt {r s:Except Int E}(h:zE r=zE s):(∃x y,r=.ok x/\s=.ok y/\ez x=ez y)\/∃x y,r=.error x/\s=.error y:=by
 match r,s,h with
 |.ok x,.ok y,h=>exact .inl ⟨x,y,rfl,rfl,Option.some.inj h⟩
 |.error x,.error y,_=>exact .inr ⟨x,y,rfl,rfl⟩
theorem adu {r s:Except Int (List E)}(h:zL r=zL s):(∃x y,r=.ok x/\s=.ok y/\ow x=ow y)\/∃x y,r=.error x/\s=.error y:=by
 match r,s,h with
 |.ok x,.ok y,h=>exact .inl ⟨x,y,rfl,rfl,Option.some.inj h⟩
 |.error x,.error y,_=>exact .inr ⟨x,y,rfl,rfl⟩
theorem adv {r s:Except Int (Sm×List Vd)}(h:zS r=zS s):(∃x y Wv,r=.ok (x,Wv)/\s=.ok (y,Wv)/\zC x=zC y)\/∃x y,r=.error x/\s=.error y:=by
 match r,s,h with
 |.ok (x,Wv),.ok (y,X),h=>
  obtain⟨h1,h2⟩:=Prod.mk.inj (Option.some.inj h)
  subst h2
  exact .inl ⟨x,y,Wv,rfl,rfl,h1⟩
 |.error x,.error y,_=>exact .inr ⟨x,y,rfl,rfl⟩
theorem Ib {r s:Except Int (List Sm×List Vd)}(h:zB r=zB s):(∃x y Wv,r=.ok (x,Wv)/\s=.ok (y,Wv)/\xu x=xu y)\/∃x y,r=.error x/\s=.error y:=by
 match r,s,h with
 |.ok (x,Wv),.ok (y,X),h=>
  obtain⟨h1,h2⟩:=Prod.mk.inj (Option.some.inj h)
  subst h2
  exact .inl ⟨x,y,Wv,rfl,rfl,h1⟩
 |.error x,.error y,_=>exact .inr ⟨x,y,rfl,rfl⟩
theorem YT {has:Bool}{k:Int}{l m:List E}(h:lp l=lp m):cY has k l=cY has k m:=by
 have hl:l.length=m.length:=by rw[<-xq,h,xq]
 unfold cY
 rw[hl]
 match l,m,h with
 |[],[],_=>rfl
 |e::l,[],h=>simp[lp]at h
 |[],e::l,h=>simp[lp]at h
 |e::l,f::m,h=>
  simp only[lp]at h
  obtain⟨h1,h2⟩:=List.cons.inj h
  have hk:=(Ia h1).1
  match l,m,h2 with
  |[],[],_=>simp only[hk]
  |e2::l,[],h=>simp[lp]at h
  |[],e2::l,h=>simp[lp]at h
  |[e2],[f2],_=>simp only[hk]
  |[e2],f2::f3::m,h=>simp[lp]at h
  |e2::e3::l,[f2],h=>simp[lp]at h
  |e2::e3::l,f2::f3::m,_=>rfl
theorem Rp (H:Hd)(k:Int)(on:List UInt8)(od:Int):iM H k on od=iM H k (bh k on) (bn k od):=by
 unfold iM bh bn
 split<;>rfl
theorem adw (H:Hd)(V:List Vd)(k:Int){l m:List E}(h:lp l=lp m):zL (vO H V k l)=zL (vO H V k m):=by
 unfold vO
 by_cases c:k=9
 ·rw[if_pos c,if_pos c]
  match l,m,h with
  |[],[],_=>rfl
  |e::l,[],h=>simp[lp]at h
  |[],e::l,h=>simp[lp]at h
  |e::l,f::m,h=>
   simp only[lp]at h
   rcases adt (VT H V e f (List.cons.inj h).1) with⟨x,y,h1,h2,h3⟩|⟨x,y,h1,h2⟩
   ·simp only[h1,h2]
    show some (ow [x])=some (ow [y])
    rw[b9,b9,h3]
   ·simp only[h1,h2];rfl
 ·rw[if_neg c,if_neg c]
  exact Rn (λe _ f h=>VT H V e f h) h
theorem VU (H:Hd)(res:T3)(V:List Vd)(k:Int)(nm:List UInt8)(t:T3){l m:List E}(h:ow l=ow m):ji H res V k nm l t=ji H res V k (bO k nm) m t:=by
 have hl:l.length=m.length:=by rw[<-Fq,h,Fq]
 unfold ji
 rw[Rk h,VR h,hl]
 by_cases c1:k=1
 ·simp[c1,bO]
 by_cases c2:k=2
 ·simp[c2,bO]
 by_cases c3:k=3
 ·simp[c3,bO]
 rw[if_neg c1,if_neg c1,if_neg c2,if_neg c2,if_neg c3,if_neg c3]
theorem MW {s u:Sm}(h:Iv s=Iv u):s.k=u.k/\bO s.k s.nm=bO s.k u.nm/\bh s.k s.on=bh s.k u.on/\bn s.k s.od=bn s.k u.od/\lp s.es=lp u.es/\tF s.bd=tF u.bd/\tF s.el=tF u.el:=by
 rw[Fl,Fl]at h
 injection h with h1 h2 h3 h4 h5 h6 h7
 rw[<-h1]at h2 h3 h4
 exact⟨h1,h2,h3,h4,h5,h6,h7⟩
theorem JS (H:Hd)(has:Bool)(res:T3)(V:List Vd)(s:Sm)(l:List Sm):j6 H has res V (s::l)=match sY H has res V s with
  |.error x=>.error x
  |.ok (y,Wv)=>match j6 H has res Wv l with
   |.error x=>.error x
   |.ok (ys,X)=>.ok (y::ys,X):=by
 (conv=>lhs;unfold j6)<;>rfl
theorem Ic {H:Hd}{has:Bool}{res:T3}:∀{l m:List Sm},(∀s∈l,∀V u,Iv s=Iv u->zS (sY H has res V s)=zS (sY H has res V u))->tF l=tF m->∀V,zB (j6 H has res V l)=zB (j6 H has res V m)
 |[],[],_,_,_=>rfl
 |e::l,[],_,h,_=>by simp[tF]at h
 |[],e::l,_,h,_=>by simp[tF]at h
 |s::l,u::m,hp,h,V=>by
  simp only[tF]at h
  obtain⟨h1,h2⟩:=List.cons.inj h
  rw[JS,JS]
  rcases adv (hp s List.mem_cons_self V u h1) with⟨x,y,Wv,q1,q2,q3⟩|⟨x,y,q1,q2⟩
  ·simp only[q1,q2]
   rcases Ib (Ic (λx hx=>hp x (List.mem_cons_of_mem _ hx)) h2 Wv) with⟨x2,y2,X,p1,p2,p3⟩|⟨x2,y2,p1,p2⟩
   ·simp only[p1,p2]
    show some (xu (x::x2),X)=some (xu (y::y2),X)
    rw[kJ,kJ,q3,p3]
   ·simp only[p1,p2];rfl
  ·simp only[q1,q2];rfl
theorem adx (H:Hd)(has:Bool)(res:T3)(s:Sm):∀V u,Iv s=Iv u->zS (sY H has res V s)=zS (sY H has res V u):=by
 induction s using Sm.ind with
 |_ s rL rA=>
  intro V u h
  obtain⟨h1,h2,h3,h4,h5,h6,h7⟩:=MW h
  rw[mE,mE,YT h5,<-h1]
  by_cases c:cY has s.k u.es=true
  ·rw[if_pos c,if_pos c]
   have hd:iM H s.k s.on s.od=iM H s.k u.on u.od:=by rw[Rp,h3,h4,<-Rp]
   rw[hd]
   cases ht:iM H s.k u.on u.od with
   |none=>rfl
   |some t=>
    simp only
    rcases adu (adw H V s.k h5) with⟨x,y,q1,q2,q3⟩|⟨x,y,q1,q2⟩
    ·simp only[q1,q2]
     have hf:ji H res V s.k s.nm x t=ji H res V s.k u.nm y t:=by
      rw[VU H res V s.k s.nm t q3,h2]
      exact(VU H res V s.k u.nm t (l:=y) rfl).symm
     rw[hf]
     cases hw:ji H res V s.k u.nm y t with
     |none=>rfl
     |some z=>
      obtain⟨r,Wv⟩:=z
      simp only
      by_cases c5:s.k=5
      ·rw[if_pos c5,if_pos c5]
       rcases Ib (Ic rL h6 Wv) with⟨x2,y2,X,p1,p2,p3⟩|⟨x2,y2,p1,p2⟩
       ·simp only[p1,p2]
        rcases Ib (Ic rA h7 X) with⟨x3,y3,Y,o1,o2,o3⟩|⟨x3,y3,o1,o2⟩
        ·simp only[o1,o2]
         show some (zC _,Y)=some (zC _,Y)
         rw[yB,yB,q3,p3,o3,h2,h3,h4]
        ·simp only[o1,o2];rfl
       ·simp only[p1,p2];rfl
      ·rw[if_neg c5,if_neg c5]
       by_cases c6:s.k=6
       ·rw[if_pos c6,if_pos c6]
        rcases Ib (Ic rL h6 Wv) with⟨x2,y2,X,p1,p2,p3⟩|⟨x2,y2,p1,p2⟩
        ·simp only[p1,p2]
         show some (zC _,X)=some (zC _,X)
         rw[yB,yB,q3,p3,h2,h3,h4]
        ·simp only[p1,p2];rfl
       ·rw[if_neg c6,if_neg c6]
        show some (zC _,Wv)=some (zC _,Wv)
        rw[yB,yB,q3,h2,h3,h4]
    ·simp only[q1,q2];rfl
  ·rw[if_neg c,if_neg c];rfl
theorem UG (H:Hd)(has:Bool)(res:T3)(V:List Vd){l m:List Sm}(h:tF l=tF m):zB (j6 H has res V l)=zB (j6 H has res V m):=Ic (λs _ V u q=>adx H has res s V u q) h V
theorem Rq:∀{l m:List E},(∀e∈l,∀f,ez e=ez f->∀nv ns,cE nv ns e=cE nv ns f)->ow l=ow m->∀nv ns,rO nv ns l=rO nv ns m
 |[],[],_,_,_,_=>rfl
 |e::l,[],_,h,_,_=>by rw[b9,iH]at h;cases h
 |[],e::l,_,h,_,_=>by rw[b9,iH]at h;cases h
 |e::l,f::m,hp,h,nv,ns=>by
  rw[b9,b9]at h
  obtain⟨h1,h2⟩:=List.cons.inj h
  rw[tq,tq,hp e List.mem_cons_self f h1,Rq (λx hx=>hp x (List.mem_cons_of_mem _ hx)) h2]
theorem Cn {e f:E}(h:ez e=ez f):e.k=f.k/\e.n=f.n/\e.ty=f.ty/\e.ref=f.ref/\ow e.kids=ow f.kids:=by
 rw[Ri,Ri]at h
 injection h with h1 h2 h3 h4 h5 h6 h7 h8 h9
 exact⟨h1,h2,h8,h9,h6⟩
theorem UH (e:E):∀f,ez e=ez f->∀nv ns,cE nv ns e=cE nv ns f:=by
 induction e using E.ind with
 |_ e ih=>
  intro f h nv ns
  obtain⟨h1,h2,h3,h4,h5⟩:=Cn h
  rw[HM,HM,h1,h2,h3,h4,Rq ih h5]
theorem DT {s u:Sm}(h:zC s=zC u):s.k=u.k/\s.ref=u.ref/\ow s.es=ow u.es/\xu s.bd=xu u.bd/\xu s.el=xu u.el:=by
 rw[Ro,Ro]at h
 injection h with h1 h2 h3 h4 h5 h6 h7 h8 h9
 exact⟨h1,h9,h5,h6,h7⟩
theorem VW {l m:List E}(h:ow l=ow m):ez (ko l)=ez (ko m):=by
 match l,m,h with
 |[],[],_=>rfl
 |e::l,[],h=>rw[b9,iH]at h;cases h
 |[],e::l,h=>rw[b9,iH]at h;cases h
 |e::l,f::m,h=>rw[b9,b9]at h;exact(List.cons.inj h).1
theorem ady {l m:List E}(h:ow l=ow m):ez (MJ l)=ez (MJ m):=by
 match l,m,h with
 |[],[],_=>rfl
 |e::l,[],h=>rw[b9,iH]at h;cases h
 |[],e::l,h=>rw[b9,iH]at h;cases h
 |e::l,f::m,h=>
  rw[b9,b9]at h
  have:=VW (List.cons.inj h).2
  match l,m,this with
  |[],[],_=>rfl
  |[],_::_,h=>exact h
  |_::_,[],h=>exact h
  |_::_,_::_,h=>exact h
theorem YU {l m:List Sm}:(∀s∈l,∀u,zC s=zC u->∀nv a ns,cS nv a ns s=cS nv a ns u)->xu l=xu m->∀nv a ns,cB nv a ns l=cB nv a ns m:=by
 induction l generalizing m with
 |nil=>
  intro _ h nv a ns
  cases m with
  |nil=>rfl
  |cons u m=>rw[kJ,Af]at h;cases h
 |cons s l ih=>
  intro hp h nv a ns
  cases m with
  |nil=>rw[kJ,Af]at h;cases h
  |cons u m=>
   rw[kJ,kJ]at h
   obtain⟨h1,h2⟩:=List.cons.inj h
   rw[wZ,wZ,hp s List.mem_cons_self u h1]
   unfold DH
   dsimp only
   rw[ih (λx hx=>hp x (List.mem_cons_of_mem _ hx)) h2]
theorem ah9 (s:Sm):∀u,zC s=zC u->∀nv a ns,cS nv a ns s=cS nv a ns u:=by
 induction s using Sm.ind with
 |_ s rL rA=>
  intro u h nv a ns
  obtain⟨h1,h2,h3,h4,h5⟩:=DT h
  have e0:=VW h3
  have e1:=ady h3
  have hb:=YU rL h4
  have hc:=YU rA h5
  have kW:(λnv a ns=>cB nv a ns s.bd)=λnv a ns=>cB nv a ns u.bd:=by funext nv a ns;exact hb nv a ns
  have MZ:(λnv a ns=>cB nv a ns s.el)=λnv a ns=>cB nv a ns u.el:=by funext nv a ns;exact hc nv a ns
  have hx:=UH _ _ e0
  have hy:(λnv ns=>cE nv ns (MJ s.es))=λnv ns=>cE nv ns (MJ u.es):=by funext nv ns;exact UH _ _ e1 nv ns
  obtain⟨k1,_,_,k4,k5⟩:=Cn e0
  have hp:E8 nv ns (ko s.es) (rO nv ns (ko s.es).kids) (λnv ns=>cE nv ns (MJ s.es))=E8 nv ns (ko u.es) (rO nv ns (ko u.es).kids) (λnv ns=>cE nv ns (MJ u.es)):=by
   rw[hy,Rq (λe _ f h=>UH e f h) k5]
   unfold E8
   rw[k1,k4]
  rw[KX,KX,h1,h2,hx,hp,kW,MZ]
  match hse:s.es,AO:u.es,h3 with
  |[],[],_=>rfl
  |e::l,[],h=>rw[hse,AO,b9,iH]at h3;cases h3
  |[],e::l,h=>rw[hse,AO,b9,iH]at h3;cases h3
  |e::l,f::m,h=>
   rw[hse,AO,b9,b9]at h3
   simp only[UH e f (List.cons.inj h3).1]
theorem YW {l m:List Sm}(h:xu l=xu m)(nv a ns:Nat):cB nv a ns l=cB nv a ns m:=YU (λs _ u q=>ah9 s u q) h nv a ns
end Inv
namespace Inv
open Ax Go V7 j4 k8 uF
def zO (r:Option Int):Bool:=r.isNone
theorem yC {a b c d:Option Int}(h:zO a=zO c)(g:zO b=zO d):zO (l7 a b)=zO (l7 c d):=by
 unfold zO l7 at *
 cases a<;>cases c<;>simp_all
theorem JT {su:List Bool}:∀{l m:List E},(∀e∈l,∀f,ez e=ez f->zO (uD su e)=zO (uD su f))->ow l=ow m->zO (jW su l)=zO (jW su m)
 |[],[],_,_=>rfl
 |e::l,[],_,h=>by rw[b9,iH]at h;cases h
 |[],e::l,_,h=>by rw[b9,iH]at h;cases h
 |e::l,f::m,hp,h=>by
  rw[b9,b9]at h
  obtain⟨h1,h2⟩:=List.cons.inj h
  rw[ue,ue]
  exact yC (hp e List.mem_cons_self f h1) (JT (λx hx=>hp x (List.mem_cons_of_mem _ hx)) h2)
theorem YX (su:List Bool)(e:E):∀f,ez e=ez f->zO (uD su e)=zO (uD su f):=by
 induction e using E.ind with
 |_ e ih=>
  intro f h
  obtain⟨h1,_,_,h4,h5⟩:=Cn h
  rw[EI,EI,h1,h4]
  refine yC (JT ih h5) ?_
  split<;>rfl
theorem YY (su:List Bool){l m:List E}(h:ow l=ow m):zO (jW su l)=zO (jW su m):=JT (λe _ f q=>YX su e f q) h
def zU (r:List Bool×Option Int):List Bool×Bool:=(r.1,zO r.2)
theorem JU {l m:List Sm}:(∀s∈l,∀u,zC s=zC u->∀su,zU (kC su s)=zU (kC su u))->xu l=xu m->∀su,zU (gr su l)=zU (gr su m):=by
 induction l generalizing m with
 |nil=>
  intro _ h su
  cases m with
  |nil=>rfl
  |cons u m=>rw[kJ,Af]at h;cases h
 |cons s l ih=>
  intro hp h su
  cases m with
  |nil=>rw[kJ,Af]at h;cases h
  |cons u m=>
   rw[kJ,kJ]at h
   obtain⟨h1,h2⟩:=List.cons.inj h
   obtain⟨a1,a2⟩:=Prod.mk.inj (hp s List.mem_cons_self u h1 su)
   obtain⟨b1,b2⟩:=Prod.mk.inj (ih (λx hx=>hp x (List.mem_cons_of_mem _ hx)) h2 (kC su s).1)
   rw[uf,uf]
   unfold zU
   simp only
   rw[<-a1]
   refine Prod.ext b1 ?_
   exact yC a2 b2
theorem YZ (s:Sm):∀u,zC s=zC u->∀su,zU (kC su s)=zU (kC su u):=by
 induction s using Sm.ind with
 |_ s rL rA=>
  intro u h su
  obtain⟨h1,h2,h3,h4,h5⟩:=DT h
  have ha:=YY su h3
  obtain⟨b1,b2⟩:=Prod.mk.inj (JU rL h4 su)
  obtain⟨c1,c2⟩:=Prod.mk.inj (JU rA h5 su)
  rw[EJ,EJ,h1,h2]
  unfold zU
  by_cases q1:u.k=1
  ·rw[if_pos q1,if_pos q1];exact Prod.ext rfl ha
  rw[if_neg q1,if_neg q1]
  by_cases q2:u.k=2\/u.k=3
  ·rw[if_pos q2,if_pos q2];exact Prod.ext rfl ha
  rw[if_neg q2,if_neg q2]
  by_cases q7:u.k=7
  ·rw[if_pos q7,if_pos q7];exact Prod.ext rfl ha
  rw[if_neg q7,if_neg q7]
  by_cases q6:u.k=6
  ·rw[if_pos q6,if_pos q6];exact Prod.ext rfl (yC ha b2)
  rw[if_neg q6,if_neg q6]
  by_cases q5:u.k=5
  ·rw[if_pos q5,if_pos q5]
   refine Prod.ext ?_ (yC ha (yC b2 c2))
   show List.zipWith _ _ _=List.zipWith _ _ _
   rw[b1,c1]
  rw[if_neg q5,if_neg q5]
  exact Prod.ext rfl ha
theorem Y0 {l m:List Sm}(h:xu l=xu m)(su:List Bool):zU (gr su l)=zU (gr su m):=JU (λs _ u q=>YZ s u q) h su
end Inv
