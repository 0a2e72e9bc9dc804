/-
  Where a program's parts stand in the text turns nothing: the checkers, the codes.
-/
import Derived.Test.YtachcambnjecnaaT
import Derived.Test.YtachcambnjecnaaP
import Derived.Test.YtachcambnjecnaaF

set_option maxHeartbeats 1000000
namespace iH
open Ax Go V7 kL lV wo
open A7 (er l8 rL KP rM Gr)
mutual
def ez:E->E
 |.mk k n nm on od az _ ty cN=>.mk k n nm on od (pq az) 0 ty cN
def pq:List E->List E
 |[]=>[]
 |e::l=>ez e::pq l
end
theorem SB(e:E):ez e=.mk e.k e.n e.nm e.on e.od (pq e.az) 0 e.ty e.cN:=by
 obtain⟨k,n,nm,on,od,az,a,ty,cN⟩:=e
 (conv=>lhs;unfold ez)<;>rfl
theorem Xt(k n:Int)(nm on:List UInt8)(od:Int)(az:List E)(a:Int)(ty:T3)(cN:Int):ez (.mk k n nm on od az a ty cN)=.mk k n nm on od (pq az) 0 ty cN:=by
 (conv=>lhs;unfold ez)<;>rfl
theorem cu(e:E)(l:List E):pq (e::l)=ez e::pq l:=by (conv=>lhs;unfold pq)<;>rfl
theorem jd:pq []=[]:=by unfold pq;rfl
theorem Gu:∀l:List E,(pq l).length=l.length
 |[]=>by rw[jd]
 |e::l=>by rw[cu];simp[Gu l]
theorem yp:∀l:List E,(l8 l).length=l.length
 |[]=>rfl
 |e::l=>by simp[l8,yp l]
theorem ES(e:E):(ez e).ty=e.ty:=by rw[SB];rfl
def zE(r:Except Int E):Option E:=match r with|.ok y=>some (ez y)|.error _=>none
def zL(r:Except Int (List E)):Option (List E):=match r with|.ok y=>some (pq y)|.error _=>none
theorem MA(k n:Int)(m:Nat):dY k (lR k n) m=dY k n m:=by
 unfold dY lR
 by_cases c:k=1\/k=2
 ·rw[if_pos c]
 ·rw[if_neg c]
  by_cases c1:k=1\/k=3\/k=4\/k=8\/k=11
  ·rw[if_pos c1,if_pos c1]
  ·have c2:¬k=2:=λh=>c (.inr h)
   simp only[if_neg c1,if_neg c2]
theorem SD:∀(ps:List Vd)(l m:List E),pq l=pq m->mE ps l=mE ps m
 |[],[],[],_=>rfl
 |_::_,[],[],_=>rfl
 |ps,e::l,[],h=>by rw[cu,jd]at h;cases h
 |ps,[],e::l,h=>by rw[cu,jd]at h;cases h
 |[],e::l,f::m,_=>rfl
 |p::ps,e::l,f::m,h=>by
  rw[cu,cu]at h
  obtain⟨h1,h2⟩:=List.cons.inj h
  have:e.ty=f.ty:=by rw[<-ES e,h1,ES]
  unfold mE
  rw[this,SD ps l m h2]
theorem SE{l m:List E}(h:pq l=pq m):vn l=vn m:=by
 match l,m,h with
 |[],[],_=>rfl
 |e::l,[],h=>rw[cu,jd]at h;cases h
 |[],e::l,h=>rw[cu,jd]at h;cases h
 |e::l,f::m,h=>
  rw[cu,cu]at h
  show e.ty=f.ty
  rw[<-ES e,(List.cons.inj h).1,ES]
theorem Xu{l m:List E}(h:pq l=pq m):CD l=CD m:=by
 match l,m,h with
 |[],[],_=>rfl
 |e::l,[],h=>rw[cu,jd]at h;cases h
 |[],e::l,h=>rw[cu,jd]at h;cases h
 |e::l,f::m,h=>
  rw[cu,cu]at h
  have:=SE (List.cons.inj h).2
  match l,m,this with
  |[],[],_=>rfl
  |[],_::_,h=>exact h
  |_::_,[],h=>exact h
  |_::_,_::_,h=>exact h
theorem Xv(H:Hd)(V:List Vd)(k:Int)(nm on:List UInt8)(od:Int){l m:List E}(h:pq l=pq m):oO H V k nm on od l=oO H V k (gx k nm) (g8 k on) (hJ k od) m:=by
 unfold oO
 rw[SE h,Xu h]
 by_cases c1:k=1\/k=11
 ·rw[if_pos c1,if_pos c1]
 rw[if_neg c1,if_neg c1]
 by_cases c2:k=2
 ·rw[if_pos c2,if_pos c2]
 rw[if_neg c2,if_neg c2]
 by_cases c3:k=3
 ·rw[if_pos c3,if_pos c3];simp[g8,hJ,c3]
 rw[if_neg c3,if_neg c3]
 by_cases c4:k=4
 ·rw[if_pos c4,if_pos c4];simp[gx,c4]
 rw[if_neg c4,if_neg c4]
 by_cases c5:k=5
 ·rw[if_pos c5,if_pos c5];simp[gx,c5]
 rw[if_neg c5,if_neg c5]
 by_cases c6:k=6
 ·rw[if_pos c6,if_pos c6]
 rw[if_neg c6,if_neg c6]
 by_cases c7:k=7
 ·rw[if_pos c7,if_pos c7]
  simp only[gx,c7,or_true,if_true]
  unfold CE
  split
  ·rw[SD _ _ _ h]
  ·rfl
 rw[if_neg c7,if_neg c7]
 by_cases c8:k=8
 ·rw[if_pos c8,if_pos c8];simp[g8,hJ,c8]
 rw[if_neg c8,if_neg c8]
 by_cases c9:k=9
 ·rw[if_pos c9,if_pos c9];simp[g8,hJ,c9]
 rw[if_neg c9,if_neg c9]
theorem SG(H:Hd)(V:List Vd)(e:E):vo H V e=if dY e.k e.n e.az.length then
   match lW H V e.az with
   |.error x=>.error x
   |.ok ks=>match oO H V e.k e.nm e.on e.od ks with
    |none=>.error e.a
    |some (t,r)=>.ok (.mk e.k (lR e.k e.n) (gx e.k e.nm) (g8 e.k e.on) (hJ e.k e.od) ks e.a t r)
  else .error e.a:=by
 obtain⟨k,n,nm,on,od,az,a,ty,cN⟩:=e
 (conv=>lhs;unfold vo)<;>rfl
theorem SH(H:Hd)(V:List Vd)(e:E)(l:List E):lW H V (e::l)=match vo H V e with
   |.error x=>.error x
   |.ok y=>if y.ty=T0 then .error y.a else match lW H V l with
    |.error x=>.error x
    |.ok ys=>.ok (y::ys):=by
 (conv=>lhs;unfold lW)<;>rfl
theorem SI{H:Hd}{V:List Vd}:∀{l m:List E},(∀e∈l,∀f,er e=er f->zE (vo H V e)=zE (vo H V f))->l8 l=l8 m->zL (lW H V l)=zL (lW H V m)
 |[],[],_,_=>rfl
 |e::l,[],_,h=>by simp[l8]at h
 |[],e::l,_,h=>by simp[l8]at h
 |e::l,f::m,hp,h=>by
  simp only[l8]at h
  obtain⟨h1,h2⟩:=List.cons.inj h
  have a:=hp e List.mem_cons_self f h1
  have b:=SI (λx hx=>hp x (List.mem_cons_of_mem _ hx)) h2
  rw[SH,SH]
  cases hx:vo H V e with
  |error x=>
   rw[hx]at a
   cases hy:vo H V f with
   |error y=>rfl
   |ok y=>rw[hy]at a;cases a
  |ok x=>
   rw[hx]at a
   cases hy:vo H V f with
   |error y=>rw[hy]at a;cases a
   |ok y=>
    rw[hy]at a
    have a:ez x=ez y:=Option.some.inj a
    have ht:x.ty=y.ty:=by rw[<-ES x,a,ES]
    simp only
    rw[ht]
    by_cases c:y.ty=T0
    ·rw[if_pos c,if_pos c];rfl
    ·rw[if_neg c,if_neg c]
     cases hl:lW H V l with
     |error u=>
      rw[hl]at b
      cases hm:lW H V m with
      |error v=>rfl
      |ok v=>rw[hm]at b;cases b
     |ok u=>
      rw[hl]at b
      cases hm:lW H V m with
      |error v=>rw[hm]at b;cases b
      |ok v=>
       rw[hm]at b
       have b:pq u=pq v:=Option.some.inj b
       show some (pq (x::u))=some (pq (y::v))
       rw[cu,cu,a,b]
theorem Jf{e f:E}(h:er e=er f):e.k=f.k/\lR e.k e.n=lR e.k f.n/\gx e.k e.nm=gx e.k f.nm/\g8 e.k e.on=g8 e.k f.on/\hJ e.k e.od=hJ e.k f.od/\l8 e.az=l8 f.az:=by
 rw[rL,rL]at h
 injection h with h1 h2 h3 h4 h5 h6
 rw[<-h1]at h2 h3 h4 h5
 exact⟨h1,h2,h3,h4,h5,h6⟩
theorem Xw(H:Hd)(V:List Vd)(e:E):∀f,er e=er f->zE (vo H V e)=zE (vo H V f):=by
 induction e using E.vp with
 |_ e ih=>
  intro f h
  obtain⟨h1,h2,h3,h4,h5,h6⟩:=Jf h
  have hk:dY e.k e.n e.az.length=dY f.k f.n f.az.length:=by
   rw[<-MA e.k e.n,h2,MA,<-h1]
   have:e.az.length=f.az.length:=by rw[<-yp,h6,yp]
   rw[this]
  have hv:=SI ih h6
  rw[SG,SG,hk]
  by_cases c:dY f.k f.n f.az.length=true
  ·rw[if_pos c,if_pos c]
   cases hl:lW H V e.az with
   |error u=>
    rw[hl]at hv
    cases hm:lW H V f.az with
    |error v=>rfl
    |ok v=>rw[hm]at hv;cases hv
   |ok u=>
    rw[hl]at hv
    cases hm:lW H V f.az with
    |error v=>rw[hm]at hv;cases hv
    |ok v=>
     rw[hm]at hv
     have hv:pq u=pq v:=Option.some.inj hv
     have ht:oO H V e.k e.nm e.on e.od u=oO H V f.k f.nm f.on f.od v:=by
      rw[Xv H V e.k e.nm e.on e.od hv,h3,h4,h5,<-h1]
      exact(Xv H V e.k f.nm f.on f.od (l:=v) rfl).symm
     simp only
     rw[ht]
     cases hy:oO H V f.k f.nm f.on f.od v with
     |none=>rfl
     |some y=>
      obtain⟨t,r⟩:=y
      show some (ez _)=some (ez _)
      rw[Xt,Xt,hv,h2,h3,h4,h5,h1]
  ·rw[if_neg c,if_neg c];rfl
mutual
def AA:Sm->Sm
 |.mk k nm on od es bd el _ cN=>.mk k nm on od (pq es) (vP bd) (vP el) 0 cN
def vP:List Sm->List Sm
 |[]=>[]
 |s::l=>AA s::vP l
end
theorem SJ(s:Sm):AA s=.mk s.k s.nm s.on s.od (pq s.es) (vP s.bd) (vP s.el) 0 s.cN:=by
 obtain⟨k,nm,on,od,es,bd,el,a,cN⟩:=s
 (conv=>lhs;unfold AA)<;>rfl
theorem zo(k:Int)(nm on:List UInt8)(od:Int)(es:List E)(bd el:List Sm)(a cN:Int):AA (.mk k nm on od es bd el a cN)=.mk k nm on od (pq es) (vP bd) (vP el) 0 cN:=by
 (conv=>lhs;unfold AA)<;>rfl
theorem lz(s:Sm)(l:List Sm):vP (s::l)=AA s::vP l:=by (conv=>lhs;unfold vP)<;>rfl
theorem Ba:vP []=[]:=by unfold vP;rfl
def zS(r:Except Int (Sm×List Vd)):Option (Sm×List Vd):=match r with|.ok (y,Wv)=>some (AA y,Wv)|.error _=>none
def zB(r:Except Int (List Sm×List Vd)):Option (List Sm×List Vd):=match r with|.ok (y,Wv)=>some (vP y,Wv)|.error _=>none
theorem ae2{r s:Except Int E}(h:zE r=zE s):(∃x y,r=.ok x/\s=.ok y/\ez x=ez y)\/∃x y,r=.error x/\s=.error y:=by
 match r,s,h with
 |.ok x,.ok y,h=>exact .inl ⟨x,y,rfl,rfl,Option.some.inj h⟩
 |.error x,.error y,_=>exact .inr ⟨x,y,rfl,rfl⟩
theorem ae3{r s:Except Int (List E)}(h:zL r=zL s):(∃x y,r=.ok x/\s=.ok y/\pq x=pq y)\/∃x y,r=.error x/\s=.error y:=by
 match r,s,h with
 |.ok x,.ok y,h=>exact .inl ⟨x,y,rfl,rfl,Option.some.inj h⟩
 |.error x,.error y,_=>exact .inr ⟨x,y,rfl,rfl⟩
theorem ae4{r s:Except Int (Sm×List Vd)}(h:zS r=zS s):(∃x y Wv,r=.ok (x,Wv)/\s=.ok (y,Wv)/\AA x=AA y)\/∃x y,r=.error x/\s=.error y:=by
 match r,s,h with
 |.ok (x,Wv),.ok (y,X),h=>
  obtain⟨h1,h2⟩:=Prod.mk.inj (Option.some.inj h)
  subst h2
  exact .inl ⟨x,y,Wv,rfl,rfl,h1⟩
 |.error x,.error y,_=>exact .inr ⟨x,y,rfl,rfl⟩
theorem Jg{r s:Except Int (List Sm×List Vd)}(h:zB r=zB s):(∃x y Wv,r=.ok (x,Wv)/\s=.ok (y,Wv)/\vP x=vP y)\/∃x y,r=.error x/\s=.error y:=by
 match r,s,h with
 |.ok (x,Wv),.ok (y,X),h=>
  obtain⟨h1,h2⟩:=Prod.mk.inj (Option.some.inj h)
  subst h2
  exact .inl ⟨x,y,Wv,rfl,rfl,h1⟩
 |.error x,.error y,_=>exact .inr ⟨x,y,rfl,rfl⟩
theorem aas{bO:Bool}{k:Int}{l m:List E}(h:l8 l=l8 m):ee bO k l=ee bO k m:=by
 have hl:l.length=m.length:=by rw[<-yp,h,yp]
 unfold ee
 rw[hl]
 match l,m,h with
 |[],[],_=>rfl
 |e::l,[],h=>simp[l8]at h
 |[],e::l,h=>simp[l8]at h
 |e::l,f::m,h=>
  simp only[l8]at h
  obtain⟨h1,h2⟩:=List.cons.inj h
  have hk:=(Jf h1).1
  match l,m,h2 with
  |[],[],_=>simp only[hk]
  |e2::l,[],h=>simp[l8]at h
  |[],e2::l,h=>simp[l8]at h
  |[e2],[f2],_=>simp only[hk]
  |[e2],f2::f3::m,h=>simp[l8]at h
  |e2::e3::l,[f2],h=>simp[l8]at h
  |e2::e3::l,f2::f3::m,_=>rfl
theorem SL(H:Hd)(k:Int)(on:List UInt8)(od:Int):j5 H k on od=j5 H k (bH k on) (bJ k od):=by
 unfold j5 bH bJ
 split<;>rfl
theorem ae5(H:Hd)(V:List Vd)(k:Int){l m:List E}(h:l8 l=l8 m):zL (Aa H V k l)=zL (Aa H V k m):=by
 unfold Aa
 by_cases c:k=9
 ·rw[if_pos c,if_pos c]
  match l,m,h with
  |[],[],_=>rfl
  |e::l,[],h=>simp[l8]at h
  |[],e::l,h=>simp[l8]at h
  |e::l,f::m,h=>
   simp only[l8]at h
   rcases ae2 (Xw H V e f (List.cons.inj h).1) with⟨x,y,h1,h2,h3⟩|⟨x,y,h1,h2⟩
   ·simp only[h1,h2]
    show some (pq [x])=some (pq [y])
    rw[cu,cu,h3]
   ·simp only[h1,h2];rfl
 ·rw[if_neg c,if_neg c]
  exact SI (λe _ f h=>Xw H V e f h) h
theorem Xx(H:Hd)(br:T3)(V:List Vd)(k:Int)(nm:List UInt8)(t:T3){l m:List E}(h:pq l=pq m):j8 H br V k nm l t=j8 H br V k (cg k nm) m t:=by
 have hl:l.length=m.length:=by rw[<-Gu,h,Gu]
 unfold j8
 rw[SE h,Xu h,hl]
 by_cases c1:k=1
 ·simp[c1,cg]
 by_cases c2:k=2
 ·simp[c2,cg]
 by_cases c3:k=3
 ·simp[c3,cg]
 rw[if_neg c1,if_neg c1,if_neg c2,if_neg c2,if_neg c3,if_neg c3]
theorem Oh{s u:Sm}(h:KP s=KP u):s.k=u.k/\cg s.k s.nm=cg s.k u.nm/\bH s.k s.on=bH s.k u.on/\bJ s.k s.od=bJ s.k u.od/\l8 s.es=l8 u.es/\rM s.bd=rM u.bd/\rM s.el=rM u.el:=by
 rw[Gr,Gr]at h
 injection h with h1 h2 h3 h4 h5 h6 h7
 rw[<-h1]at h2 h3 h4
 exact⟨h1,h2,h3,h4,h5,h6,h7⟩
theorem KT(H:Hd)(bO:Bool)(br:T3)(V:List Vd)(s:Sm)(l:List Sm):kF H bO br V (s::l)=match wQ H bO br V s with
  |.error x=>.error x
  |.ok (y,Wv)=>match kF H bO br Wv l with
   |.error x=>.error x
   |.ok (ys,X)=>.ok (y::ys,X):=by
 (conv=>lhs;unfold kF)<;>rfl
theorem Jh{H:Hd}{bO:Bool}{br:T3}:∀{l m:List Sm},(∀s∈l,∀V u,KP s=KP u->zS (wQ H bO br V s)=zS (wQ H bO br V u))->rM l=rM m->∀V,zB (kF H bO br V l)=zB (kF H bO br V m)
 |[],[],_,_,_=>rfl
 |e::l,[],_,h,_=>by simp[rM]at h
 |[],e::l,_,h,_=>by simp[rM]at h
 |s::l,u::m,hp,h,V=>by
  simp only[rM]at h
  obtain⟨h1,h2⟩:=List.cons.inj h
  rw[KT,KT]
  rcases ae4 (hp s List.mem_cons_self V u h1) with⟨x,y,Wv,q1,q2,q3⟩|⟨x,y,q1,q2⟩
  ·simp only[q1,q2]
   rcases Jg (Jh (λx hx=>hp x (List.mem_cons_of_mem _ hx)) h2 Wv) with⟨x2,y2,X,p1,p2,p3⟩|⟨x2,y2,p1,p2⟩
   ·simp only[p1,p2]
    show some (vP (x::x2),X)=some (vP (y::y2),X)
    rw[lz,lz,q3,p3]
   ·simp only[p1,p2];rfl
  ·simp only[q1,q2];rfl
theorem ae6(H:Hd)(bO:Bool)(br:T3)(s:Sm):∀V u,KP s=KP u->zS (wQ H bO br V s)=zS (wQ H bO br V u):=by
 induction s using Sm.vp with
 |_ s sZ tu=>
  intro V u h
  obtain⟨h1,h2,h3,h4,h5,h6,h7⟩:=Oh h
  rw[nk,nk,aas h5,<-h1]
  by_cases c:ee bO s.k u.es=true
  ·rw[if_pos c,if_pos c]
   have hd:j5 H s.k s.on s.od=j5 H s.k u.on u.od:=by rw[SL,h3,h4,<-SL]
   rw[hd]
   cases ht:j5 H s.k u.on u.od with
   |none=>rfl
   |some t=>
    simp only
    rcases ae3 (ae5 H V s.k h5) with⟨x,y,q1,q2,q3⟩|⟨x,y,q1,q2⟩
    ·simp only[q1,q2]
     have hf:j8 H br V s.k s.nm x t=j8 H br V s.k u.nm y t:=by
      rw[Xx H br V s.k s.nm t q3,h2]
      exact(Xx H br V s.k u.nm t (l:=y) rfl).symm
     rw[hf]
     cases hw:j8 H br V s.k u.nm y t with
     |none=>rfl
     |some z=>
      obtain⟨r,Wv⟩:=z
      simp only
      by_cases c5:s.k=5
      ·rw[if_pos c5,if_pos c5]
       rcases Jg (Jh sZ h6 Wv) with⟨x2,y2,X,p1,p2,p3⟩|⟨x2,y2,p1,p2⟩
       ·simp only[p1,p2]
        rcases Jg (Jh tu h7 X) with⟨x3,y3,Y,o1,o2,o3⟩|⟨x3,y3,o1,o2⟩
        ·simp only[o1,o2]
         show some (AA _,Y)=some (AA _,Y)
         rw[zo,zo,q3,p3,o3,h2,h3,h4]
        ·simp only[o1,o2];rfl
       ·simp only[p1,p2];rfl
      ·rw[if_neg c5,if_neg c5]
       by_cases c6:s.k=6
       ·rw[if_pos c6,if_pos c6]
        rcases Jg (Jh sZ h6 Wv) with⟨x2,y2,X,p1,p2,p3⟩|⟨x2,y2,p1,p2⟩
        ·simp only[p1,p2]
         show some (AA _,X)=some (AA _,X)
         rw[zo,zo,q3,p3,h2,h3,h4]
        ·simp only[p1,p2];rfl
       ·rw[if_neg c6,if_neg c6]
        show some (AA _,Wv)=some (AA _,Wv)
        rw[zo,zo,q3,h2,h3,h4]
    ·simp only[q1,q2];rfl
  ·rw[if_neg c,if_neg c];rfl
theorem V3(H:Hd)(bO:Bool)(br:T3)(V:List Vd){l m:List Sm}(h:rM l=rM m):zB (kF H bO br V l)=zB (kF H bO br V m):=Jh (λs _ V u q=>ae6 H bO br s V u q) h V
theorem SM:∀{l m:List E},(∀e∈l,∀f,ez e=ez f->∀nv ns,cE nv ns e=cE nv ns f)->pq l=pq m->∀nv ns,tG nv ns l=tG nv ns m
 |[],[],_,_,_,_=>rfl
 |e::l,[],_,h,_,_=>by rw[cu,jd]at h;cases h
 |[],e::l,_,h,_,_=>by rw[cu,jd]at h;cases h
 |e::l,f::m,hp,h,nv,ns=>by
  rw[cu,cu]at h
  obtain⟨h1,h2⟩:=List.cons.inj h
  rw[uC,uC,hp e List.mem_cons_self f h1,SM (λx hx=>hp x (List.mem_cons_of_mem _ hx)) h2]
theorem Dh{e f:E}(h:ez e=ez f):e.k=f.k/\e.n=f.n/\e.ty=f.ty/\e.cN=f.cN/\pq e.az=pq f.az:=by
 rw[SB,SB]at h
 injection h with h1 h2 h3 h4 h5 h6 h7 h8 h9
 exact⟨h1,h2,h8,h9,h6⟩
theorem V4(e:E):∀f,ez e=ez f->∀nv ns,cE nv ns e=cE nv ns f:=by
 induction e using E.vp with
 |_ e ih=>
  intro f h nv ns
  obtain⟨h1,h2,h3,h4,h5⟩:=Dh h
  rw[IX,IX,h1,h2,h3,h4,SM ih h5]
theorem ET{s u:Sm}(h:AA s=AA u):s.k=u.k/\s.cN=u.cN/\pq s.es=pq u.es/\vP s.bd=vP u.bd/\vP s.el=vP u.el:=by
 rw[SJ,SJ]at h
 injection h with h1 h2 h3 h4 h5 h6 h7 h8 h9
 exact⟨h1,h9,h5,h6,h7⟩
theorem Xy{l m:List E}(h:pq l=pq m):ez (k7 l)=ez (k7 m):=by
 match l,m,h with
 |[],[],_=>rfl
 |e::l,[],h=>rw[cu,jd]at h;cases h
 |[],e::l,h=>rw[cu,jd]at h;cases h
 |e::l,f::m,h=>rw[cu,cu]at h;exact(List.cons.inj h).1
theorem ae7{l m:List E}(h:pq l=pq m):ez (N8 l)=ez (N8 m):=by
 match l,m,h with
 |[],[],_=>rfl
 |e::l,[],h=>rw[cu,jd]at h;cases h
 |[],e::l,h=>rw[cu,jd]at h;cases h
 |e::l,f::m,h=>
  rw[cu,cu]at h
  have:=Xy (List.cons.inj h).2
  match l,m,this with
  |[],[],_=>rfl
  |[],_::_,h=>exact h
  |_::_,[],h=>exact h
  |_::_,_::_,h=>exact h
theorem aat{l m:List Sm}:(∀s∈l,∀u,AA s=AA u->∀nv a ns,cS nv a ns s=cS nv a ns u)->vP l=vP m->∀nv a ns,cB nv a ns l=cB nv a ns m:=by
 induction l generalizing m with
 |nil=>
  intro _ h nv a ns
  cases m with
  |nil=>rfl
  |cons u m=>rw[lz,Ba]at h;cases h
 |cons s l ih=>
  intro hp h nv a ns
  cases m with
  |nil=>rw[lz,Ba]at h;cases h
  |cons u m=>
   rw[lz,lz]at h
   obtain⟨h1,h2⟩:=List.cons.inj h
   rw[yc,yc,hp s List.mem_cons_self u h1]
   unfold EI
   dsimp only
   rw[ih (λx hx=>hp x (List.mem_cons_of_mem _ hx)) h2]
theorem aj4(s:Sm):∀u,AA s=AA u->∀nv a ns,cS nv a ns s=cS nv a ns u:=by
 induction s using Sm.vp with
 |_ s sZ tu=>
  intro u h nv a ns
  obtain⟨h1,h2,h3,h4,h5⟩:=ET h
  have e0:=Xy h3
  have e1:=ae7 h3
  have hb:=aat sZ h4
  have hc:=aat tu h5
  have lN:(λnv a ns=>cB nv a ns s.bd)=λnv a ns=>cB nv a ns u.bd:=by funext nv a ns;exact hb nv a ns
  have Om:(λnv a ns=>cB nv a ns s.el)=λnv a ns=>cB nv a ns u.el:=by funext nv a ns;exact hc nv a ns
  have hx:=V4 _ _ e0
  have hy:(λnv ns=>cE nv ns (N8 s.es))=λnv ns=>cE nv ns (N8 u.es):=by funext nv ns;exact V4 _ _ e1 nv ns
  obtain⟨k1,_,_,k4,k5⟩:=Dh e0
  have hp:Ge nv ns (k7 s.es) (tG nv ns (k7 s.es).az) (λnv ns=>cE nv ns (N8 s.es))=Ge nv ns (k7 u.es) (tG nv ns (k7 u.es).az) (λnv ns=>cE nv ns (N8 u.es)):=by
   rw[hy,SM (λe _ f h=>V4 e f h) k5]
   unfold Ge
   rw[k1,k4]
  rw[Mi,Mi,h1,h2,hx,hp,lN,Om]
  match hse:s.es,BK:u.es,h3 with
  |[],[],_=>rfl
  |e::l,[],h=>rw[hse,BK,cu,jd]at h3;cases h3
  |[],e::l,h=>rw[hse,BK,cu,jd]at h3;cases h3
  |e::l,f::m,h=>
   rw[hse,BK,cu,cu]at h3
   simp only[V4 e f (List.cons.inj h3).1]
theorem SN{l m:List Sm}(h:vP l=vP m)(nv a ns:Nat):cB nv a ns l=cB nv a ns m:=aat (λs _ u q=>aj4 s u q) h nv a ns
end iH
namespace iH
open Ax Go V7 kL lV wo
def zO(r:Option Int):Bool:=r.isNone
theorem zp{a b c d:Option Int}(h:zO a=zO c)(g:zO b=zO d):zO (mT a b)=zO (mT c d):=by
 unfold zO mT at *
 cases a<;>cases c<;>simp_all
theorem KU{su:List Bool}:∀{l m:List E},(∀e∈l,∀f,ez e=ez f->zO (xU su e)=zO (xU su f))->pq l=pq m->zO (lq su l)=zO (lq su m)
 |[],[],_,_=>rfl
 |e::l,[],_,h=>by rw[cu,jd]at h;cases h
 |[],e::l,_,h=>by rw[cu,jd]at h;cases h
 |e::l,f::m,hp,h=>by
  rw[cu,cu]at h
  obtain⟨h1,h2⟩:=List.cons.inj h
  rw[vr,vr]
  exact zp (hp e List.mem_cons_self f h1) (KU (λx hx=>hp x (List.mem_cons_of_mem _ hx)) h2)
theorem aau(su:List Bool)(e:E):∀f,ez e=ez f->zO (xU su e)=zO (xU su f):=by
 induction e using E.vp with
 |_ e ih=>
  intro f h
  obtain⟨h1,_,_,h4,h5⟩:=Dh h
  rw[FM,FM,h1,h4]
  refine zp (KU ih h5) ?_
  split<;>rfl
theorem aav(su:List Bool){l m:List E}(h:pq l=pq m):zO (lq su l)=zO (lq su m):=KU (λe _ f q=>aau su e f q) h
def zU(r:List Bool×Option Int):List Bool×Bool:=(r.1,zO r.2)
theorem KW{l m:List Sm}:(∀s∈l,∀u,AA s=AA u->∀su,zU (lX su s)=zU (lX su u))->vP l=vP m->∀su,zU (gC su l)=zU (gC su m):=by
 induction l generalizing m with
 |nil=>
  intro _ h su
  cases m with
  |nil=>rfl
  |cons u m=>rw[lz,Ba]at h;cases h
 |cons s l ih=>
  intro hp h su
  cases m with
  |nil=>rw[lz,Ba]at h;cases h
  |cons u m=>
   rw[lz,lz]at h
   obtain⟨h1,h2⟩:=List.cons.inj h
   obtain⟨a1,a2⟩:=Prod.mk.inj (hp s List.mem_cons_self u h1 su)
   obtain⟨b1,b2⟩:=Prod.mk.inj (ih (λx hx=>hp x (List.mem_cons_of_mem _ hx)) h2 (lX su s).1)
   rw[vu,vu]
   unfold zU
   simp only
   rw[<-a1]
   refine Prod.ext b1 ?_
   exact zp a2 b2
theorem aaw(s:Sm):∀u,AA s=AA u->∀su,zU (lX su s)=zU (lX su u):=by
 induction s using Sm.vp with
 |_ s sZ tu=>
  intro u h su
  obtain⟨h1,h2,h3,h4,h5⟩:=ET h
  have ha:=aav su h3
  obtain⟨b1,b2⟩:=Prod.mk.inj (KW sZ h4 su)
  obtain⟨c1,c2⟩:=Prod.mk.inj (KW tu h5 su)
  rw[FO,FO,h1,h2]
  unfold zU
  by_cases q1:u.k=1
  ·rw[if_pos q1,if_pos q1];exact Prod.ext rfl ha
  rw[if_neg q1,if_neg q1]
  by_cases q2:u.k=2\/u.k=3
  ·rw[if_pos q2,if_pos q2];exact Prod.ext rfl ha
  rw[if_neg q2,if_neg q2]
  by_cases q7:u.k=7
  ·rw[if_pos q7,if_pos q7];exact Prod.ext rfl ha
  rw[if_neg q7,if_neg q7]
  by_cases q6:u.k=6
  ·rw[if_pos q6,if_pos q6];exact Prod.ext rfl (zp ha b2)
  rw[if_neg q6,if_neg q6]
  by_cases q5:u.k=5
  ·rw[if_pos q5,if_pos q5]
   refine Prod.ext ?_ (zp ha (zp b2 c2))
   show List.zipWith _ _ _=List.zipWith _ _ _
   rw[b1,c1]
  rw[if_neg q5,if_neg q5]
  exact Prod.ext rfl ha
theorem aax{l m:List Sm}(h:vP l=vP m)(su:List Bool):zU (gC su l)=zU (gC su m):=KW (λs _ u q=>aaw s u q) h su
end iH
