/- Part of a proof. -/
import Derived.Test.YtgblgbgjmgjfkaaGreatI

open List renaming length->Q
open Option renaming some->Z
open Bool renaming true->Y,false->X
open Decidable renaming decide->V
open List renaming all_eq_true->aam,getElem_mem->aah,length_pos_iff->afr
open Bool renaming and_eq_true->E6
set_option maxRecDepth 100000
set_option maxHeartbeats 8000000
namespace iA
open Ax Go aM dW
def iV(s t:T3):Bool:=V (s.b=t.b)&&(V (s.r=t.r)&&V (s.d=t.d))
theorem yS(s t):iV s t=V (s=t):=by
 cases s;cases t;simp[iV]
@[simp]theorem T3.eta(t:T3):(⟨t.b,t.r,t.d⟩)=t:=rfl
@[simp high]theorem aD6(a b c h B C):NC (.flat [.int,.int,.int]) (.agg [.int .i64 a,.int .i64 b,.int .i64 c]) (.agg [.int .i64 h,.int .i64 B,.int .i64 C])=Z (iV ⟨a,b,c⟩ ⟨h,B,C⟩):=by
 simp[iV]
def Cq{m:Type}(p:m->Bool)(l:List m)(k:Nat):Prop:=∀j (h:j<Q l),j<k->p l[j]=Y
theorem l9{j p}{l:List j}:Cq p l 0:=λ_ _ h=>au h
theorem mc{m p}{l:List m}{k}(h:Cq p l k)(n)(H:p l[k]=Y):Cq p l (k+1):=by
 intro j J o;rcases Nat.lt_or_ge j k with I|I;exact h j J I;have:j=k:=by omega
 subst this;exact H
theorem om{m p}{l:List m}(h:Cq p l (Q l)):l.all p=Y:=by
 rw[aam];intro q H;obtain⟨j,k,rfl⟩:=List.mem_iff_getElem.1 H;exact h j k k
theorem lF{m:Type}{p}{l:List m}{k:Nat}(h)(j:p l[k]=X):l.all p=X:=
 List.all_eq_false.2 ⟨_,aah h,by simp[j]⟩
def oy(n:Nat)(t:T3):Bool:=V (¬t.d<0)&&V (¬3<t.d)&&if t.b=1\/t.b=2 then V (t.r=0) else V (t.b=3)&&V (0<=t.r)&&V (t.r<n)
theorem Pz(C k){x}(t st)(hx:x.ok):
  (bh S).call C k 104 [fy x,.agg [.int .i64 t.b,.int .i64 t.r,.int .i64 t.d]] st=Z (.bool (oy (Q (kZ x.aR)) t),st):=by
 have j:=hx.sl;have H:=oH hx.aR;refine bu (sf:=Ov) rfl rfl (by simp[hx.pure]) rfl (by simp) ?_;unfold oy;by_cases d0:t.d<0;simp[Ov,fy,j,d0];by_cases D:3<t.d;simp[Ov,fy,j,d0,D];by_cases B:t.b=1;simp[Ov,fy,j,d0,D,B];by_cases h:t.b=2;simp[Ov,fy,j,d0,D,h];by_cases p:t.b=3;by_cases r0:0<=t.r;simp[Ov,fy,j,H,d0,D,p,r0];simp[Ov,fy,j,d0,D,p,r0];simp[Ov,fy,j,d0,D,B,h,p]
theorem SH(C p){x}(l st)(hx:x.ok)(H:yJ l=Y)(v:Q (cx l)<1000000000):
  (bh S).call C p 47 [fy x,l] st=Z (.bool ((cx l).all (oy (Q (kZ x.aR)))),st):=by
 have m:=hx.sl;have z:=lR H;have y:=kQ H;have o:=λt=>Pz 0 0 (x:=x) t [] hx;simp only[fy]at o;refine bu (sf:=s47) rfl rfl (by simp[hx.pure,dV z]) rfl (by simp) ?_;simp[s47,fy,m,z,y,fA H];refine bM acI.eq_1 (λq:Nat×List AV=>⟨[(2,.fp 0 0),(7,.val l),(8,.val (.int .i64 (Q (cx l)))),(9,.val (.int .i64 q.1))],[[x.aR,x.ax,x.aJ,x.aI,.int .i64 x.main],q.2],[]⟩)
  (λq=>q.1<=Q (cx l)/\Cq (oy (Q (kZ x.aR))) (cx l) q.1) (λq=>Q (cx l)-q.1) (0,[]) (by simp) ⟨by simp,l9⟩ ?_
 rintro⟨k,B⟩ ⟨r,j⟩ I;simp only at r j I;by_cases R:k<Q (cx l);have s:=wk k (by omega);have n:=o (cx l)[k];cases e:oy (Q (kZ x.aR)) (cx l)[k] with
 |true=>
  simp[m,H,fA H,R,n,e,s];exact I (k+1,_) ⟨by simp;omega,mc j R e⟩ (by simp;omega)
 |false=>
  have h:=lF R e;simp[m,H,fA H,R,n,e,h]
 have D:k=Q (cx l):=by omega
 have h:=om (D ▸ j);simp[R,h]
abbrev nr(x:XD):Nat:=Q (kZ x.aR)
def AR(n:Nat)(r:RD):Bool:=V (¬8<Q (vr r.cr))&&(vr r.cr).all (λf=>oy n f.t)
theorem ZN(W w){x}(st)(hx:x.ok)(hn:Q (kZ x.aR)<1000000000):
  (bh S).call W w 46 [fy x] st=Z (.bool ((kZ x.aR).all (AR (nr x))),st):=by
 have H:=hx.sl;have z:=hx.aR;have n:=oH hx.aR;have r:=λt=>Pz 0 0 (x:=x) t [] hx;simp only[fy]at r;refine bu (sf:=s46) rfl rfl (by simp[hx.pure]) rfl (by simp) ?_;simp[s46,fy,H,n];refine bM acs.eq_1 (λq:Nat×List AV×List AV=>⟨[(1,.fp 0 0),(8,.val x.aR),(9,.val (.int .i64 (Q (kZ x.aR)))),(10,.val (.int .i64 q.1))],[[x.aR,x.ax,x.aJ,x.aI,.int .i64 x.main],q.2.1,q.2.2],[]⟩)
  (λq=>q.1<=Q (kZ x.aR)/\Cq (AR (nr x)) (kZ x.aR) q.1) (λq=>Q (kZ x.aR)-q.1) (0,[],[]) (by simp) ⟨by simp,l9⟩ ?_
 rintro⟨k,F,y⟩ ⟨D,v⟩ I;simp only at D v I;by_cases B:k<Q (kZ x.aR);have E:=wk k (by omega);have l:=Co z _ (aah B);have M:=Lj l;have U:=FY l;have s:=AQ l;by_cases g:8<Q (vr (kZ x.aR)[k].cr);have G:(8:Int)<(Q (vr (kZ x.aR)[k].cr):Int):=by omega
 have m:=lF (p:=AR (nr x)) B (by simp[AR,g]);simp[H,n,B,z,RD.cells,l,U,s,G,m];have G:¬(8:Int)<(Q (vr (kZ x.aR)[k].cr):Int):=by omega
 simp[H,n,B,z,RD.cells,l,U,s,G];refine bM acr.eq_1 (λq:Nat×List AV=>⟨[(1,.fp 0 0),(8,.val x.aR),(9,.val (.int .i64 (Q (kZ x.aR)))),(10,.val (.int .i64 k)),(19,.val (kZ x.aR)[k].cr),(20,.val (.int .i64 (Q (vr (kZ x.aR)[k].cr)))),(21,.val (.int .i64 q.1))],
   [[x.aR,x.ax,x.aJ,x.aI,.int .i64 x.main],[.str (kZ x.aR)[k].name,(kZ x.aR)[k].cr],q.2],[]⟩)
  (λq=>q.1<=Q (vr (kZ x.aR)[k].cr)/\Cq (λf=>oy (nr x) f.t) (vr (kZ x.aR)[k].cr) q.1) (λq=>Q (vr (kZ x.aR)[k].cr)-q.1) (0,y) (by simp) ⟨by simp,l9⟩ ?_
 rintro⟨j,J⟩ ⟨C,R⟩ N;simp only at C R N;by_cases P:j<Q (vr (kZ x.aR)[k].cr);have L:=wk j (by omega);have o:=r (vr (kZ x.aR)[k].cr)[j].t;cases e:oy (nr x) (vr (kZ x.aR)[k].cr)[j].t with
 |true=>
  simp[H,l,s,P,FD.cells,o,e,L];exact N (j+1,_) ⟨by simp;omega,mc R P e⟩ (by simp;omega)
 |false=>
  have h:=lF (p:=λf:FD=>oy (nr x) f.t) P e;have m:=lF (p:=AR (nr x)) B (by simp only[AR,h,Bool.and_false]);simp[H,l,s,P,FD.cells,o,e,m]
 have T:j=Q (vr (kZ x.aR)[k].cr):=by omega
 have h:=om (T ▸ R);simp[P,E];exact I (k+1,_,_) ⟨by simp;omega,mc v B (by grind [AR])⟩ (by simp;omega);have O:k=Q (kZ x.aR):=by omega
 simp_all [om]
def pD(n N:Nat)(s:SD):Bool:=oy n s.t&&lS s.t&&V (¬s.fn<0)&&V (s.fn<N)
theorem aeo(C y){x}(st)(hx:x.ok)(G:Q (lU x.aI)<1000000000):
  (bh S).call C y 48 [fy x] st=Z (.bool ((lU x.aI).all (pD (nr x) (Q (fm x.aJ)))),st):=by
 have j:=hx.sl;have l:=hx.aI;have h:=sG hx.aI;have n:=bR hx.aJ;have w:=λt=>Pz 0 0 (x:=x) t [] hx;simp only[fy]at w;refine bu (sf:=s48) rfl rfl (by simp[hx.pure]) rfl (by simp) ?_;simp[s48,fy,j,h];refine bM ab9.eq_1 (λq:Nat×List AV=>⟨[(1,.fp 0 0),(6,.val x.aI),(7,.val (.int .i64 (Q (lU x.aI)))),(8,.val (.int .i64 q.1))],[[x.aR,x.ax,x.aJ,x.aI,.int .i64 x.main],q.2],[]⟩)
  (λq=>q.1<=Q (lU x.aI)/\Cq (pD (nr x) (Q (fm x.aJ))) (lU x.aI) q.1) (λq=>Q (lU x.aI)-q.1) (0,[]) (by simp) ⟨by simp,l9⟩ ?_
 rintro⟨k,E⟩ ⟨z,s⟩ I;simp only at z s I;by_cases R:k<Q (lU x.aI);have B:=wk k (by omega);have m:=w (lU x.aI)[k].t;have o:=λa b c=>aen 0 0 a b c [];cases e:oy (nr x) (lU x.aI)[k].t with
 |true=>
  cases r:lS (lU x.aI)[k].t with
  |true=>
   by_cases f0:(lU x.aI)[k].fn<0;have H:=lF (p:=pD (nr x) (Q (fm x.aJ))) R (by simp[pD,f0]);simp[j,l,h,R,SD.cells,m,o,e,r,f0,H];by_cases v:(lU x.aI)[k].fn<Q (fm x.aJ);have F:¬(Q (fm x.aJ):Int)<=(lU x.aI)[k].fn:=(by omega);simp[j,l,h,n,R,SD.cells,m,o,e,r,f0,F,B];exact I (k+1,_) ⟨by simp;omega,mc s R (by simp[pD,e,r,v];omega)⟩ (by simp;omega);have F:(Q (fm x.aJ):Int)<=(lU x.aI)[k].fn:=(by omega);have H:=lF (p:=pD (nr x) (Q (fm x.aJ))) R (by simp[pD,v]);simp[j,l,h,n,R,SD.cells,m,o,e,r,f0,F,H]
  |false=>
   have H:=lF (p:=pD (nr x) (Q (fm x.aJ))) R (by simp[pD,r]);simp[j,l,h,R,SD.cells,m,o,e,r,H]
 |false=>
  have H:=lF (p:=pD (nr x) (Q (fm x.aJ))) R (by simp[pD,e]);simp[j,l,h,R,SD.cells,m,e,H]
 have D:k=Q (lU x.aI):=by omega
 have H:=om (D ▸ s);simp[R,H]
def Np(l:List ID):Bool:=match l.getLast? with
 |some i=>decide (i.op=16)||decide (i.op=17)||decide (i.op=18)
 |none=>X
theorem F4{l m}(h:Q l=m+1):Np l=(V ((l[m]'(by omega)).op=16)||decide ((l[m]'(by omega)).op=17)||decide ((l[m]'(by omega)).op=18)):=by
 grind [Np]
def D8(x:XD)(f:Int)(c:CD):Bool:=V (¬c.params<0)&&V (¬6<c.params)&&V (¬(Q (cx c.vars):Int)<c.params)&&V (¬4000<(Q (cx c.vars):Int)) &&
 V (¬(Q (jo c.fZ):Int)=0)&&(cx c.vars).all (oy (nr x))&&(if c.bY then oy (nr x) c.res else iV c.res ⟨0,0,0⟩)&&(jo c.fZ).all (yw x f)&&Np (jo c.fZ)
theorem aiq(wl ai){x}(k:Nat)(l st)(hx:x.ok)(hb:∀g∈fm x.aJ,Q (cx g.vars)<1000000000)(HR:∀g∈fm x.aJ,Q (jo g.fZ)<1000000000):
  (bh S).call wl ai 106 [fy x,.int .i64 k] st=Z (.bool (D8 x k (fm x.aJ)[k]),st):=by
 have H:=hx.sl;have s:=hx.aJ;have p:=bR hx.aJ;have O:=mE s _ (aah l);have hT:=O.1;have z:=lR O.1;have y:=kQ O.1;have I:=fA O.1;have n:=O.2;have F:=sF O.2;have J:=pZ O.2;have h:=uc O.2;have hbn:=HR _ (aah l);have G:=SH 0 0 (x:=x) (fm x.aJ)[k].vars [] hx hT (hb _ (aah l));have hm:=Pz 0 0 (x:=x) (fm x.aJ)[k].res [] hx;simp only[fy]at hm G;refine bu (sf:=IB) rfl rfl (by simp[hx.pure]) rfl (by simp) ?_;generalize M:(fm x.aJ)[k]=c at *;unfold D8;by_cases P:c.params<0;simp[IB,fy,H,p,s,l,M,CD.cells,z,y,F,J,P];by_cases t:6<c.params;simp[IB,fy,H,p,s,l,M,CD.cells,z,y,F,J,P,t];by_cases pv:(Q (cx c.vars):Int)<c.params;simp[IB,fy,H,p,s,l,M,CD.cells,z,y,I,F,J,P,t,pv];by_cases v4:4000<(Q (cx c.vars):Int);simp[IB,fy,H,p,s,l,M,CD.cells,z,y,I,F,J,P,t,pv,v4];by_cases v:jo c.fZ=[];simp[IB,fy,H,p,s,l,M,CD.cells,z,y,I,F,J,h,P,t,pv,v4,v];cases T:(cx c.vars).all (oy (nr x)) with
 |false=>simp[IB,fy,H,p,s,l,M,CD.cells,z,y,I,F,J,h,P,t,pv,v4,v,G,T]|true=>
  cases hh:c.bY with
  |true=>
   cases hmr:oy (nr x) c.res with
   |false=>simp[IB,fy,H,p,s,l,M,CD.cells,z,y,I,F,J,h,P,t,pv,v4,v,G,T,hh,hm,hmr,aA,ay]|true=>
    simp[IB,fy,H,p,s,l,M,CD.cells,z,y,I,F,J,h,P,t,pv,v4,v,G,T,hh,hm,hmr,aA,ay];refine bM Ou.eq_1 (λq:Nat×List AV=>⟨[(1,.val (.int .i64 k)),(2,.fp 0 0),(5,.fp 1 0),(70,.val c.fZ),(71,.val (.int .i64 (Q (jo c.fZ)))),(72,.val (.int .i64 q.1))],
      [[x.aR,x.ax,x.aJ,x.aI,.int .i64 x.main],[.int .i64 c.params,c.vars,.bool Y,.int .i64 c.res.b,.int .i64 c.res.r,.int .i64 c.res.d,c.fZ],q.2],[]⟩)
     (λq=>q.1<=Q (jo c.fZ)/\Cq (yw x k) (jo c.fZ) q.1) (λq=>Q (jo c.fZ)-q.1) (0,[]) (by simp) ⟨by simp,l9⟩ ?_
    rintro⟨j,bb⟩ ⟨hj,B⟩ ih;simp only at hj B ih;by_cases R:j<Q (jo c.fZ);have hw:=wk j (by omega);have U:=FZ n _ (aah R);have C:=oC 0 0 (x:=x) (k:Int) (i:=(jo c.fZ)[j]) [] hx U.2 U.1 hb;have E:=dY U.2;have W:=bQ U.1 E;simp only[fy,eM]at C;cases e:yw x k (jo c.fZ)[j] with
    |true=>
     simp[H,n,h,R,ID.cells,E,W,C,e,hw];exact ih (j+1,_) ⟨by simp;omega,mc B R e⟩ (by simp;omega)
    |false=>
     have o:=lF R e;simp[H,n,h,R,ID.cells,E,W,C,e,o]
    have p9:j=Q (jo c.fZ):=(by omega);have o:=om (p9 ▸ B);obtain⟨m,L⟩:∃m,Q (jo c.fZ)=m+1:=⟨Q (jo c.fZ)-1,by have:=afr.2 v;omega⟩;have w:m<Q (jo c.fZ):=(by omega);have D:IntKind.i64.wrap ((Q (jo c.fZ):Int)-1)=(m:Int):=(by rw[dg]<;>omega);have N:=F4 L;by_cases o1:(jo c.fZ)[m].op=16;simp[n,h,R,o,D,w,ID.cells,N,o1];by_cases o2:(jo c.fZ)[m].op=17;simp[n,h,R,o,D,w,ID.cells,N,o2];simp[n,h,R,o,D,w,ID.cells,N,o1,o2]
  |false=>
   cases Ti:iV c.res ⟨0,0,0⟩ with
   |false=>simp[IB,fy,H,p,s,l,M,CD.cells,z,y,I,F,J,h,P,t,pv,v4,v,G,T,hh,F0,Ti,aA,ay]|true=>
    simp[IB,fy,H,p,s,l,M,CD.cells,z,y,I,F,J,h,P,t,pv,v4,v,G,T,hh,F0,Ti,aA,ay];refine bM Ou.eq_1 (λq:Nat×List AV=>⟨[(1,.val (.int .i64 k)),(2,.fp 0 0),(5,.fp 1 0),(70,.val c.fZ),(71,.val (.int .i64 (Q (jo c.fZ)))),(72,.val (.int .i64 q.1))],
      [[x.aR,x.ax,x.aJ,x.aI,.int .i64 x.main],[.int .i64 c.params,c.vars,.bool X,.int .i64 c.res.b,.int .i64 c.res.r,.int .i64 c.res.d,c.fZ],q.2],[]⟩)
     (λq=>q.1<=Q (jo c.fZ)/\Cq (yw x k) (jo c.fZ) q.1) (λq=>Q (jo c.fZ)-q.1) (0,[]) (by simp) ⟨by simp,l9⟩ ?_
    rintro⟨j,bb⟩ ⟨hj,B⟩ ih;simp only at hj B ih;by_cases R:j<Q (jo c.fZ);have hw:=wk j (by omega);have U:=FZ n _ (aah R);have C:=oC 0 0 (x:=x) (k:Int) (i:=(jo c.fZ)[j]) [] hx U.2 U.1 hb;have E:=dY U.2;have W:=bQ U.1 E;simp only[fy,eM]at C;cases e:yw x k (jo c.fZ)[j] with
    |true=>
     simp[H,n,h,R,ID.cells,E,W,C,e,hw];exact ih (j+1,_) ⟨by simp;omega,mc B R e⟩ (by simp;omega)
    |false=>
     have o:=lF R e;simp[H,n,h,R,ID.cells,E,W,C,e,o]
    have p9:j=Q (jo c.fZ):=(by omega);have o:=om (p9 ▸ B);obtain⟨m,L⟩:∃m,Q (jo c.fZ)=m+1:=⟨Q (jo c.fZ)-1,by have:=afr.2 v;omega⟩;have w:m<Q (jo c.fZ):=(by omega);have D:IntKind.i64.wrap ((Q (jo c.fZ):Int)-1)=(m:Int):=(by rw[dg]<;>omega);have N:=F4 L;by_cases o1:(jo c.fZ)[m].op=16;simp[n,h,R,o,D,w,ID.cells,N,o1];by_cases o2:(jo c.fZ)[m].op=17;simp[n,h,R,o,D,w,ID.cells,N,o2];simp[n,h,R,o,D,w,ID.cells,N,o1,o2]
def tM(x:XD):List CD->Int->Int->Bool
 |[],_,_=>Y|c::l,f,n=>decide (¬2500<n+Q (jo c.fZ))&&D8 x f c&&tM x l (f+1) (n+Q (jo c.fZ))
theorem aep(W t){x}(st)(hx:x.ok)(G:Q (fm x.aJ)<1000000000)(hb:∀g∈fm x.aJ,Q (cx g.vars)<1000000000)(HR:∀g∈fm x.aJ,Q (jo g.fZ)<1000000000):
  (bh S).call W t 49 [fy x] st=Z (.bool (tM x (fm x.aJ) 0 0),st):=by
 have h:=hx.sl;have s:=hx.aJ;have H:=bR hx.aJ;refine bu (sf:=s49) rfl rfl (by simp[hx.pure]) rfl (by simp) ?_;simp[s49,fy,h,H];refine bM acv.eq_1 (λq:Nat×Int×List AV=>⟨[(1,.fp 0 0),(3,.val (.int .i64 q.2.1)),(7,.val x.aJ),(8,.val (.int .i64 (Q (fm x.aJ)))),(9,.val (.int .i64 q.1))],[[x.aR,x.ax,x.aJ,x.aI,.int .i64 x.main],q.2.2],[]⟩)
  (λq=>q.1<=Q (fm x.aJ)/\0<=q.2.1/\q.2.1<=2500/\tM x (fm x.aJ) 0 0=tM x ((fm x.aJ).drop q.1) q.1 q.2.1) (λq=>Q (fm x.aJ)-q.1) (0,0,[]) (by simp) ⟨by simp,by simp,by simp,by simp⟩ ?_
 rintro⟨k,n,D⟩ ⟨B,m,p,j⟩ I;simp only at B m p j I;by_cases R:k<Q (fm x.aJ);have C:=wk k (by omega);have o:=mE s _ (aah R);have w:=HR _ (aah R);have v:=aiq 0 0 (x:=x) k R [] hx hb HR;simp only[fy]at v;rw[List.drop_eq_getElem_cons R]at j;simp only[tM]at j;have z:=lR o.1;have y:=kQ o.1;have F:=sF o.2;have J:=pZ o.2;have l:=uc o.2;generalize M:(fm x.aJ)[k]=c at *;have r:IntKind.i64.wrap (n+(Q (jo c.fZ):Int))=n+(Q (jo c.fZ):Int):=by rw[dg]<;>omega
 by_cases g:2500<n+(Q (jo c.fZ):Int);simp[h,H,s,R,M,CD.cells,z,y,F,J,l,r,g,j];cases e:D8 x k c with
 |false=>simp[h,H,s,R,M,CD.cells,z,y,F,J,l,r,g,j,v,e]|true=>
  simp[h,H,s,R,M,CD.cells,z,y,F,J,l,r,g,v,e,C];refine I (k+1,n+(Q (jo c.fZ):Int),_) ⟨by simp;omega,by simp;omega,by simp;omega,?_⟩ (by simp;omega)
  grind
 have E:k=Q (fm x.aJ):=by omega
 simp_all [tM]
def lW(x:XD):Bool:=V (¬12<(Q (kZ x.aR):Int))&&V (¬8<(Q (cx x.ax):Int))&&V (¬fm x.aJ=[])&&V (¬16<(Q (fm x.aJ):Int)) &&
 V (¬60<(Q (lU x.aI):Int))&&(match jq (fm x.aJ) x.main with
  |none=>X|some m=>decide (m.params=0) && !m.bY)&&(kZ x.aR).all (AR (nr x))&&(cx x.ax).all (oy (nr x))&&(lU x.aI).all (pD (nr x) (Q (fm x.aJ)))&&tM x (fm x.aJ) 0 0
theorem SI(N L){x}(st)(hx:x.ok)(hb:∀g∈fm x.aJ,Q (cx g.vars)<1000000000)(HR:∀g∈fm x.aJ,Q (jo g.fZ)<1000000000):
  (bh S).call N L 17 [fy x] st=Z (.bool (lW x),st):=by
 have h:=hx.sl;have s:=hx.aJ;have H:bf x.aR=(kZ x.aR).map RD.cells/\bf x.ax=(cx x.ax).map T3.cells/\bf x.aJ=(fm x.aJ).map CD.cells/\bf x.aI=(lU x.aI).map SD.cells:=
  ⟨oH hx.aR,fA hx.ax,bR hx.aJ,sG hx.aI⟩
 refine bu (sf:=Ue) rfl rfl (by simp[hx.pure]) rfl (by simp) ?_;unfold lW;by_cases j:12<(Q (kZ x.aR):Int);simp[Ue,fy,h,H,j];by_cases W:8<(Q (cx x.ax):Int);simp[Ue,fy,h,H,j,W];by_cases n:fm x.aJ=[];simp[Ue,fy,h,H,j,W,n];by_cases t:16<(Q (fm x.aJ):Int);simp[Ue,fy,h,H,j,W,n,t];by_cases l:60<(Q (lU x.aI):Int);simp[Ue,fy,h,H,j,W,n,t,l];cases U:jq (fm x.aJ) x.main with
 |none=>
  rcases jL U with G|⟨G,M⟩;simp[Ue,fy,h,H,j,W,n,t,l,G];have o:¬x.main<0:=by omega
  simp[Ue,fy,h,H,j,W,n,t,l,o,M]
 |some m=>
  obtain⟨k,p,D,q⟩:=gZ U;have o:¬(k:Int)<0:=by omega
  have r:¬(Q (fm x.aJ):Int)<=(k:Int):=by omega
  have O:=mE s m (q ▸ aah D);have z:=lR O.1;have y:=kQ O.1;have F:=sF O.2;have J:=pZ O.2;have E:=ZN 0 0 [] hx (by omega);have w:=SH 0 0 (x:=x) x.ax [] hx hx.ax (by omega);have B:=aeo 0 0 [] hx (by omega);have C:=aep 0 0 [] hx (by omega) hb HR;simp only[fy,p]at E w B C;by_cases P:m.params=0;cases v:m.bY with
  |true=>simp[Ue,fy,h,H,s,j,W,n,t,l,p,D,o,r,q,CD.cells,z,y,F,J,P,v]|false=>
   cases q1:(kZ x.aR).all (AR (nr x)) with
   |false=>simp[Ue,fy,h,H,s,j,W,n,t,l,p,D,o,r,q,CD.cells,z,y,F,J,P,v,E,q1]|true=>
    cases q2:(cx x.ax).all (oy (nr x)) with
    |false=>simp[Ue,fy,h,H,s,j,W,n,t,l,p,D,o,r,q,CD.cells,z,y,F,J,P,v,E,q1,w,q2]|true=>
     cases I:(lU x.aI).all (pD (nr x) (Q (fm x.aJ))) with
     |false=>simp[Ue,fy,h,H,s,j,W,n,t,l,p,D,o,r,q,CD.cells,z,y,F,J,P,v,E,q1,w,q2,B,I]|true=>simp[Ue,fy,h,H,s,j,W,n,t,l,p,D,o,r,q,CD.cells,z,y,F,J,P,v,E,q1,w,q2,B,I,C]
  simp[Ue,fy,h,H,s,j,W,n,t,l,p,D,o,r,q,CD.cells,z,y,F,J,P]
theorem atc{v}(h:ZI v=Y):∀s∈lU v,sQ s.t.d=Y:=by
 intro r H;obtain⟨x,hx,rfl⟩:=List.mem_map.1 H;have:=mK h x hx;unfold Xp at this;unfold dS
 grind
def ZO(x:XD)(r:Nat)(n:Nat):List (List AV):=(((kZ x.aR)[r]?.map λq=>vr q.cr).getD []).take n |>.map λf=>f.t.cells
theorem U5{x r n}(h):ZO x r n=((vr (kZ x.aR)[r].cr).take n).map λf=>f.t.cells:=by
 simp[ZO,h]
def xB(x:XD)(k:Nat):AV:=match (lU x.aI)[k]? with
 |none=>.aF|some s=>if 0<s.t.d then .eE 3 [[.int .i64 s.t.b,.int .i64 s.t.r,.int .i64 (s.t.d-1)]] else cw 3 (ZO x s.t.r.toNat 1000000000)
def tN(x:XD)(n:Int):AV:=if lW x=Y/\0<=n/\n<(Q (lU x.aI):Int) then xB x n.toNat else .aF
theorem SJ(x n):∃l:List T3,cU 3 (tN x n)=Y/\bf (tN x n)=l.map T3.cells:=by
 unfold tN;split;unfold xB;split
 grind
 rename_i s _;split;exact⟨[⟨s.t.b,s.t.r,s.t.d-1⟩],rfl,rfl⟩;refine⟨(((kZ x.aR)[s.t.r.toNat]?.map λq=>vr q.cr).getD []).take 1000000000 |>.map λf=>f.t,?_,?_⟩;rw[Ja];refine aam.2 λr H=>?_;obtain⟨f,_,rfl⟩:=List.mem_map.1 H
 rfl
 rw[oZ];simp only[ZO,List.map_map]
 rfl
 simp_all
theorem aeq{x}(j:lW x=Y){k:Nat}(m)(B:¬0<(lU x.aI)[k].t.d):∃r:Nat,(lU x.aI)[k].t.r=r/\r<Q (kZ x.aR):=by
 simp only[lW,E6]at j;have h:=aam.1 j.1.2 _ (aah m);simp only[pD,E6,oy,lS,Bool.or_eq_true,aC]at h;obtain⟨⟨⟨⟨_,H⟩,l⟩,_⟩,_⟩:=h;have hb:(lU x.aI)[k].t.b=3:=by
  grind
 rw[ah]at H;simp only[E6,aC,nr]at H;obtain⟨⟨_,n⟩,O⟩:=H;exact⟨(lU x.aI)[k].t.r.toNat,by omega,by omega⟩
theorem aer{x}(H:lW x=Y):∀r∈kZ x.aR,Q (vr r.cr)<100:=by
 simp only[lW,E6]at H;intro r h;have:=aam.1 H.1.1.1.2 r h;simp only[AR,E6,aC]at this;omega
section
variable {x:XD}(hx:x.ok)(hb:∀g∈fm x.aJ,(cx g.vars).length<1000000000)(HR:∀g∈fm x.aJ,(jo g.fZ).length<1000000000)
include hx hb HR
theorem Cr(W F n st):(bh S).call W F 20 [fy x,.int .i64 n] st=Z (tN x n,st):=by
 have o:=hx.sl;have v:=hx.aI;have C:=hx.aR;have w:bf x.aR=(kZ x.aR).map RD.cells/\bf x.aI=(lU x.aI).map SD.cells:=⟨oH hx.aR,sG hx.aI⟩;have E:=SI 0 0 [] hx hb HR;simp only[fy]at E;refine bu (sf:=s20) rfl rfl (by simp[hx.pure]) rfl (by obtain⟨l,h,_⟩:=SJ x n;simp[lH h]) ?_;cases m:lW x with
 |false=>simp[s20,fy,o,E,m,tN]|true=>
  by_cases B:n<0;have R:¬0<=n:=by omega
  simp[s20,fy,o,E,m,tN,B,R];obtain⟨k,rfl⟩:∃k:Nat,n=k:=⟨n.toNat,by omega⟩;by_cases H:k<Q (lU x.aI);have U:¬(Q (lU x.aI):Int)<=(k:Int):=by omega
  have L:=atc v _ (aah H);by_cases d0:0<(lU x.aI)[k].t.d;have y:IntKind.i64.wrap ((lU x.aI)[k].t.d-1)=(lU x.aI)[k].t.d-1:=by
   simp only[sQ,E6,aC]at L;rw[dg]<;>omega
  simp[s20,fy,o,w,v,E,m,tN,xB,B,H,U,SD.cells,d0,y];obtain⟨r,O,s⟩:=aeq m H d0;have p:=Co C _ (aah s);have M:=Lj p;have J:=FY p;have z:=AQ p;have G:=aer m _ (aah s);have ev:tN x (k:Int)=cw 3 (ZO x r 1000000000):=by grind [tN,xB]
  rw[ev];simp[s20,fy,o,w,v,C,E,m,B,H,U,SD.cells,RD.cells,d0,O,s,M,J,z];refine bM acQ.eq_1 (λq:Nat×List AV=>⟨[(6,.val (cw 3 (ZO x r q.1))),(44,.val (kZ x.aR)[r].cr),(45,.val (.int .i64 (Q (vr (kZ x.aR)[r].cr)))),(46,.val (.int .i64 q.1))],
    [[x.aR,x.ax,x.aJ,x.aI,.int .i64 x.main],[.int .i64 (lU x.aI)[k].t.b,.int .i64 r,.int .i64 (lU x.aI)[k].t.d],q.2],[]⟩)
   (λq=>q.1<=Q (vr (kZ x.aR)[r].cr)) (λq=>Q (vr (kZ x.aR)[r].cr)-q.1) (0,[]) (by simp[ZO,xX]) (by simp) ?_
  rintro⟨j,T⟩ N I;simp only at N I;by_cases P:j<Q (vr (kZ x.aR)[r].cr);have y:=wk j (by omega);have D:wS 3 24 (cw 3 (ZO x r j)) [(vr (kZ x.aR)[r].cr)[j].t.cells]=Z (cw 3 (ZO x r (j+1))):=by
   rw[iw (by rfl) (by simp[dj,U5 s];omega)]
   grind [U5,List.take_succ_eq_append_getElem]
  simp only[T3.cells]at D;simp[p,z,P,FD.cells,D,y];exact I (j+1,_) (by simp;omega) (by simp;omega);have tU:j=Q (vr (kZ x.aR)[r].cr):=by omega
  have e:ZO x r 1000000000=ZO x r j:=by
   grind [U5]
  simp_all;have U:(Q (lU x.aI):Int)<=(k:Int):=by omega
  simp[s20,fy,o,w,E,m,tN,B,H,U]
end
def GQ{m:Type}(p:m->Bool)(l:List m)(k:Nat):Prop:=∀j (h:j<Q l),j<k->p l[j]=X
theorem C2{j:Type}{p:j->Bool}{l:List j}:GQ p l 0:=λ_ _ h=>au h
theorem C3{m:Type}{p:m->Bool}{l:List m}{k:Nat}(h:GQ p l k)(n:k<Q l)(H:p l[k]=X):GQ p l (k+1):=by
 intro j J o;rcases Nat.lt_or_ge j k with I|I;exact h j J I;have:j=k:=by omega
 subst this;exact H
end iA
