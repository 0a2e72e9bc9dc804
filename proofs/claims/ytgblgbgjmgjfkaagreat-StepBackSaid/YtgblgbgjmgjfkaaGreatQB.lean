/- Part of a proof. -/
import Derived.Test.YtgblgbgjmgjfkaaGreatQA

open List renaming length->Q
open Option renaming some->Z,none->K
open Bool renaming true->Y,false->X
open Decidable renaming decide->V
open List renaming all_cons->ahd,length_pos_iff->afr,getElem_mem->aah,drop_eq_getElem_cons->aan,drop_length->aaF
open Bool renaming and_true->af8,and_assoc->ajs,and_comm->apZ
set_option maxRecDepth 100000
set_option maxHeartbeats 8000000
namespace iA
open Ax Go aM dW
theorem Va(i:ID)(h:1<=i.op/\i.op<=20):zD i=eA i:=by
 have N:i.op=1\/i.op=2\/i.op=3\/i.op=4\/i.op=5\/i.op=6\/i.op=7\/i.op=8\/i.op=9\/i.op=10\/i.op=11\/i.op=12\/i.op=13\/i.op=14\/i.op=15\/i.op=16\/i.op=17\/i.op=18\/i.op=19\/i.op=20:=by omega
 rcases N with h|h|h|h|h|h|h|h|h|h|h|h|h|h|h|h|h|h|h|h<;>simp[zD,eA,jX,vZ,h]
theorem aex(i:ID)(h:¬(1<=i.op/\i.op<=20)):zD i=X:=by
 unfold zD;repeat' rw[ah]
theorem aey(x:XD)(f:Int)(c:CD)(i:ID)(a b d:T3)(h:¬(1<=i.op/\i.op<=20)):eH x f c i a b d=X:=by
 unfold eH;repeat' rw[ah]
theorem pE(vs:List T3)(t:T3)(a:Int):ko vs t [a]=(!iV (jk vs a) ⟨0,0,0⟩&&iV (jk vs a) t):=by
 simp only[ko,yS,ahd,List.all_nil,af8];by_cases h:jk vs a=t;simp[h];simp[h]
theorem akt(t u:T3)(g:iV u ⟨0,0,0⟩=X):(!iV t ⟨0,0,0⟩&&iV t u)=iV t u:=by
 cases e:iV t u with
 |false=>simp|true=>
  rw[yS]at e;have:=of_decide_eq_true e;subst this;simp[g]
theorem anS(vs:List T3)(a:Int):ko vs zC [a]=iV (jk vs a) ⟨1,0,0⟩:=by
 rw[pE];exact akt _ _ rfl
theorem aiu(vs:List T3)(a:Int):ko vs qH [a]=iV (jk vs a) ⟨2,0,0⟩:=by
 rw[pE];exact akt _ _ rfl
theorem Jk(vs:List T3)(t:T3)(a b:Int)(l:List Int):ko vs t (a::b::l)=(ko vs t [a]&&ko vs t (b::l)):=by
 simp only[ko,ahd,List.all_nil,af8];cases V (jk vs a=t)<;>cases V (t≠T0)<;>simp
theorem anT(vs:List T3)(i:ID):pV vs i=oo i.n (jk vs i.a) (jk vs i.b) (jk vs i.c):=by
 unfold pV oo;split;simp only[Jk,anS,ajs];split;simp only[Jk,anS,aiu,ajs];split;rw[aiu,pE];simp only[yS];by_cases h:jk vs i.c=jk vs i.b;simp[h];have p:¬jk vs i.b=jk vs i.c:=λe=>h e.symm;simp[h,p];split;simp only[Jk,aiu,ajs]
 rfl
theorem anU(rs:List RD)(vs:List T3)(a k v:Int):IP rs vs a k v=(!iV (jk vs v) ⟨0,0,0⟩&&iV (jk vs v) (ZR rs (jk vs a) k)):=by
 unfold IP ZR;have h:∀t:T3,(!iV t ⟨0,0,0⟩&&iV t T0)=X:=by intro t;simp
 by_cases l:(jk vs a).b=3;by_cases n:(jk vs a).d=0;simp only[l,n,decide_true,Bool.true_and,and_self,bz];cases jq rs (jk vs a).r with
 |none=>
  dsimp only;exact(h _).symm
 |some r=>
  dsimp only;cases jq (vr r.cr) k with
  |none=>exact(h _).symm|some F=>exact pE _ _ _
 simp[l,n,h];simp[l,h]
theorem anV(vs:List T3)(a I:Int):F1 vs a I=(V (0<(jk vs a).d)&&(!iV (jk vs I) ⟨0,0,0⟩&&iV (jk vs I) ⟨(jk vs a).b,(jk vs a).r,(jk vs a).d-1⟩)):=by
 unfold F1;rw[pE]
theorem all_eq(S:List SD)(f:Int)(vs:List T3)(n a:Int):F2 S f vs n a=(!iV (jk vs a) ⟨0,0,0⟩&&ZQ S f n (jk vs a)):=by
 unfold F2 ZQ;cases jq S n with
 |none=>simp|some s=>
  simp only[pE,yS];by_cases h:jk vs a=s.t;simp[h,apZ];have p:¬s.t=jk vs a:=λe=>h e.symm;simp[h,p]
theorem anW(C:List CD)(vs:List T3)(i:ID):IQ C vs i=U6 C vs i:=by
 unfold IQ U6;cases jq C i.c with
 |none=>rfl|some g=>
  simp only[ZK,anO,pE];have e:(λp:Int×T3=>!iV (jk vs p.1) ⟨0,0,0⟩&&iV (jk vs p.1) p.2)=λp=>IS vs p.1 p.2:=rfl;rw[e];have r:(!iV (jk vs i.a) ⟨0,0,0⟩&&iV (jk vs i.a) g.res)=IS vs i.a g.res:=rfl;rw[r];by_cases j:(Q (dI i.args):Int)=g.params;have B:¬g.params<0:=by omega
  simp[j,B];simp[j]
theorem anX(R vs:List T3)(n a:Int):Lq R vs n a=(!iV (jk vs a) ⟨0,0,0⟩&&(match jq R n with|some t=>iV (jk vs a) t|none=>X)):=by
 unfold Lq;cases jq R n with
 |none=>simp|some t=>simp only[pE]
theorem ZS(x:XD)(f:Int)(c:CD)(i:ID)(h:1<=i.op/\i.op<=20):
  iZ x f c i=eH x f c i (jk (cx c.vars) i.a) (jk (cx c.vars) i.b) (jk (cx c.vars) i.c):=by
 have N:i.op=1\/i.op=2\/i.op=3\/i.op=4\/i.op=5\/i.op=6\/i.op=7\/i.op=8\/i.op=9\/i.op=10\/i.op=11\/i.op=12\/i.op=13\/i.op=14\/i.op=15\/i.op=16\/i.op=17\/i.op=18\/i.op=19\/i.op=20:=by omega
 unfold iZ eH sU;rcases N with h|h|h|h|h|h|h|h|h|h|h|h|h|h|h|h|h|h|h|h<;>simp[h];all_goals try simp only[Jk,anS,aiu,anT,anU,anV,all_eq,anW,anX,F3]
 intro H;cases e:iV (jk (cx c.vars) i.a) ⟨0,0,0⟩ with
 |false=>rfl|true=>
  rw[yS]at e;rw[of_decide_eq_true e]at H;exact bH H (by decide)
 rw[pE,yS,yS,yS,yS];by_cases e:jk (cx c.vars) i.a=jk (cx c.vars) i.b;simp[e];have n:¬jk (cx c.vars) i.b=jk (cx c.vars) i.a:=λq=>e q.symm;simp[e,n];simp only[ajs]
 ac_rfl
 ac_rfl
 ac_rfl
 by_cases e:0<(jk (cx c.vars) i.a).d;have E:iV (jk (cx c.vars) i.a) ⟨0,0,0⟩=X:=by
  rw[yS];refine eX λq=>?_;rw[q]at e;exact bH e (by decide)
 simp[e,E,apZ];simp[e];simp only[ajs];split;exact pE _ _ _
 rfl
 all_goals rfl
theorem step_eq(x:XD)(f:Int)(i:ID):yw x f i=Io x f i:=by
 unfold yw Io;cases jq (fm x.aJ) f with
 |none=>rfl|some c=>
  dsimp only;by_cases h:1<=i.op/\i.op<=20;rw[Va i h,ZS x f c i h];rw[aex i h,aey x f c i _ _ _ h];simp
theorem Xr(C h:Nat){x:XD}(t:T3)(st:aO)(l:x.ok):
  (bh S).call C h 43 [fy x,.agg [.int .i64 t.b,.int .i64 t.r,.int .i64 t.d]] st=Z (.bool (oy (Q (kZ x.aR)) t),st):=by
 have j:=l.sl;have H:=oH l.aR;refine bu (sf:=s43) rfl rfl (by simp[l.pure]) rfl (by simp) ?_;unfold oy;by_cases d0:t.d<0;simp[s43,fy,j,d0];by_cases D:3<t.d;simp[s43,fy,j,d0,D];by_cases B:t.b=1;simp[s43,fy,j,d0,D,B];by_cases g:t.b=2;simp[s43,fy,j,d0,D,g];by_cases p:t.b=3;by_cases r0:0<=t.r;simp[s43,fy,j,H,d0,D,p,r0];simp[s43,fy,j,d0,D,p,r0];simp[s43,fy,j,d0,D,B,g,p]
theorem Nr(C p:Nat){x:XD}(l:AV)(st:aO)(g:x.ok)(H:yJ l=Y)(s:Q (cx l)<1000000000):
  (bh S).call C p 42 [fy x,l] st=Z (.bool ((cx l).all (oy (Q (kZ x.aR)))),st):=by
 have j:=g.sl;have z:=lR H;have y:=kQ H;have n:=λt=>Xr 0 0 (x:=x) t [] g;simp only[fy]at n;refine bu (sf:=s42) rfl rfl (by simp[g.pure,dV z]) rfl (by simp) ?_;simp[s42,fy,j];refine bM acd.eq_1 (λk:Nat=>⟨[(1,.val l),(2,.fp 0 0),(5,.val (.int .i64 k))],[[x.aR,x.ax,x.aJ,x.aI,.int .i64 x.main]],[]⟩)
  (λk=>k<=Q (cx l)/\Cq (oy (Q (kZ x.aR))) (cx l) k) (λk=>Q (cx l)-k) 0 (by simp) ⟨by simp,l9⟩ ?_
 intro k ⟨r,o⟩ I;by_cases R:k<Q (cx l);have q:=wk k (by omega);have m:=n (cx l)[k];cases e:oy (Q (kZ x.aR)) (cx l)[k] with
 |true=>
  simp[j,y,H,fA H,R,m,e,q,aA,ay];exact I (k+1) ⟨by omega,mc o R e⟩ (by omega)
 |false=>
  have h:=lF R e;simp[j,y,H,fA H,R,m,e,h,aA,ay]
 have D:k=Q (cx l):=by omega
 have h:=om (D ▸ o);simp[z,y,fA H,R,h]
def DJ(x:XD):List CD->Int->Bool
 |[],_=>Y|c::l,n=>decide (¬4000<(Q (cx c.vars):Int))&&V (¬c.params<0)&&V (¬6<c.params)&&V (¬(Q (cx c.vars):Int)<c.params)&&(cx c.vars).all (oy (nr x)) &&
  V (¬jo c.fZ=[])&&V (¬2500<n+Q (jo c.fZ))&&(if c.bY then oy (nr x) c.res else iV c.res ⟨0,0,0⟩)&&DJ x l (n+Q (jo c.fZ))
def stR(x:XD):List CD->Int->Bool
 |[],_=>Y|c::l,f=>(jo c.fZ).all (Io x f)&&Np (jo c.fZ)&&stR x l (f+1)
def kE(x:XD):Bool:=V (¬12<(Q (kZ x.aR):Int))&&V (¬8<(Q (cx x.ax):Int))&&V (¬fm x.aJ=[])&&V (¬16<(Q (fm x.aJ):Int)) &&
 V (¬60<(Q (lU x.aI):Int))&&(cx x.ax).all (oy (nr x))&&(kZ x.aR).all (AR (nr x))&&(lU x.aI).all (pD (nr x) (Q (fm x.aJ)))&&DJ x (fm x.aJ) 0&&stR x (fm x.aJ) 0 &&
 (match jq (fm x.aJ) x.main with
  |none=>X|some m=>decide (m.params=0) && !m.bY)
theorem ZT(wl ai:Nat){x:XD}(st:aO)(B:x.ok)(hb:∀g∈fm x.aJ,Q (cx g.vars)<1000000000)(HR:∀g∈fm x.aJ,Q (jo g.fZ)<1000000000):
  (bh S).call wl ai 16 [fy x] st=Z (.bool (kE x),st):=by
 have o:=B.sl;have hR:=B.aR;have v:=B.aJ;have hS:=B.aI;have r:bf x.aR=(kZ x.aR).map RD.cells/\bf x.ax=(cx x.ax).map T3.cells/\bf x.aJ=(fm x.aJ).map CD.cells/\bf x.aI=(lU x.aI).map SD.cells:=
  ⟨oH B.aR,fA B.ax,bR B.aJ,sG B.aI⟩
 have hm:=λt=>Xr 0 0 (x:=x) t [] B;simp only[fy]at hm;refine bu (sf:=s16) rfl rfl (by simp[B.pure]) rfl (by simp) ?_;by_cases a1:12<(Q (kZ x.aR):Int);simp[kE,s16,fy,o,r,a1];by_cases a2:8<(Q (cx x.ax):Int);simp[kE,s16,fy,o,r,a1,a2];by_cases a3:fm x.aJ=[];simp[kE,s16,fy,o,r,a1,a2,a3];have W:¬(Q (fm x.aJ):Int)<1:=by have:=afr.2 a3;omega
 by_cases a4:16<(Q (fm x.aJ):Int);simp[kE,s16,fy,o,r,a1,a2,W,a4];by_cases a5:60<(Q (lU x.aI):Int);simp[kE,s16,fy,o,r,a1,a2,W,a4,a5];have e2:=Nr 0 0 (x:=x) x.ax [] B B.ax (by omega);simp only[fy]at e2;cases q2:(cx x.ax).all (oy (nr x)) with
 |false=>simp[kE,s16,fy,o,r,a1,a2,W,a4,a5,e2,q2]|true=>
  simp[s16,fy,o,r,a1,a2,W,a4,a5,e2,q2];refine bM acm.eq_1 (λk:Nat=>⟨[(1,.fp 0 0),(3,.val (.int .i64 k))],[[x.aR,x.ax,x.aJ,x.aI,.int .i64 x.main],[],[]],[]⟩)
   (λk=>k<=Q (kZ x.aR)/\Cq (AR (nr x)) (kZ x.aR) k) (λk=>Q (kZ x.aR)-k) 0 (by simp) ⟨by simp,l9⟩ ?_
  intro k ⟨hk,l⟩ I;by_cases R:k<Q (kZ x.aR);have U:=wk k (by omega);have hF:=Co hR _ (aah R);have hFs:=Lj hF;have Ji:=FY hF;have Sn:=AQ hF;have M:AR (nr x) (kZ x.aR)[k]=X->kE x=X:=λh=>by
   have h2:=lF (p:=AR (nr x)) R h;simp[kE,h2]
  by_cases g:8<Q (vr (kZ x.aR)[k].cr);have g':(8:Int)<(Q (vr (kZ x.aR)[k].cr):Int):=by omega
  have H:=M (by simp[AR,g]);simp[o,r,R,hR,RD.cells,hFs,Ji,Sn,g',H];have g':¬(8:Int)<(Q (vr (kZ x.aR)[k].cr):Int):=by omega
  simp[o,r,R,hR,RD.cells,hFs,Ji,Sn,g'];refine bM ack.eq_1 (λj:Nat=>⟨[(1,.fp 0 0),(3,.val (.int .i64 k)),(4,.val (kZ x.aR)[k].cr),(5,.val (.int .i64 j))],[[x.aR,x.ax,x.aJ,x.aI,.int .i64 x.main],[],[]],[]⟩)
   (λj=>j<=Q (vr (kZ x.aR)[k].cr)/\Cq (λf=>oy (nr x) f.t) (vr (kZ x.aR)[k].cr) j) (λj=>Q (vr (kZ x.aR)[k].cr)-j) 0 (by simp) ⟨by simp,l9⟩ ?_
  intro j ⟨hj,G⟩ ihj;by_cases y:j<Q (vr (kZ x.aR)[k].cr);have hwj:=wk j (by omega);have hc:=hm (vr (kZ x.aR)[k].cr)[j].t;cases e:oy (nr x) (vr (kZ x.aR)[k].cr)[j].t with
  |true=>
   simp[o,hF,Ji,Sn,y,FD.cells,hc,e,hwj,aA,ay];exact ihj (j+1) ⟨by omega,mc G y e⟩ (by omega)
  |false=>
   have w:=lF (p:=λf:FD=>oy (nr x) f.t) y e;have H:=M (by simp only[AR,w,Bool.and_false]);simp[o,hF,Ji,Sn,y,FD.cells,hc,e,H,aA,ay]
  have tU:j=Q (vr (kZ x.aR)[k].cr):=by omega
  have w:=om (tU ▸ G);simp[hFs,Ji,Sn,y,U];exact I (k+1) ⟨by omega,mc l R (by simp only[AR,w];simp;omega)⟩ (by omega);have dQ:k=Q (kZ x.aR):=by omega
  have t1:=om (dQ ▸ l);clear l I;simp[o,r,R];refine bM acn.eq_1 (λq:Nat×List AV=>⟨[(1,.fp 0 0),(6,.val (.int .i64 q.1))],[[x.aR,x.ax,x.aJ,x.aI,.int .i64 x.main],q.2,[]],[]⟩)
   (λq=>q.1<=Q (lU x.aI)/\Cq (pD (nr x) (Q (fm x.aJ))) (lU x.aI) q.1) (λq=>Q (lU x.aI)-q.1) (0,[]) (by simp) ⟨by simp,l9⟩ ?_
  rintro⟨k,bb⟩ ⟨hk,l⟩ I;simp only at hk l I;by_cases R:k<Q (lU x.aI);have U:=wk k (by omega);have hc:=hm (lU x.aI)[k].t;have hr:=λa b c=>AO 0 0 a b c [];have M:pD (nr x) (Q (fm x.aJ)) (lU x.aI)[k]=X->kE x=X:=λh=>by
   have h2:=lF (p:=pD (nr x) (Q (fm x.aJ))) R h;simp[kE,h2]
  by_cases f0:(lU x.aI)[k].fn<0;have H:=M (by simp[pD,f0]);simp[o,hS,r,R,SD.cells,f0,H];by_cases f1:(Q (fm x.aJ):Int)<=(lU x.aI)[k].fn;have H:=M (by simp[pD];omega);simp[o,hS,r,R,SD.cells,f0,f1,H];have f1':(lU x.aI)[k].fn<(Q (fm x.aJ):Int):=by omega
  cases e:oy (nr x) (lU x.aI)[k].t with
  |false=>
   have H:=M (by simp[pD,e]);simp[o,hS,r,R,SD.cells,f0,f1,hc,e,H]
  |true=>
   cases e2:lS (lU x.aI)[k].t with
   |false=>
    have H:=M (by simp[pD,e2]);simp[o,hS,r,R,SD.cells,f0,f1,hc,hr,e,e2,H]
   |true=>
    simp[o,hS,r,R,SD.cells,f0,f1,hc,hr,e,e2,U];exact I (k+1,_) ⟨by simp;omega,mc l R (by simp[pD,e,e2,f1'];omega)⟩ (by simp;omega)
  have dQ:k=Q (lU x.aI):=by omega
  have t2:=om (dQ ▸ l);clear l I;generalize bb=bA;simp[o,r,R];refine bM aco.eq_1 (λq:Nat×Int×List AV=>⟨[(1,.fp 0 0),(8,.val (.int .i64 q.2.1)),(9,.val (.int .i64 q.1))],[[x.aR,x.ax,x.aJ,x.aI,.int .i64 x.main],bA,q.2.2],[]⟩)
   (λq=>q.1<=Q (fm x.aJ)/\0<=q.2.1/\q.2.1<=2500/\DJ x (fm x.aJ) 0=DJ x ((fm x.aJ).drop q.1) q.2.1/\Cq (λc=>decide (¬jo c.fZ=[])) (fm x.aJ) q.1) (λq=>Q (fm x.aJ)-q.1) (0,0,[]) (by simp) ⟨by simp,by simp,by simp,by simp,l9⟩ ?_
  rintro⟨k,n,bb⟩ ⟨hk,Mu,VK,l,iT⟩ I;simp only at hk Mu VK l iT I;by_cases R:k<Q (fm x.aJ);have U:=wk k (by omega);have O:=mE v _ (aah R);have hbn:=HR _ (aah R);have hbv:=hb _ (aah R);have atj:∀h:V (¬jo (fm x.aJ)[k].fZ=[])=Y,Cq (λc:CD=>decide (¬jo c.fZ=[])) (fm x.aJ) (k+1):=λh=>mc iT R h;rw[aan R]at l;simp only[DJ]at l;have N:=lR O.1;have L:=kQ O.1;have E:=fA O.1;have F:=sF O.2;have J:=pZ O.2;have s:=uc O.2;generalize C:(fm x.aJ)[k]=c at *;have z:IntKind.i64.wrap (n+(Q (jo c.fZ):Int))=n+(Q (jo c.fZ):Int):=by rw[dg]<;>omega
  have Cm:=Nr 0 0 (x:=x) c.vars [] B O.1 hbv;simp only[fy]at Cm;have hmr:=hm c.res;have M:DJ x (fm x.aJ) 0=X->kE x=X:=λh=>by simp[kE,h]
  by_cases v4:4000<(Q (cx c.vars):Int);have H:=M (by rw[l];simp[v4]);simp[o,r,v,R,C,CD.cells,N,L,E,F,J,s,z,v4,H];by_cases P:c.params<0;have H:=M (by rw[l];simp[P]);simp[o,r,v,R,C,CD.cells,N,L,E,F,J,s,z,v4,P,H];by_cases D:6<c.params;have H:=M (by rw[l];simp[D]);simp[o,r,v,R,C,CD.cells,N,L,E,F,J,s,z,v4,P,D,H];by_cases pv:(Q (cx c.vars):Int)<c.params;have H:=M (by rw[l];simp[pv]);simp[o,r,v,R,C,CD.cells,N,L,E,F,J,s,z,v4,P,D,pv,H];cases T:(cx c.vars).all (oy (nr x)) with
  |false=>
   have H:=M (by rw[l];simp[T]);simp[o,r,v,R,C,CD.cells,N,L,E,F,J,s,z,v4,P,D,pv,Cm,T,H]
  |true=>
   by_cases i0:jo c.fZ=[];have H:=M (by rw[l];simp[i0]);simp[o,r,v,R,C,CD.cells,N,L,E,F,J,s,v4,P,D,pv,Cm,T,i0,H];have i1:¬(Q (jo c.fZ):Int)<1:=(by have:=afr.2 i0;omega);by_cases n2:2500<n+(Q (jo c.fZ):Int);have H:=M (by rw[l];simp[n2]);simp[o,r,v,R,C,CD.cells,N,L,E,F,J,s,z,v4,P,D,pv,Cm,T,i1,n2,H];cases hh:c.bY with
   |true=>
    cases e:oy (nr x) c.res with
    |false=>
     have H:=M (by rw[l];simp[hh,e]);simp[o,r,v,R,C,CD.cells,N,L,E,F,J,s,z,v4,P,D,pv,Cm,T,i1,n2,hh,hmr,e,H]
    |true=>
     simp[o,r,v,R,C,CD.cells,N,L,E,F,J,s,z,v4,P,D,pv,Cm,T,i1,n2,hh,hmr,e,U];exact I (k+1,n+(Q (jo c.fZ):Int),_) ⟨by simp;omega,by simp;omega,by simp;omega,by rw[l];simp[v4,P,D,pv,T,i0,n2,hh,e],atj (by simp[i0])⟩ (by simp;omega)
   |false=>
    cases e:iV c.res ⟨0,0,0⟩ with
    |false=>
     have H:=M (by rw[l];simp[hh,e]);simp[o,r,v,R,C,CD.cells,N,L,E,F,J,s,z,v4,P,D,pv,Cm,T,i1,n2,hh,e,H]
    |true=>
     simp[o,r,v,R,C,CD.cells,N,L,E,F,J,s,z,v4,P,D,pv,Cm,T,i1,n2,hh,e,U];exact I (k+1,n+(Q (jo c.fZ):Int),_) ⟨by simp;omega,by simp;omega,by simp;omega,by rw[l];simp[v4,P,D,pv,T,i0,n2,hh,e],atj (by simp[i0])⟩ (by simp;omega)
  have dQ:k=Q (fm x.aJ):=by omega
  rw[dQ,aaF]at l;have t3:DJ x (fm x.aJ) 0=Y:=l;have cne:∀c∈fm x.aJ,¬jo c.fZ=[]:=λc hc=>by
   have:=List.all_eq_true.1 (om (dQ ▸ iT)) c hc;simpa using this
  clear l iT I;generalize bb=bB;simp[o,r,R];refine bM acq.eq_1 (λq:Nat=>⟨[(1,.fp 0 0),(11,.val (.int .i64 q))],[[x.aR,x.ax,x.aJ,x.aI,.int .i64 x.main],bA,bB],[]⟩)
   (λq=>q<=Q (fm x.aJ)/\stR x (fm x.aJ) 0=stR x ((fm x.aJ).drop q) q) (λq=>Q (fm x.aJ)-q) 0 (by simp) ⟨by simp,by simp⟩ ?_
  intro k ⟨hk,l⟩ I;by_cases R:k<Q (fm x.aJ);have U:=wk k (by omega);have O:=mE v _ (aah R);have hbn:=HR _ (aah R);rw[aan R]at l;simp only[stR]at l;have iT:=cne _ (aah R);have hN:=O.2;have F:=sF O.2;have J:=pZ O.2;have s:=uc O.2;generalize C:(fm x.aJ)[k]=c at *;simp[o,r,v,R,C,CD.cells,J];refine bM acp.eq_1 (λj:Nat=>⟨[(1,.fp 0 0),(11,.val (.int .i64 k)),(12,.val c.fZ),(13,.val (.int .i64 j))],[[x.aR,x.ax,x.aJ,x.aI,.int .i64 x.main],bA,bB],[]⟩)
   (λj=>j<=Q (jo c.fZ)/\Cq (Io x k) (jo c.fZ) j) (λj=>Q (jo c.fZ)-j) 0 (by simp) ⟨by simp,l9⟩ ?_
  intro j ⟨hj,G⟩ ihj;by_cases y:j<Q (jo c.fZ);have hwj:=wk j (by omega);have hgi:=FZ hN _ (aah y);have iX:=aev 0 0 (x:=x) (k:Int) (i:=(jo c.fZ)[j]) [] B hgi.2 hgi.1 hb;have EH:=dY hgi.2;have ZC:=bQ hgi.1 EH;simp only[fy,eM]at iX;cases e:Io x k (jo c.fZ)[j] with
  |true=>
   simp[o,hN,J,s,y,ID.cells,ZC,iX,e,hwj,aA,ay];exact ihj (j+1) ⟨by omega,mc G y e⟩ (by omega)
  |false=>
   have w:=lF y e;have H:kE x=X:=by
    have h2:stR x (fm x.aJ) 0=X:=(by rw[l,w];rfl);simp[kE,h2]
   simp[o,hN,J,s,y,ID.cells,ZC,iX,e,H,aA,ay]
  have tU:j=Q (jo c.fZ):=by omega
  have w:=om (tU ▸ G);obtain⟨m,hm1⟩:∃m,Q (jo c.fZ)=m+1:=⟨Q (jo c.fZ)-1,by have:=afr.2 iT;omega⟩;have Jj:m<Q (jo c.fZ):=by omega
  have z:IntKind.i64.wrap ((Q (jo c.fZ):Int)-1)=(m:Int):=by rw[dg]<;>omega
  have sX:=F4 hm1;rw[w]at l;by_cases o1:(jo c.fZ)[m].op=16;simp[hN,J,s,y,z,Jj,ID.cells,o1,U];exact I (k+1) ⟨by omega,by rw[l,sX];simp[o1]⟩ (by omega);by_cases o2:(jo c.fZ)[m].op=17;simp[hN,J,s,y,z,Jj,ID.cells,o2,U];exact I (k+1) ⟨by omega,by rw[l,sX];simp[o2]⟩ (by omega);by_cases o3:(jo c.fZ)[m].op=18;simp[hN,J,s,y,z,Jj,ID.cells,o3,U];exact I (k+1) ⟨by omega,by rw[l,sX];simp[o3]⟩ (by omega);have H:kE x=X:=by
   have h2:stR x (fm x.aJ) 0=X:=(by rw[l,sX];simp[o1,o2,o3]);simp[kE,h2]
  simp[hN,J,s,y,z,Jj,ID.cells,o1,o2,o3,H];have dQ:k=Q (fm x.aJ):=by omega
  rw[dQ,aaF]at l;have t4:stR x (fm x.aJ) 0=Y:=l;simp[o,r,R];by_cases g0:0<=x.main;cases hg:jq (fm x.aJ) x.main with
  |none=>
   rcases jL hg with h0|⟨h0,h1⟩;omega;have kj:¬x.main<(Q (fm x.aJ):Int):=(by omega);have H:kE x=X:=(by simp[kE,hg]);simp[o,r,g0,kj,H]
  |some m=>
   obtain⟨mk,Xg,Jj,hq⟩:=gZ hg;have hff:kE x=(V (m.params=0) && !m.bY):=(by simp[kE,hg,a1,a2,a3,a4,a5,q2,t1,t2,t3,t4]);rw[Xg]at g0;have aD9:(mk:Int)<(Q (fm x.aJ):Int):=(by omega);by_cases P:m.params=0;simp[o,r,v,g0,Xg,Jj,hq,CD.cells,hff,P];simp[o,r,v,g0,Xg,Jj,hq,CD.cells,hff,P]
  have H:kE x=X:=by
   have:jq (fm x.aJ) x.main=K:=by simp[jq,g0]
   simp[kE,this]
  simp[g0,H]
theorem SL(x:XD):∀(l:List CD)(f n:Int),tM x l f n=(DJ x l n&&stR x l f)
 |[],_,_=>rfl|c::l,f,n=>by
  have E:yw x f=Io x f:=funext (step_eq x f);have r:V (¬(Q (jo c.fZ):Int)=0)=V (¬jo c.fZ=[]):=by simp
  simp only[tM,DJ,stR,D8,SL x l,E,r]
  ac_rfl
theorem aez(x:XD):lW x=kE x:=by
 simp only[lW,kE,SL]
 ac_rfl
end iA
