/- Part of a proof. -/
import Derived.Test.YtpnadocbfbbboaaGreatF

set_option maxRecDepth 100000
set_option maxHeartbeats 8000000
namespace P6
open Ax Go bX V7 lf mG wU Sb RJ Lx
theorem br(a b:List UInt8)(h:a.length+b.length<=4611686018427387904):∃c,c=a++b/\c.length=a.length+b.length/\iT .add (.str a) (.str b)=some (.str c):=⟨_,rfl,by simp,oY h⟩
theorem Dk(d:Nat):(Bz d).length=2*d:=by simp[Bz]
theorem aiT(es:List E)(h:∀x∈es,(jZ x).length+4<=60*E.sz x):(z0 es).length+(z1 es).length<=60*E.ey es:=by
 cases es with
 |nil=>simp[z0,z1]|cons a l=>
  have h1:=h a List.mem_cons_self;cases l with
  |nil=>simp only[z0,z1,E.ey,List.length_nil];omega|cons b l=>
   have h2:=h b (List.mem_cons_of_mem _ List.mem_cons_self);simp only[z0,z1,E.ey];omega
theorem AH:∀(l:List Sm)(d:Nat),(∀s∈l,(Sc d s).length+2*d+1<=50000*Sm.sz s)->(AD d l).length<=50000*Sm.ey l
 |[],_,_=>by simp[AD]|s::l,d,h=>by
  have h1:=h s List.mem_cons_self;have h2:=AH l d λx hx=>h x (List.mem_cons_of_mem _ hx);simp only[AD,List.length_append,List.length_cons,Dk,Sm.ey];omega
theorem abm(s:Sm):Sm.sz s=1+E.ey s.es+Sm.ey s.bd+Sm.ey s.el:=by cases s;rfl
theorem abn(s:Sm):Sa Pn s->∀d,d+Sm.sz s<=7000->(Sc d s).length+2*d+1<=50000*Sm.sz s:=by
 refine Sm.xN (P:=λs=>Sa Pn s->∀d,d+Sm.sz s<=7000->(Sc d s).length+2*d+1<=50000*Sm.sz s) (λs ib ie hw d hd=>?_) s;obtain⟨k1,k2,h3,h4,h5,h6,h7,h8,h9,zf⟩:=(nh s).1 hw;rw[nZ]at h9 zf;rw[nY]at h6;have hz:=aiT s.es λx hx=>Wl x (h6 x hx);have eI:=abm s;have hb:=AH s.bd (d+1) λx hx=>ib x hx (h9 x hx) (d+1) (by have:=Sm.cR hx;omega);have he:=AH s.el (d+1) λx hx=>ie x hx (zf x hx) (d+1) (by have:=Sm.cR hx;omega);have hp:=Dk d;rw[NS];unfold sB;by_cases c1:s.k=1;obtain⟨g1,g2,_,g3⟩:=h3 (by omega);have:=jY g1;have:=mh (qf g2) g3;rw[if_pos c1];simp only[List.length_append,List.length_cons,ZH,List.length_nil];omega;rw[if_neg c1];by_cases c2:s.k=2;obtain⟨g1,g2,_,g3⟩:=h3 (by omega);have:=jY g1;have:=mh (qf g2) g3;rw[if_pos c2];simp only[List.length_append,List.length_cons,ZI,List.length_nil];omega;rw[if_neg c2];by_cases c3:s.k=3;have:=jY (h4 c3);rw[if_pos c3];simp only[List.length_append,List.length_cons,List.length_nil];omega;rw[if_neg c3];by_cases c4:s.k=4;rw[if_pos c4];simp only[List.length_append,List.length_cons,List.length_nil];omega;rw[if_neg c4];by_cases c5:s.k=5;rw[if_pos c5];split;simp only[List.length_append,List.length_cons,wIf,List.length_nil];omega;simp only[List.length_append,List.length_cons,wIf,yA,List.length_nil];omega;rw[if_neg c5];by_cases c6:s.k=6;rw[if_pos c6];simp only[List.length_append,List.length_cons,Jw,List.length_nil];omega;rw[if_neg c6];by_cases c7:s.k=7;rw[if_pos c7];split;simp only[List.length_append,List.length_cons,RC,List.length_nil];omega;simp only[List.length_append,List.length_cons,RC,List.length_nil];omega;rw[if_neg c7];by_cases c8:s.k=8;rw[if_pos c8];simp only[List.length_append,List.length_cons,Jx,List.length_nil];omega;rw[if_neg c8];simp only[List.length_append,List.length_cons,List.length_nil];omega
theorem P9{l:List Sm}(h:xV Pn l){d:Nat}(hd:d+Sm.ey l<=7000):(AD d l).length<=50000*Sm.ey l:=
 AH l d λs hs=>abn s ((nZ _).1 h s hs) d (by have:=Sm.cR hs;omega)
theorem Qa(d:Nat):∀(l:List Sm)(s:Sm),AD d (l++[s])=AD d l++(Bz d++(Sc d s++[10]))
 |[],s=>by simp[AD]|x::l,s=>by simp[AD,Qa d l s]
theorem Mb:∀(n:Nat)(l:List Sm),Sm.ey (l.take n)<=Sm.ey l
 |0,l=>by simp[Sm.ey]|n+1,[]=>by simp|n+1,s::l=>by simp only[List.take_succ_cons,Sm.ey];have:=Mb n l;omega
def IX(d:Nat)(l:List Sm):Prop:=∀(wl J:Nat)(st:ai),(aT S).call wl J 38 [bF l,.int .i64 d] st=some (.str (AD d l),st)
theorem Z7(l:List Sm):dg 9 (bF l)=true:=by
 unfold bF;cases l with
 |nil=>rfl|cons a l=>
  simp[dg,bV,aK,cC,Sm.rows,iw,AV.aa];exact⟨by rw[Sm.aB];rfl,λx _=>by rw[Sm.aB];rfl⟩
theorem Wn(l:List Sm):bg (bF l)=Sm.rows l:=aZ
theorem Ay(N:Nat):∀(l:List Sm)(d:Nat),xV Pn l->Sm.ey l<N->d+Sm.ey l<=7000->IX d l:=by
 induction N with
 |zero=>intro l d _ hN;omega|succ N ihN=>
  intro l d hw hN hd wl J st;have dw:aR (bF l)=true:=bN;have gn:(bF l).aa=bF l:=bQ;have eM:=Wn l;have pE:(Sm.rows l).length=l.length:=by simp[iw]
  have hz:=Z7 l;have hll:=Sm.fo l;refine bn (sf:=s38) rfl rfl (by simp) rfl (by simp) ?_;generalize bF l=lv at *;simp[s38];refine bu T2.eq_1 (λk:Nat=>⟨[(0,.val lv),(1,.val (.int .i64 d)),(5,.val (.str [])),(6,.val (.str (Bz k))),(7,.val (.int .i64 k))],[[]],[]⟩)
   (λk=>k<=d) (λk=>d-k) 0 (by simp[Bz]) (by omega) ?_
  intro k hk ih;by_cases bw:k<d;have hw:=wk k (by omega);obtain⟨O1,q1,n1,k1⟩:=br (Bz k) [32,32] (by rw[Dk];simp;omega);have e:O1=Bz (k+1):=by
   rw[q1];unfold Bz;rw[show 2*(k+1)=2*k+2 by omega,<-List.replicate_append_replicate];rfl
  rw[e]at k1;have nB:=ih (k+1) (by omega) (by omega);generalize Bz (k+1)=Z at *;simp[bw,-dM,k1,hw];exact fC.2 nB;have hkd:k=d:=by omega
  subst hkd;clear ih;simp;obtain⟨F,hF⟩:∃F:Nat->List UInt8,∀j,F j=AD k (l.take j):=⟨_,λ_=>rfl⟩;refine bu T4.eq_1 (λq:Nat×List AV=>⟨[(0,.val lv),(1,.val (.int .i64 k)),(5,.val (.str (F q.1))),(6,.val (.str (Bz k))),(8,.val (.int .i64 q.1))],[q.2],[]⟩)
   (λq=>q.1<=l.length) (λq=>l.length-q.1) (0,[]) (by simp[hF,AD]) (by simp) ?_
  rintro⟨j,bx⟩ hj ih;simp only at hj ih ⊢;by_cases wF:j<l.length;have Fw:IntKind.i64.wrap ((j:Int)+1)=(j:Int)+1:=by rw[dn]<;>omega
  have GP:IntKind.i64.wrap ((k:Int)+1)=(k:Int)+1:=by rw[dn]<;>omega
  have hm:=List.getElem_mem wF;have hgs:=(nZ _).1 hw _ hm;have zi:=Sm.cR hm;have hFl:(F j).length<=50000*Sm.ey l:=by
   rw[hF];have:=AH (l.take j) k λs hs=>abn s ((nZ _).1 hw s (List.mem_of_mem_take hs)) k (by have:=Sm.cR (List.mem_of_mem_take hs);omega);have:=Mb j l;omega
  have kH:F (j+1)=F j++(Bz k++(Sc k l[j]++[10])):=by rw[hF,hF,List.take_succ_eq_append_getElem wF,Qa]
  have nB:=λb=>ih (j+1,b) (by simp only;omega) (by simp only;omega);simp only[kH]at nB;have yc:∀h:j<(Sm.rows l).length,(Sm.rows l)[j]=(l[j]).aG:=λh=>by simp only[iw,List.getElem_map]
  generalize F j=Fj at *;generalize l[j]=s at *;clear hF kH ih;obtain⟨g1,g2,g3,g4,g5,g6,g7,g8,g9,g10⟩:=(nh s).1 hgs;rw[nY]at g6;obtain⟨e1,e2,e4,e7,e9⟩:=g5;have eI:=abm s;have Wm:∀x∈s.es,(jZ x).length+4<=60*E.sz x:=λx hx=>Wl x (g6 x hx);have WX:∀x∈s.es,AO x:=λx hx=>jH x (g6 x hx) (by have:=E.cR hx;omega);have WY:∀x∈s.es,E.sz x<=E.ey s.es:=λx hx=>E.cR hx;have WZ:=ihN s.bd (k+1) g9 (by omega) (by omega);have oke:=ihN s.el (k+1) g10 (by omega) (by omega);have lnb:=P9 g9 (d:=k+1) (by omega);have lne:=P9 g10 (d:=k+1) (by omega);unfold IX at WZ oke;simp only[Int.natCast_add,Int.cast_ofNat_Int]at WZ oke;have Mh:=Dk k;obtain⟨O,qO,nO,kO⟩:=br Fj (Bz k) (by omega);have Qm:∀Z,Z.length<=100000000000->Z=O++Sc k s->iT .add (.str Z) (.str [10])=some (.str (Fj++(Bz k++(Sc k s++[10])))):=λZ hZ e=>jC (by simp;omega) (by rw[e,qO];simp);have vV:=Sm.aB s;have sA:=NS k s;have hlS:(50000*Sm.ey l:Nat)<=350000000:=by omega
  generalize Sc k s=PS at *;have hk9:s.k=1\/s.k=2\/s.k=3\/s.k=4\/s.k=5\/s.k=6\/s.k=7\/s.k=8\/s.k=9:=by omega
  rcases hk9 with c|c|c|c|c|c|c|c|c;obtain⟨t1,t2,t3,t4⟩:=g3 (by omega);have nl:=jY t1;have tl:=qf t2;have oty:=λwl J st=>mQ wl J s.on s.od tl t3 t4 st;have tpl:=mh tl t4;rw[c]at sA vV;have hp:PS=[118,97,114,32]++s.nm++[58,32]++yC s.on s.od++[59]:=by rw[sA];simp[sB,ZH]
  simp only[vV]at yc;obtain⟨O1,q1,n1,k1⟩:=br O [118,97,114,32] (by simp;omega);simp at n1;obtain⟨O2,q2,n2,k2⟩:=br O1 (s.nm) (by omega);obtain⟨O3,q3,n3,k3⟩:=br O2 [58,32] (by simp;omega);simp at n3;obtain⟨O4,q4,n4,k4⟩:=br O3 (yC s.on s.od) (by omega);obtain⟨O5,q5,n5,k5⟩:=br O4 [59] (by simp;omega);simp at n5;have kf:=Qm O5 (by omega) (by rw[hp,q5,q4,q3,q2,q1];simp);simp[dw,gn,eM,pE,hz,wF,yc,Fw,-dM,kO,k1,k2,k3,k4,k5,kf,oty,aF,aC];exact fC.2 (nB _);obtain⟨t1,t2,t3,t4⟩:=g3 (by omega);have nl:=jY t1;have tl:=qf t2;have oty:=λwl J st=>mQ wl J s.on s.od tl t3 t4 st;have tpl:=mh tl t4;obtain⟨x,hx⟩:=e2 (by omega);have w7:x∈s.es:=by rw[hx];simp
  have lx:=Wm x w7;have sx:=WY x w7;have ox:=WX x w7;unfold AO at ox;rw[E.aB]at ox;rw[c]at sA vV;have hp:PS=[108,101,116,32]++s.nm++[58,32]++yC s.on s.od++[32,61,32]++jZ x++[59]:=by rw[sA,hx];simp[sB,ZI,z0]
  rw[hx,uC,E.aB x]at vV;simp only[vV]at yc;obtain⟨O1,q1,n1,k1⟩:=br O [108,101,116,32] (by simp;omega);simp at n1;obtain⟨O2,q2,n2,k2⟩:=br O1 (s.nm) (by omega);obtain⟨O3,q3,n3,k3⟩:=br O2 [58,32] (by simp;omega);simp at n3;obtain⟨O4,q4,n4,k4⟩:=br O3 (yC s.on s.od) (by omega);obtain⟨O5,q5,n5,k5⟩:=br O4 [32,61,32] (by simp;omega);simp at n5;obtain⟨O6,q6,n6,k6⟩:=br O5 (jZ x) (by omega);obtain⟨O7,q7,n7,k7⟩:=br O6 [59] (by simp;omega);simp at n7;have kf:=Qm O7 (by omega) (by rw[hp,q7,q6,q5,q4,q3,q2,q1];simp);simp[dw,gn,eM,pE,hz,wF,yc,Fw,-dM,kO,k1,k2,k3,k4,k5,k6,k7,kf,ox,oty,aF,aC];exact fC.2 (nB _);have nl:=jY (g4 c);obtain⟨x,hx⟩:=e2 (by omega);have w7:x∈s.es:=by rw[hx];simp
  have lx:=Wm x w7;have sx:=WY x w7;have ox:=WX x w7;unfold AO at ox;rw[E.aB]at ox;rw[c]at sA vV;have hp:PS=s.nm++[32,61,32]++jZ x++[59]:=by rw[sA,hx];simp[sB,z0]
  rw[hx,uC,E.aB x]at vV;simp only[vV]at yc;obtain⟨O1,q1,n1,k1⟩:=br O (s.nm) (by omega);obtain⟨O2,q2,n2,k2⟩:=br O1 [32,61,32] (by simp;omega);simp at n2;obtain⟨O3,q3,n3,k3⟩:=br O2 (jZ x) (by omega);obtain⟨O4,q4,n4,k4⟩:=br O3 [59] (by simp;omega);simp at n4;have kf:=Qm O4 (by omega) (by rw[hp,q4,q3,q2,q1];simp);simp[dw,gn,eM,pE,hz,wF,yc,Fw,-dM,kO,k1,k2,k3,k4,kf,ox,aF,aC];exact fC.2 (nB _);obtain⟨x,y,hx,_⟩:=e4 c;have w7:x∈s.es:=by rw[hx];simp
  have lx:=Wm x w7;have sx:=WY x w7;have ox:=WX x w7;unfold AO at ox;rw[E.aB]at ox;have amy:y∈s.es:=by rw[hx];simp
  have ly:=Wm y amy;have sy:=WY y amy;have oy:=WX y amy;unfold AO at oy;rw[E.aB]at oy;rw[c]at sA vV;have hp:PS=jZ x++[32,61,32]++jZ y++[59]:=by rw[sA,hx];simp[sB,z0,z1]
  rw[hx,P8,E.aB x,E.aB y]at vV;simp only[vV]at yc;obtain⟨O1,q1,n1,k1⟩:=br O (jZ x) (by omega);obtain⟨O2,q2,n2,k2⟩:=br O1 [32,61,32] (by simp;omega);simp at n2;obtain⟨O3,q3,n3,k3⟩:=br O2 (jZ y) (by omega);obtain⟨O4,q4,n4,k4⟩:=br O3 [59] (by simp;omega);simp at n4;have kf:=Qm O4 (by omega) (by rw[hp,q4,q3,q2,q1];simp);simp[dw,gn,eM,pE,hz,wF,yc,Fw,-dM,kO,k1,k2,k3,k4,kf,ox,oy,aF,aC];exact fC.2 (nB _);obtain⟨x,hx⟩:=e2 (by omega);have vb:(bF s.bd).aa=bF s.bd:=bQ;have ve:(bF s.el).aa=bF s.el:=bQ;have rl:bg (bF s.el)=Sm.rows s.el:=Wn s.el;have rn:(Sm.rows s.el).length=s.el.length:=by simp[iw]
  have sle:aR (bF s.el)=true:=bN;cases tK:s.el.isEmpty with
  |true=>
   have el0:s.el.length=0:=(by rw[List.isEmpty_iff]at tK;rw[tK];rfl);have w7:x∈s.es:=(by rw[hx];simp);have lx:=Wm x w7;have sx:=WY x w7;have ox:=WX x w7;unfold AO at ox;rw[E.aB]at ox;rw[c]at sA vV;have hp:PS=[105,102,32]++jZ x++[32,123,10]++AD (k+1) s.bd++Bz k++[125]:=(by rw[sA,hx,tK];simp[sB,wIf,z0]);rw[hx,uC,E.aB x]at vV;simp only[vV]at yc;obtain⟨O1,q1,n1,k1⟩:=br O [105,102,32] (by simp;omega);simp at n1;obtain⟨O2,q2,n2,k2⟩:=br O1 (jZ x) (by omega);obtain⟨O3,q3,n3,k3⟩:=br O2 [32,123,10] (by simp;omega);simp at n3;obtain⟨O4,q4,n4,k4⟩:=br O3 (AD (k+1) s.bd) (by omega);obtain⟨O5,q5,n5,k5⟩:=br O4 (Bz k) (by omega);obtain⟨O6,q6,n6,k6⟩:=br O5 [125] (by simp;omega);simp at n6;have kf:=Qm O6 (by omega) (by rw[hp,q6,q5,q4,q3,q2,q1];simp);simp[dw,gn,eM,pE,hz,wF,yc,Fw,GP,-dM,kO,k1,k2,k3,k4,k5,k6,kf,ox,WZ,vb,ve,rl,rn,sle,el0,aF,aC];exact fC.2 (nB _)
  |false=>
   have el0:0<s.el.length:=List.length_pos_iff.2 λe=>by rw[e]at tK;cases tK
   have w7:x∈s.es:=(by rw[hx];simp);have lx:=Wm x w7;have sx:=WY x w7;have ox:=WX x w7;unfold AO at ox;rw[E.aB]at ox;rw[c]at sA vV;have hp:PS=[105,102,32]++jZ x++[32,123,10]++AD (k+1) s.bd++Bz k++[125]++[32,101,108,115,101,32,123,10]++AD (k+1) s.el++Bz k++[125]:=(by rw[sA,hx,tK];simp[sB,wIf,yA,z0]);rw[hx,uC,E.aB x]at vV;simp only[vV]at yc;obtain⟨O1,q1,n1,k1⟩:=br O [105,102,32] (by simp;omega);simp at n1;obtain⟨O2,q2,n2,k2⟩:=br O1 (jZ x) (by omega);obtain⟨O3,q3,n3,k3⟩:=br O2 [32,123,10] (by simp;omega);simp at n3;obtain⟨O4,q4,n4,k4⟩:=br O3 (AD (k+1) s.bd) (by omega);obtain⟨O5,q5,n5,k5⟩:=br O4 (Bz k) (by omega);obtain⟨O6,q6,n6,k6⟩:=br O5 [125] (by simp;omega);simp at n6;obtain⟨O7,q7,n7,k7⟩:=br O6 [32,101,108,115,101,32,123,10] (by simp;omega);simp at n7;obtain⟨O8,q8,n8,k8⟩:=br O7 (AD (k+1) s.el) (by omega);obtain⟨O9,q9,n9,k9⟩:=br O8 (Bz k) (by omega);obtain⟨O10,q10,n10,k10⟩:=br O9 [125] (by simp;omega);simp at n10;have kf:=Qm O10 (by omega) (by rw[hp,q10,q9,q8,q7,q6,q5,q4,q3,q2,q1];simp);simp[dw,gn,eM,pE,hz,wF,yc,Fw,GP,-dM,kO,k1,k2,k3,k4,k5,k6,k7,k8,k9,k10,kf,ox,WZ,oke,vb,ve,rl,rn,sle,el0,aF,aC];exact fC.2 (nB _)
  obtain⟨x,hx⟩:=e2 (by omega);have vb:(bF s.bd).aa=bF s.bd:=bQ;have w7:x∈s.es:=by rw[hx];simp
  have lx:=Wm x w7;have sx:=WY x w7;have ox:=WX x w7;unfold AO at ox;rw[E.aB]at ox;rw[c]at sA vV;have hp:PS=[119,104,105,108,101,32]++jZ x++[32,123,10]++AD (k+1) s.bd++Bz k++[125]:=by rw[sA,hx];simp[sB,Jw,z0]
  rw[hx,uC,E.aB x]at vV;simp only[vV]at yc;obtain⟨O1,q1,n1,k1⟩:=br O [119,104,105,108,101,32] (by simp;omega);simp at n1;obtain⟨O2,q2,n2,k2⟩:=br O1 (jZ x) (by omega);obtain⟨O3,q3,n3,k3⟩:=br O2 [32,123,10] (by simp;omega);simp at n3;obtain⟨O4,q4,n4,k4⟩:=br O3 (AD (k+1) s.bd) (by omega);obtain⟨O5,q5,n5,k5⟩:=br O4 (Bz k) (by omega);obtain⟨O6,q6,n6,k6⟩:=br O5 [125] (by simp;omega);simp at n6;have kf:=Qm O6 (by omega) (by rw[hp,q6,q5,q4,q3,q2,q1];simp);simp[dw,gn,eM,pE,hz,wF,yc,Fw,GP,-dM,kO,k1,k2,k3,k4,k5,k6,kf,ox,WZ,vb,aF,aC];exact fC.2 (nB _);rcases e7 c with hx|⟨x,hx⟩;rw[c]at sA vV;have hp:PS=[114,101,116,117,114,110]++[59]:=by rw[sA,hx];simp[sB,RC]
  rw[hx,pg]at vV;simp only[vV]at yc;obtain⟨O1,q1,n1,k1⟩:=br O [114,101,116,117,114,110] (by simp;omega);simp at n1;obtain⟨O2,q2,n2,k2⟩:=br O1 [59] (by simp;omega);simp at n2;have kf:=Qm O2 (by omega) (by rw[hp,q2,q1];simp);simp[dw,gn,eM,pE,hz,wF,yc,Fw,-dM,kO,k1,k2,kf];exact fC.2 (nB _);have w7:x∈s.es:=by rw[hx];simp
  have lx:=Wm x w7;have sx:=WY x w7;have ox:=WX x w7;unfold AO at ox;rw[E.aB]at ox;rw[c]at sA vV;have hp:PS=[114,101,116,117,114,110]++[32]++jZ x++[59]:=by rw[sA,hx];simp[sB,RC,z0]
  rw[hx,uC,E.aB x]at vV;simp only[vV]at yc;obtain⟨O1,q1,n1,k1⟩:=br O [114,101,116,117,114,110] (by simp;omega);simp at n1;obtain⟨O2,q2,n2,k2⟩:=br O1 [32] (by simp;omega);simp at n2;obtain⟨O3,q3,n3,k3⟩:=br O2 (jZ x) (by omega);obtain⟨O4,q4,n4,k4⟩:=br O3 [59] (by simp;omega);simp at n4;have kf:=Qm O4 (by omega) (by rw[hp,q4,q3,q2,q1];simp);simp[dw,gn,eM,pE,hz,wF,yc,Fw,-dM,kO,k1,k2,k3,k4,kf,ox];exact fC.2 (nB _);obtain⟨x,hx⟩:=e2 (by omega);have w7:x∈s.es:=by rw[hx];simp
  have lx:=Wm x w7;have sx:=WY x w7;have ox:=WX x w7;unfold AO at ox;rw[E.aB]at ox;rw[c]at sA vV;have hp:PS=[112,114,105,110,116,32]++jZ x++[59]:=by rw[sA,hx];simp[sB,Jx,z0]
  rw[hx,uC,E.aB x]at vV;simp only[vV]at yc;obtain⟨O1,q1,n1,k1⟩:=br O [112,114,105,110,116,32] (by simp;omega);simp at n1;obtain⟨O2,q2,n2,k2⟩:=br O1 (jZ x) (by omega);obtain⟨O3,q3,n3,k3⟩:=br O2 [59] (by simp;omega);simp at n3;have kf:=Qm O3 (by omega) (by rw[hp,q3,q2,q1];simp);simp[dw,gn,eM,pE,hz,wF,yc,Fw,-dM,kO,k1,k2,k3,kf,ox];exact fC.2 (nB _);obtain⟨x,hx,_⟩:=e9 c;have w7:x∈s.es:=by rw[hx];simp
  have lx:=Wm x w7;have sx:=WY x w7;have ox:=WX x w7;unfold AO at ox;rw[E.aB]at ox;rw[c]at sA vV;have hp:PS=jZ x++[59]:=by rw[sA,hx];simp[sB,z0]
  rw[hx,uC,E.aB x]at vV;simp only[vV]at yc;obtain⟨O1,q1,n1,k1⟩:=br O (jZ x) (by omega);obtain⟨O2,q2,n2,k2⟩:=br O1 [59] (by simp;omega);simp at n2;have kf:=Qm O2 (by omega) (by rw[hp,q2,q1];simp);simp[dw,gn,eM,pE,hz,wF,yc,Fw,-dM,kO,k1,k2,kf,ox];exact fC.2 (nB _);have zI:j=l.length:=by omega
  subst zI;rw[hF,List.take_length];simp[dw,gn,eM,pE]
end P6
namespace P6
open Ax Go bX V7 lf mG wU Sb RJ Lx
theorem vF{p:PD}(h:JE Pn p):(Di p).length<=24:=by
 have h1:=jY h.name;have h2:=mh (qf h.ty) h.od.2;simp only[Di,List.length_append,List.length_cons];omega
theorem Fo:∀l:List PD,(∀p∈l,JE Pn p)->(AE l).length<=28*l.length
 |[],_=>by simp[AE]|p::l,h=>by
  have h1:=vF (h p List.mem_cons_self);have h2:=Fo l λx hx=>h x (List.mem_cons_of_mem _ hx);simp only[AE,List.length_cons,List.length_append];omega
theorem Mc:∀l:List PD,(∀p∈l,JE Pn p)->(BA l).length<=28*l.length
 |[],_=>by simp[BA]|p::l,h=>by
  have h1:=vF (h p List.mem_cons_self);have h2:=Mc l λx hx=>h x (List.mem_cons_of_mem _ hx);simp only[BA,List.length_cons,List.length_append];omega
theorem HM(l:List PD)(h:∀p∈l,JE Pn p):(rY l).length<=28*l.length:=by
 cases l with
 |nil=>simp[rY]|cons p l=>
  have h1:=vF (h p List.mem_cons_self);have h2:=Mc l λx hx=>h x (List.mem_cons_of_mem _ hx);simp only[rY,List.length_cons,List.length_append];omega
theorem Qb{r:Rc}(h:GxR Pn r):(PV r).length<=1000:=by
 have h1:=jY h.name;have h2:=Fo r.bH h.f;have h3:=h.len;simp only[PV,List.length_append,List.length_cons,No,List.length_nil];omega
theorem Z8{p:PD}(h:JE Pn p):(Sd p).length<=1000:=by
 have h1:=vF h;simp only[Sd,List.length_append,List.length_cons,Ew,List.length_nil];omega
theorem aab{f:Fc}(h:GxF Pn f)(hs:Sm.ey f.body<=6500):(Se f).length<=400000000:=by
 have h1:=jY h.name;have h2:=HM f.params h.p;have h3:=h.len;have h4:=P9 h.body (d:=1) (by omega);have h5:(if f.ct then 58::32::yC f.on f.od else []).length<=16:=by
  split;rename_i e;have:=mh (qf (h.res e).1) (h.res e).2.2;simp only[List.length_cons];omega;simp
 simp only[Se,List.length_append,List.length_cons,zV,List.length_nil];omega
theorem w8{α:Type}{g:α->List UInt8}{n:Nat}:∀l:List α,(∀x∈l,(g x).length<=n)->(mw g l).length<=n*l.length
 |[],_=>by simp[mw]|x::l,h=>by
  have h1:=h x List.mem_cons_self;have h2:=w8 l λy hy=>h y (List.mem_cons_of_mem _ hy);simp only[mw,List.length_append,List.length_cons,Nat.mul_succ];omega
theorem AI{α:Type}{g:α->List UInt8}:∀(l:List α)(x:α),mw g (l++[x])=mw g l++g x
 |[],x=>by simp[mw]|y::l,x=>by simp[mw,AI l x]
theorem Md:∀(l:List PD)(p:PD),AE (l++[p])=AE l++(32::32::(Di p++[59,10]))
 |[],p=>by simp[AE]|x::l,p=>by simp[AE,Md l p]
theorem Me:∀(l:List PD)(p:PD),BA (l++[p])=BA l++(44::32::Di p)
 |[],p=>by simp[BA]|x::l,p=>by simp[BA,Me l p]
theorem RP(l:List PD)(p:PD):rY (l++[p])=if 0<l.length then rY l++(44::32::Di p) else Di p:=by
 cases l with
 |nil=>simp[rY,BA]|cons x l=>simp[rY,Me]
theorem Wo(wl J:Nat)(p:Pg)(h:Wb Pn p)(hs:∀f∈p.funcs,Sm.ey f.body<=6500)(st:ai):(aT S).call wl J 16 [.agg p.aG] st=some (.str (RL p),st):=by
 have r1:aR (aK 3 (p.bz.map Rc.aG))=true:=bL;have r2:(aK 3 (p.bz.map Rc.aG)).aa=aK 3 (p.bz.map Rc.aG):=bO;have r3:bg (aK 3 (p.bz.map Rc.aG))=p.bz.map Rc.aG:=aZ;have r4:dg 3 (aK 3 (p.bz.map Rc.aG))=true:=N7.nv (by simp[bV,Rc.aG]);have f1:aR (aK 7 (p.funcs.map Fc.aG))=true:=bL;have f2:(aK 7 (p.funcs.map Fc.aG)).aa=aK 7 (p.funcs.map Fc.aG):=bO;have f3:bg (aK 7 (p.funcs.map Fc.aG))=p.funcs.map Fc.aG:=aZ;have f4:dg 7 (aK 7 (p.funcs.map Fc.aG))=true:=N7.nv (by simp[bV,Fc.aG]);have g1:aR (aK 4 (p.aH.map PD.cells))=true:=bL;have g2:(aK 4 (p.aH.map PD.cells)).aa=aK 4 (p.aH.map PD.cells):=bO;have g3:bg (aK 4 (p.aH.map PD.cells))=p.aH.map PD.cells:=aZ;have g4:dg 4 (aK 4 (p.aH.map PD.cells))=true:=N7.nv (by simp[bV,PD.cells]);have pE:=h.rl;have Od:=h.gl;have Gl:=h.fl;refine bn (sf:=s16) rfl rfl (by simp[Pg.aG]) rfl (by simp) ?_;unfold Pg.aG;generalize aK 3 (p.bz.map Rc.aG)=PR at *;generalize aK 7 (p.funcs.map Fc.aG)=PF at *;generalize aK 4 (p.aH.map PD.cells)=PG at *;simp[s16,r1,f1,g1];obtain⟨FR,VN⟩:∃F:Nat->List UInt8,∀j,F j=mw PV (p.bz.take j):=⟨_,λ_=>rfl⟩;refine bu TN.eq_1 (λi:Nat=>⟨[(1,.fp 0 0),(3,.val (.str (FR i))),(4,.val (.int .i64 i))],[[PR,PG,PF],[]],[]⟩)
  (λi=>i<=p.bz.length) (λi=>p.bz.length-i) 0 (by simp[VN,mw]) (by simp) ?_
 intro i hi ih;by_cases Cz:i<p.bz.length;have Fw:IntKind.i64.wrap ((i:Int)+1)=(i:Int)+1:=by rw[dn]<;>omega
 have hm:=List.getElem_mem Cz;have hr:=h.r _ hm;have hFl:(FR i).length<=100000:=by
  rw[VN];have:=w8 (g:=PV) (n:=1000) (p.bz.take i) λx hx=>Qb (h.r x (List.mem_of_mem_take hx));have:(p.bz.take i).length<=12:=by rw[List.length_take];omega
  omega
 have kH:FR (i+1)=FR i++PV p.bz[i]:=by rw[VN,VN,List.take_succ_eq_append_getElem Cz,AI]
 have nB:=ih (i+1) (by omega) (by omega);rw[kH]at nB;have EY:(p.bz.map Rc.aG).length=p.bz.length:=by simp
 generalize FR i=Fi at *;generalize hx:p.bz[i]=r at *;have yc:r.aG=[.str r.name,aK 4 (r.bH.map PD.cells),.int .i64 r.a]:=rfl;clear VN kH ih hm;have e1:aR (aK 4 (r.bH.map PD.cells))=true:=bL;have e2:(aK 4 (r.bH.map PD.cells)).aa=aK 4 (r.bH.map PD.cells):=bO;have e3:bg (aK 4 (r.bH.map PD.cells))=r.bH.map PD.cells:=aZ;have e4:dg 4 (aK 4 (r.bH.map PD.cells))=true:=N7.nv (by simp[bV,PD.cells]);have e5:(r.bH.map PD.cells).length=r.bH.length:=by simp
 have Mk:=jY hr.name;have hlen:=hr.len;have hff:=hr.f;generalize aK 4 (r.bH.map PD.cells)=RF at *;obtain⟨O1,q1,n1,k1⟩:=br Fi [114,101,99,111,114,100,32] (by simp;omega);simp at n1;obtain⟨O2,q2,n2,k2⟩:=br O1 (r.name) (by omega);obtain⟨O3,q3,n3,k3⟩:=br O2 [32,123,10] (by simp;omega);simp at n3;simp[r1,r2,r3,r4,EY,Cz,hx,yc,-dM,k1,k2,k3];obtain⟨FF,Sf⟩:∃F:Nat->List UInt8,∀j,F j=O3++AE (r.bH.take j):=⟨_,λ_=>rfl⟩;refine bu TM.eq_1 (λj:Nat=>⟨[(1,.fp 0 0),(3,.val (.str (FF j))),(4,.val (.int .i64 i)),(5,.val (.int .i64 j))],[[PR,PG,PF],[]],[]⟩)
  (λj=>j<=r.bH.length) (λj=>r.bH.length-j) 0 (by simp[Sf,AE]) (by simp) ?_
 intro j hj jh;have ar4:(FF j).length<=101000:=by
  rw[Sf,List.length_append];have:=Fo (r.bH.take j) λx hx=>hff x (List.mem_of_mem_take hx);have:(r.bH.take j).length<=8:=by rw[List.length_take];omega
  omega
 by_cases wF:j<r.bH.length;have GP:IntKind.i64.wrap ((j:Int)+1)=(j:Int)+1:=by rw[dn]<;>omega
 have hp:=hff _ (List.getElem_mem wF);have kH:FF (j+1)=FF j++(32::32::(Di r.bH[j]++[59,10])):=by rw[Sf,Sf,List.take_succ_eq_append_getElem wF,Md,List.append_assoc]
 have Wp:=jh (j+1) (by omega) (by omega);rw[kH]at Wp;generalize FF j=Fj at *;generalize hy:r.bH[j]=x at *;have hrj:x.cells=[.str x.name,.str x.on,.int .i64 x.od,.int .i64 x.at_]:=rfl;have pk:=λwl J st=>rR wl J x hp st;have pl:=vF hp;rw[hrj]at pk;obtain⟨O4,q4,n4,k4⟩:=br Fj [32,32] (by simp;omega);simp at n4;obtain⟨O5,q5,n5,k5⟩:=br O4 (Di x) (by omega);obtain⟨O6,q6,n6,k6⟩:=br O5 [59,10] (by simp;omega);simp at n6;have kf:O6=Fj++(32::32::(Di x++[59,10])):=by rw[q6,q5,q4];simp
 rw[<-kf]at Wp;simp[r2,r3,r4,EY,Cz,hx,yc,e1,e2,e3,e4,e5,wF,hy,hrj,pk,GP,-dM,k4,k5,k6];exact fC.2 Wp;have zI:j=r.bH.length:=by omega
 subst zI;have D5:FF r.bH.length=O3++AE r.bH:=by rw[Sf,List.take_length]
 generalize FF r.bH.length=Fj at *;obtain⟨O7,q7,n7,k7⟩:=br Fj [125,10] (by simp;omega);have kf:O7=Fi++PV r:=by rw[q7,D5,q3,q2,q1];simp[PV,No]
 rw[<-kf]at nB;simp[r2,r3,r4,EY,Cz,hx,yc,e1,e2,e3,e5,Fw,-dM,k7];exact fC.2 nB;have MZ:i=p.bz.length:=by omega
 subst MZ;have hRl:(FR p.bz.length).length<=12000:=by
  rw[VN];have:=w8 (g:=PV) (n:=1000) (p.bz.take p.bz.length) λx hx=>Qb (h.r x (List.mem_of_mem_take hx));have:(p.bz.take p.bz.length).length<=12:=by rw[List.length_take];omega
  omega
 have hRe:FR p.bz.length=mw PV p.bz:=by rw[VN,List.take_length]
 clear ih;have EY:(p.bz.map Rc.aG).length=p.bz.length:=by simp
 simp[r1,r2,r3,EY];generalize FR p.bz.length=AR at *;clear VN;obtain⟨FG,hFG⟩:∃F:Nat->List UInt8,∀j,F j=AR++mw Sd (p.aH.take j):=⟨_,λ_=>rfl⟩;refine bu TO.eq_1 (λi:Nat=>⟨[(1,.fp 0 0),(3,.val (.str (FG i))),(6,.val (.int .i64 i))],[[PR,PG,PF],[]],[]⟩)
  (λi=>i<=p.aH.length) (λi=>p.aH.length-i) 0 (by simp[hFG,mw]) (by simp) ?_
 intro i hi ih;have aiW:(p.aH.map PD.cells).length=p.aH.length:=by simp
 have hFl:(FG i).length<=200000:=by
  rw[hFG,List.length_append];have:=w8 (g:=Sd) (n:=1000) (p.aH.take i) λx hx=>Z8 (h.g x (List.mem_of_mem_take hx));have:(p.aH.take i).length<=8:=by rw[List.length_take];omega
  omega
 by_cases Cz:i<p.aH.length;have Fw:IntKind.i64.wrap ((i:Int)+1)=(i:Int)+1:=by rw[dn]<;>omega
 have hp:=h.g _ (List.getElem_mem Cz);have kH:FG (i+1)=FG i++Sd p.aH[i]:=by rw[hFG,hFG,List.take_succ_eq_append_getElem Cz,AI,List.append_assoc]
 have nB:=ih (i+1) (by omega) (by omega);rw[kH]at nB;generalize FG i=Fi at *;generalize hx:p.aH[i]=x at *;have hrj:x.cells=[.str x.name,.str x.on,.int .i64 x.od,.int .i64 x.at_]:=rfl;have pk:=λwl J st=>rR wl J x hp st;have pl:=vF hp;rw[hrj]at pk;obtain⟨O1,q1,n1,k1⟩:=br Fi [103,108,111,98,97,108,32] (by simp;omega);simp at n1;obtain⟨O2,q2,n2,k2⟩:=br O1 (Di x) (by omega);obtain⟨O3,q3,n3,k3⟩:=br O2 [59,10] (by simp;omega);simp at n3;have kf:O3=Fi++Sd x:=by rw[q3,q2,q1];simp[Sd,Ew]
 rw[<-kf]at nB;simp[g1,g2,g3,g4,aiW,Cz,hx,hrj,pk,Fw,-dM,k1,k2,k3];exact fC.2 nB;have MZ:i=p.aH.length:=by omega
 subst MZ;have hGe:FG p.aH.length=mw PV p.bz++mw Sd p.aH:=by rw[hFG,List.take_length,hRe]
 clear ih;simp[g1,g2,g3,aiW];generalize FG p.aH.length=AG at *;clear hFG;obtain⟨FF,Sf⟩:∃F:Nat->List UInt8,∀j,F j=AG++mw Se (p.funcs.take j):=⟨_,λ_=>rfl⟩;refine bu TQ.eq_1 (λq:Nat×List AV=>⟨[(1,.fp 0 0),(3,.val (.str (FF q.1))),(7,.val (.int .i64 q.1))],[[PR,PG,PF],q.2],[]⟩)
  (λq=>q.1<=p.funcs.length) (λq=>p.funcs.length-q.1) (0,[]) (by simp[Sf,mw]) (by simp) ?_
 rintro⟨i,bx⟩ hi ih;simp only at hi ih ⊢;have aiX:(p.funcs.map Fc.aG).length=p.funcs.length:=by simp
 have ar7:(FF i).length<=7000000000:=by
  rw[Sf,List.length_append];have:=w8 (g:=Se) (n:=400000000) (p.funcs.take i) λx hx=>aab (h.f x (List.mem_of_mem_take hx)) (hs x (List.mem_of_mem_take hx));have:(p.funcs.take i).length<=16:=by rw[List.length_take];omega
  omega
 by_cases Cz:i<p.funcs.length;have Fw:IntKind.i64.wrap ((i:Int)+1)=(i:Int)+1:=by rw[dn]<;>omega
 have hm:=List.getElem_mem Cz;have hf:=h.f _ hm;have hsf:=hs _ hm;have kH:FF (i+1)=FF i++Se p.funcs[i]:=by rw[Sf,Sf,List.take_succ_eq_append_getElem Cz,AI,List.append_assoc]
 have nB:=λb=>ih (i+1,b) (by simp only;omega) (by simp only;omega);simp only[kH]at nB;generalize FF i=Fi at *;generalize hx:p.funcs[i]=f at *;have yc:f.aG=[.str f.name,aK 4 (f.params.map PD.cells),.bool f.ct,.str f.on,.int .i64 f.od,bF f.body,.int .i64 f.a]:=rfl;clear Sf kH ih hm;have e1:aR (aK 4 (f.params.map PD.cells))=true:=bL;have e2:(aK 4 (f.params.map PD.cells)).aa=aK 4 (f.params.map PD.cells):=bO;have e3:bg (aK 4 (f.params.map PD.cells))=f.params.map PD.cells:=aZ;have e4:dg 4 (aK 4 (f.params.map PD.cells))=true:=N7.nv (by simp[bV,PD.cells]);have e5:(f.params.map PD.cells).length=f.params.length:=by simp
 have b1:aR (bF f.body)=true:=bN;have b2:(bF f.body).aa=bF f.body:=bQ;have Mk:=jY hf.name;have hlen:=hf.len;have hff:=hf.p;have WZ:=Ay (Sm.ey f.body+1) f.body 1 hf.body (by omega) (by omega);unfold IX at WZ;have lnb:=P9 hf.body (d:=1) (by omega);simp only[Int.cast_ofNat_Int]at WZ;have aiY:Se f=zV++32::(f.name++40::(rY f.params++41::((if f.ct then 58::32::yC f.on f.od else [])++32::123::10::(AD 1 f.body++[125,10])))):=rfl;generalize bF f.body=BV at *;generalize AD 1 f.body=PB at *;generalize aK 4 (f.params.map PD.cells)=RF at *;obtain⟨O1,q1,n1,k1⟩:=br Fi [102,117,110,99,32] (by simp;omega);simp at n1;obtain⟨O2,q2,n2,k2⟩:=br O1 (f.name) (by omega);obtain⟨O3,q3,n3,k3⟩:=br O2 [40] (by simp;omega);simp at n3;simp[f1,f2,f3,f4,aiX,Cz,hx,yc,e1,e2,b1,b2,-dM,k1,k2,k3];obtain⟨FP,hFP⟩:∃F:Nat->List UInt8,∀j,F j=O3++rY (f.params.take j):=⟨_,λ_=>rfl⟩;refine bu TP.eq_1 (λj:Nat=>⟨[(1,.fp 0 0),(3,.val (.str (FP j))),(7,.val (.int .i64 i)),(8,.fp 1 0),(9,.val (.int .i64 j))],[[PR,PG,PF],[.str f.name,RF,.bool f.ct,.str f.on,.int .i64 f.od,BV,.int .i64 f.a]],[]⟩)
  (λj=>j<=f.params.length) (λj=>f.params.length-j) 0 (by simp[hFP,rY]) (by simp) ?_
 intro j hj jh;have ar8:(FP j).length<=7000001000:=by
  rw[hFP,List.length_append];have:=HM (f.params.take j) λx hx=>hff x (List.mem_of_mem_take hx);have:(f.params.take j).length<=6:=by rw[List.length_take];omega
  omega
 by_cases wF:j<f.params.length;have GP:IntKind.i64.wrap ((j:Int)+1)=(j:Int)+1:=by rw[dn]<;>omega
 have hp:=hff _ (List.getElem_mem wF);have htl:(f.params.take j).length=j:=by rw[List.length_take];omega
 have kH:FP (j+1)=if 0<j then FP j++(44::32::Di f.params[j]) else O3++Di f.params[j]:=by
  rw[hFP,hFP,List.take_succ_eq_append_getElem wF,RP,htl];split;rw[List.append_assoc]
  rfl
 have Wp:=jh (j+1) (by omega) (by omega);rw[kH]at Wp;generalize hy:f.params[j]=x at *;have hrj:x.cells=[.str x.name,.str x.on,.int .i64 x.od,.int .i64 x.at_]:=rfl;have pk:=λwl J st=>rR wl J x hp st;have pl:=vF hp;rw[hrj]at pk;by_cases h0:0<j;rw[if_pos h0]at Wp;generalize FP j=Fj at *;obtain⟨O4,q4,n4,k4⟩:=br Fj [44,32] (by simp;omega);simp at n4;obtain⟨O5,q5,n5,k5⟩:=br O4 (Di x) (by omega);have kf:O5=Fj++(44::32::Di x):=by rw[q5,q4];simp
 rw[<-kf]at Wp;simp[e1,e2,e3,e4,e5,wF,h0,hy,hrj,pk,GP,-dM,k4,k5];exact fC.2 Wp;rw[if_neg h0]at Wp;have hj0:j=0:=by omega
 have hF0:FP j=O3:=by rw[hFP,hj0];simp[rY]
 obtain⟨O4,q4,n4,k4⟩:=br O3 (Di x) (by omega);rw[<-q4]at Wp;rw[hF0];simp[e1,e2,e3,e4,e5,wF,h0,hy,hrj,pk,GP,-dM,k4];exact fC.2 Wp;have zI:j=f.params.length:=by omega
 subst zI;have D5:FP f.params.length=O3++rY f.params:=by rw[hFP,List.take_length]
 generalize FP f.params.length=Fj at *;clear jh hFP;obtain⟨O4,q4,n4,k4⟩:=br Fj [41] (by simp;omega);simp at n4;cases hh:f.ct with
 |true=>
  obtain⟨t1,t2,t3⟩:=hf.res hh;have tl:=qf t1;have oty:=λwl J st=>mQ wl J f.on f.od tl t2 t3 st;have tpl:=mh tl t3;obtain⟨O5,q5,n5,k5⟩:=br O4 [58,32] (by simp;omega);simp at n5;obtain⟨O6,q6,n6,k6⟩:=br O5 (yC f.on f.od) (by omega);obtain⟨O7,q7,n7,k7⟩:=br O6 [32,123,10] (by simp;omega);simp at n7;obtain⟨O8,q8,n8,k8⟩:=br O7 (PB) (by omega);obtain⟨O9,q9,n9,k9⟩:=br O8 [125,10] (by simp;omega);simp at n9;have kf:O9=Fi++Se f:=by rw[q9,q8,q7,q6,q5,q4,D5,q3,q2,q1,aiY,hh];simp[zV]
  simp only[<-kf]at nB;simp[e1,e2,e3,e5,b2,WZ,oty,Fw,-dM,k4,k5,k6,k7,k8,k9];exact fC.2 (nB _)
 |false=>
  obtain⟨O5,q5,n5,k5⟩:=br O4 [32,123,10] (by simp;omega);simp at n5;obtain⟨O6,q6,n6,k6⟩:=br O5 (PB) (by omega);obtain⟨O7,q7,n7,k7⟩:=br O6 [125,10] (by simp;omega);simp at n7;have kf:O7=Fi++Se f:=by rw[q7,q6,q5,q4,D5,q3,q2,q1,aiY,hh];simp[zV]
  simp only[<-kf]at nB;simp[e1,e2,e3,e5,b2,WZ,Fw,-dM,k4,k5,k6,k7];exact fC.2 (nB _)
 have MZ:i=p.funcs.length:=by omega
 subst MZ;have hFe:FF p.funcs.length=RL p:=by rw[Sf,List.take_length,hGe];simp[RL]
 rw[hFe];simp[f1,f2,f3,aiX]
end P6
