/-
  An expression.
-/
import Derived.Test.YtgblgbgjmgjfkaaGreatY
import Derived.Test.YtgblgbgjmgjfkaaGreatE

open List renaming length->Q
open Option renaming some->Z,none->K
open Bool renaming true->Y,false->X
open List renaming getElem?_set_self->aar,replicate->aag
set_option maxRecDepth 100000
set_option maxHeartbeats 8000000
namespace Gm
open Ax Go aM V7 jb jn qu K9 S9
variable {T:Px}{C:Cx}{D:Dm}{n:Nat}{fE:E->Fm->Rs->Int×Rs}{fS:Sm->Rs×Fm->Rs×Fm}{ai:Nat}{L:List Fm}{r:Rs}{I:v9}{st st':aO}{f:Fm}
theorem Gp:∀{l:List E}{r:Rs}{vs:List Int}{g:Rs},vals fE f l r=(Z vs,g)->Q vs=Q l
 |[],r,vs,g,e=>by grind [vals]|x::l,r,vs,g,e=>by
  unfold vals at e;split at e;cases e;split at e;rename_i H;cases e;simp[Gp H];cases e
theorem Bu{l}(h:Q l=1):l=[rE l]:=by
 match l,h with
 |[a],_=>rfl
theorem ZD{l}(h:Q l=2):l=[rE l,Mf l]:=by
 match l,h with
 |[a,b],_=>rfl
theorem PM(h:ee T ai (f::L) r I st)(a l)(H:r.fB=a::l):ee T ai (f::L) { r with fB:=l } { I with iv:=td I.iv 1 (Q l+1) } (st.set I.p (.rows 0 17 [cQ T (f::L) { r with fB:=l } { I with iv:=td I.iv 1 (Q l+1) }])):=by
 obtain⟨y,z,g⟩:=h.iv;rw[H]at g;refine h.aK { r with fB:=l } f (td I.iv 1 (Q l+1)) rfl rfl rfl rfl ⟨Oe y,?_,?_⟩;have:=z;cases j:I.iv<;>rw[j]at this<;>simp_all [cL,td];simp_all
theorem nO(j:Prg T C D){N gE}(eC:∀e f r,pI C r=X->gE e f r=(0,stop r))(ak4:∀e f r,pI C r=Y->N≠0->gE e f r=jD C fE fS e f (cj r))(HN:∀n,N=n+1->Hy T C D n fE fS):PE T C D N gE:=by
 intro ai L r I st f e h hw hr fM hG hn hd h0;obtain⟨s1,l1,t1,R1⟩:=oC h (by have:=j.fu;omega) C j.fuel;have e1:bn (bL e.aP)=Y:=cu;have e2:(bL e.aP).aj=bL e.aP:=ck;rw[E.aU];by_cases ho:pI C r=Y
 ·rw[af ho]at R1;obtain⟨n,rfl⟩:∃n,N=n+1:=⟨N-1,by grind [nU]⟩;have H:=HN n rfl;rw[ak4 _ _ _ ho (by omega)];rw[ho]at t1;have G1:Gd C 1 (cj r):=hG.cj ho;have G0:Gd C 0 (cj r):=G1.Ag (by omega);have VK:C.fuel<=(cj r).aL+n:=by show C.fuel<=r.aL+1+n;omega
  rw[Cs]at hw;rw[yd]at hr;have hsk:=E.sx e;have hte:(cj r).e=0:=(nU.1 ho).1;obtain⟨s2,I2,vs,t2,w,M,t,Eo⟩:=ym H e.aP R1 hw.2 hr.2 (by omega) G0 VK hd h0 hte;have S7:=kq H.oE f e.aP (cj r);have G2:=(AY H.gE f e.aP 1 (cj r) G1).1;have en:=λz y=>ud z y t;rw[w]at en;have m1:bn (cw 1 (aT vs))=Y:=ey;have m2:(cw 1 (aT vs)).aj=aN 1 (aT vs):=rfl;have m3:cU 1 (cw 1 (aT vs))=Y:=by simp_all
  have m4:bf (cw 1 (aT vs))=aT vs:=oZ;have n1:bn (aN 1 (aT vs))=Y:=bU;have n2:(aN 1 (aT vs)).aj=aN 1 (aT vs):=cg;have n3:cU 1 (aN 1 (aT vs))=Y:=jz (by simp_all);have n4:bf (aN 1 (aT vs))=aT vs:=br;cases hv:vals fE f e.aP (cj r) with
  |mk o R=>
  rw[hv]at t S7 G2 en Eo;simp only at t S7 G2 en Eo;have hlen:∀l,o=Z l->Q l=Q e.aP:=λl hl=>Gp (by rw[hv,hl]);cases o with
  |none=>
   have Yw:R.e≠0:=(by grind);have ex:jD C fE fS e f (cj r)=(0,R):=(by unfold jD;rw[hv]);rw[ex];refine⟨s2,I2,?_,w,M,t⟩;refine aG (sf:=Uf) rfl rfl rfl ?_;generalize bL e.aP=KV,cw 1 (aT vs)=MV at *;simp_all [Uf]
  |some l=>
   obtain⟨rfl,Yw⟩:l=vs/\R.e=0:=by
    grind
   have ex:jD C fE fS e f (cj r)=ju C (eF C fS) e.k e.n e.ref e.ty.r f l R:=(by unfold jD;rw[hv]);rw[ex];have hl:=hlen l rfl;obtain⟨⟨k1,k24⟩,kg,k1a,k2a,kc,kn,kf⟩:=hw.1;have Ql:=hr.1;have J:=t.P;have B:Q R.s<1000000:=(by have:=G2.s;have:=G2.st;have:=j.fuel;have:=j.fu;omega);have hg2:=G2.g;rw[w]at J;have Jo:ai<=I.p:=h.Hz;obtain⟨v',st',h1,rfl,h2⟩:∃v' st',(bh S).call 0 ai 159 [.ptr I.p 0 0 0,.agg [.int .i64 e.k,.int .i64 e.n,.str e.nm,.str e.on,.int .i64 e.od,bL e.aP,.int .i64 e.a,.int .i64 e.ty.b,.int .i64 e.ty.r,.int .i64 e.ty.d,.int .i64 e.ref]] st=Z (v',st')/\
     v'=.int .i64 (ju C (eF C fS) e.k e.n e.ref e.ty.r f l R).1/\∃I',I'.p=I.p/\I'.fl=I.fl/\ee T ai (f::L) (ju C (eF C fS) e.k e.n e.ref e.ty.r f l R).2 I' st':=by
    refine ki (sf:=Uf) rfl rfl rfl ?_;generalize bL e.aP=KV at *;generalize hMV:cw 1 (aT l)=MV at *;generalize hLV:aN 1 (aT l)=LV at *;simp[Uf,t1,t2,e1,e2,en,Yw,eu.aX,AV.aj];by_cases c1:e.k=1;have v:ju C (eF C fS) e.k e.n e.ref e.ty.r f l R=(e.n,R):=(by simp[ju,c1]);rw[v];simp[c1,gw]
    grind
    by_cases c2:e.k=2;have v:ju C (eF C fS) e.k e.n e.ref e.ty.r f l R=(e.n,R):=(by simp[ju,c2]);rw[v];simp[c2,gw]
    grind
    by_cases c3:e.k=3;have v:ju C (eF C fS) e.k e.n e.ref e.ty.r f l R=(0,R):=(by simp[ju,c3]);rw[v];simp[c3,gw]
    grind
    by_cases c4:e.k=4;have v:ju C (eF C fS) e.k e.n e.ref e.ty.r f l R=(qu.rF f R e.ref,R):=(by simp[ju,c4]);rw[v];have Gq:=j.gl;have g1:=Ql c4;have g2:=kg c4;by_cases q:e.ref<0;obtain⟨k,hk⟩:∃k:Nat,e.ref = -1-(k:Int):=⟨(-1-e.ref).toNat,by omega⟩;have rI:k<Q R.g:=(by rw[hg2,j.ng];omega);have UW:IntKind.i64.wrap (-1-(-1-(k:Int)))=(k:Int):=(by rw[dg]<;>omega);have VK : -1-(k:Int)<0:=(by omega);have hG:=t.G;have ev:qu.rF f R e.ref=R.g[k]:=by
     unfold qu.rF;rw[af q,hk,show (-1-(-1-(k:Int))).toNat=k by omega,List.getD_eq_getElem?_getD,List.getElem?_eq_getElem rI];rfl
    have hgi:(aT R.g)[k]?=Z [.int .i64 R.g[k]]:=(by simp[aT,rI]);have Gq:k<Q (aT R.g):=(by grind);rw[ev];simp[c4,gw,hk,VK,UW,J,cQ,jY,hG,cut,rI,aA,ay]
    grind
    obtain⟨k,hk⟩:∃k:Nat,e.ref=(k:Int):=⟨e.ref.toNat,by omega⟩;have rI:k<Q f.vs:=(by omega);have iT:f.vs≠[]:=(by grind);obtain⟨a,b,ha,g3,_⟩:=t.top;obtain⟨g4,_,_⟩:=g3 iT;have Lr:uK I2=a:=(by grind [uK]);have Zd:vV (p5 (f::L)) (uK I2)=.mu a.1 a.2:=(by rw[Lr];exact U iT);have VK:¬(k:Int)<0:=(by omega);have ev:qu.rF f R e.ref=f.vs[k]:=by
     simp_all [qu.rF,U]
    have hgi:(aT f.vs)[k]?=Z [.int .i64 f.vs[k]]:=(by simp_all);have Gq:k<Q (aT f.vs):=(by grind);rw[ev];simp[c4,gw,hk,VK,J,cQ,jY,Zd,g4,cut,rI,aA,ay]
    grind
    by_cases c5:e.k=5;obtain⟨a,rfl⟩:∃a,l=[a]:=⟨_,Bu (by grind)⟩;have v:ju C (eF C fS) e.k e.n e.ref e.ty.r f [a] R=vg R (lO R.s a e.ref):=(by simp[ju,c5,rE]);rw[v];have F:=λz y=>AZ z y t B a e.ref;rw[w]at F;obtain⟨O,l3,W,x⟩:=tO t (lO R.s a e.ref).1 (lO R.s a e.ref).2;rw[w]at W;simp[c5,gw,aA,ay,m3,m4,aT,F,W];exact⟨rfl,I2,w,M,x⟩;by_cases c6:e.k=6;obtain⟨a,b,rfl⟩:∃a b,l=[a,b]:=⟨_,_,ZD (by grind)⟩;have v:ju C (eF C fS) e.k e.n e.ref e.ty.r f [a,b] R=vg R (lO R.s a b):=(by simp[ju,c6,rE,Mf]);rw[v];have F:=λz y=>AZ z y t B a b;rw[w]at F;obtain⟨O,l3,W,x⟩:=tO t (lO R.s a b).1 (lO R.s a b).2;rw[w]at W;simp[c6,gw,aA,ay,m2,n3,n4,aT,F,W];exact⟨rfl,I2,w,M,x⟩;by_cases D4:e.k=10;obtain⟨a,rfl⟩:∃a,l=[a]:=⟨_,Bu (by grind)⟩;have v:ju C (eF C fS) e.k e.n e.ref e.ty.r f [a] R=vg R (AU R.s a):=(by simp[ju,D4,rE]);rw[v];have F:=λz y=>Ht z y t B a;rw[w]at F;obtain⟨O,l3,W,x⟩:=tO t (AU R.s a).1 (AU R.s a).2;rw[w]at W;simp[D4,gw,aA,ay,m3,m4,aT,F,W];exact⟨rfl,I2,w,M,x⟩;by_cases c8:e.k=8;have v:ju C (eF C fS) e.k e.n e.ref e.ty.r f l R=rG R (lX (C.aR.getD e.ty.r.toNat 0:Nat)):=(by simp[ju,c8]);rw[v];obtain⟨kn1,kn2⟩:=kn c8;rw[j.nr]at kn2;obtain⟨q,hq⟩:∃q:Nat,e.ty.r=q:=⟨e.ty.r.toNat,by omega⟩;have hq2:q<Q T.H.bN:=(by omega);have eq1:C.aR.getD e.ty.r.toNat 0=Q T.H.bN[q].2:=(by rw[j.aR,hq];simp[hq2]);rw[eq1];obtain⟨O,I3,l3,W,Ny,XU,x⟩:=Vo t B (Q T.H.bN[q].2:Nat);rw[w]at W;have b1:cU 2 (aN 2 (T.H.bN.map gh))=Y:=jz (by simp[cy,gh]);have b2:(aN 2 (T.H.bN.map gh)).aj=aN 2 (T.H.bN.map gh):=cg;have b3:bf (aN 2 (T.H.bN.map gh))=T.H.bN.map gh:=br;have z1:bn (cM T.H.bN[q].2)=Y:=iQ;have z2:(cM T.H.bN[q].2).aj=cM T.H.bN[q].2:=l8;have z5:bf (cM T.H.bN[q].2)=T.H.bN[q].2.map Vd.aK:=br;simp only[cQ,jY]at J;generalize aN 2 (T.H.bN.map gh)=BV at *;simp[c8,gw,aA,ay,J,cut,hq,b1,b2,b3,hq2,gh,z1,z2,z5,W]
    grind
    by_cases c9:e.k=9;obtain⟨a,rfl⟩:∃a,l=[a]:=⟨_,Bu (by grind)⟩;have v:ju C (eF C fS) e.k e.n e.ref e.ty.r f [a] R=pJ R a:=(by simp[ju,c9,rE]);rw[v];by_cases ha:a<0\/50<a;have an:=λz y st=>Vp z y 0 a st (.ptr I.p 0 0 11) ha;obtain⟨s4,l4,t4,R4⟩:=tO t 0 4;rw[w]at t4;have em:pJ R a=(0,eP R 4):=(by unfold pJ;grind);rw[em];simp[c9,gw,aA,ay,m3,m4,aT,an,t4]
    grind
    obtain⟨q,rfl⟩:∃q:Nat,a=q:=⟨a.toNat,by omega⟩;obtain⟨O,I3,l3,W,Ny,XU,x⟩:=Vq t B q (by omega);rw[w]at W;obtain⟨s4,l4,t4,R4⟩:=tO x (rG R q).1 0;rw[Ny,w]at t4;have em:pJ R (q:Int)=rG R q:=(by unfold pJ;grind);rw[em];simp[c9,gw,aA,ay,m3,m4,aT,W,t4];exact⟨I3,by rw[Ny,w],by rw[XU,M],R4⟩;by_cases Mg:e.k=11;have v:ju C (eF C fS) e.k e.n e.ref e.ty.r f l R=pK R:=(by simp[ju,Mg]);rw[v];obtain⟨g1,g2,g3⟩:=t.iv;have gs:=dY g1;have gv:=bQ g2 gs;have gr:=cC g1;have gz:=Er g1;cases hi:R.fB with
    |nil=>
     obtain⟨O,l3,W,x⟩:=sI t 5;rw[w]at W;have er:pK R=(0,eP R 5):=(by unfold pK;rw[hi]);rw[er];rw[hi]at g3;simp[Mg,gw,J,cQ,jY,cut,gs,gv,gr,g3,W]
     grind
    |cons b m=>
     have er:pK R=(b,{ R with fB:=m }):=(by unfold pK;rw[hi]);rw[er];have x:=PM t b m hi;rw[hi]at g3;have PN:mX (td I2.iv 1 (Q m+1))=Y/\cL (td I2.iv 1 (Q m+1))=Y:=⟨x.iv.1,x.iv.2.1⟩;have vs:=bQ PN.2 (dY PN.1);have ps:=dV (dY PN.1);have iT:¬(Q m:Int)+1=0:=(by omega);have h1:(1:Int)<=(Q m:Int)+1:=(by omega);rw[w]at x;simp[Mg,gw,J,cQ,jY,cut,gs,gv,gr,gz,g3,iT,h1,aT,bw,AV.aD,aB,Jo];exact⟨{ I2 with p:=I.p,iv:=td I2.iv 1 (Q m+1) },rfl,M,x⟩
    by_cases Ew:e.k=12;obtain⟨a,rfl⟩:∃a,l=[a]:=⟨_,Bu (by grind)⟩;have v:ju C (eF C fS) e.k e.n e.ref e.ty.r f [a] R=(unI 12 a,R):=(by simp[ju,Ew,rE]);rw[v];have un:=λz y st=>XJ z y 12 a st;simp[Ew,gw,aA,ay,m3,m4,aT,un]
    grind
    by_cases Gs:e.k=13;obtain⟨a,rfl⟩:∃a,l=[a]:=⟨_,Bu (by grind)⟩;have v:ju C (eF C fS) e.k e.n e.ref e.ty.r f [a] R=(unI 13 a,R):=(by simp[ju,Gs,rE]);rw[v];have un:=λz y st=>XJ z y 13 a st;simp[Gs,gw,aA,ay,m3,m4,aT,un]
    grind
    by_cases c7:e.k=7;have v:ju C (eF C fS) e.k e.n e.ref e.ty.r f l R=eF C fS e.ref l R:=(by simp[ju,c7]);rw[v];obtain⟨kc1,kc2,kc3⟩:=kc c7;have hb:e.ref.toNat<Q T.bs:=(by rw[<-j.ps];exact kc2);obtain⟨O,I3,W,Ny,XU,x⟩:=xW j H e.ref l (AL:=MV) (by rw[m2,hLV]) m1 t kc1 hb (by rw[hl,kc3];exact j.pv _ kc2 hb) (G2.Ag (by omega)) (by have:=S7.st;omega) hd h0;rw[w]at W;simp[c7,gw,W]
    grind
    obtain⟨a,b,rfl⟩:∃a b,l=[a,b]:=⟨_,_,ZD (by grind)⟩;have v:ju C (eF C fS) e.k e.n e.ref e.ty.r f [a,b] R=vg R (AT e.k a b):=(by grind [ju,rE,Mf]);rw[v];have bi:=λz y st=>Vs z y e.k a b st;obtain⟨O,l3,W,x⟩:=tO t (AT e.k a b).1 (AT e.k a b).2;rw[w]at W;simp[c1,c2,c3,c4,c5,c6,c7,c8,c9,D4,Mg,Ew,Gs,gw,aA,ay,m2,n3,n4,aT,bi,W];exact⟨rfl,I2,w,M,x⟩
   grind
 rw[U ho]at R1;have hof:pI C r=X:=by grind
 rw[eC _ _ _ hof];rw[hof]at t1;refine⟨s1,I,?_,rfl,rfl,R1⟩;refine aG (sf:=Uf) rfl rfl rfl ?_;simp_all [Uf]
end Gm
namespace Gm
open Ax Go aM V7 jb jn qu K9 S9
variable {T:Px}{C:Cx}{D:Dm}{n:Nat}{fE:E->Fm->Rs->Int×Rs}{fS:Sm->Rs×Fm->Rs×Fm}{ai:Nat}{L:List Fm}{r:Rs}{I:v9}{st st':aO}{f:Fm}
theorem Nz(b):∀l r,vals fE f (l++[b]) r=match vals fE f l r with
  |(K,g)=>(K,g)
  |(Z vs,g)=>if (fE b f g).2.e≠0 then (K,(fE b f g).2) else (Z (vs++[(fE b f g).1]),(fE b f g).2)
 |[],r=>by
  grind [vals]
 |e::l,r=>by
  show vals fE f (e::(l++[b])) r=_;rw[HA,HA,Nz b l]
  grind
theorem ajo(g:Prg T C D)(H:Hy T C D n fE fS)(s:Sm)(a b)(oW:s.es=[a,b])(wg:(a.k=5/\Q a.aP=1)\/(a.k=6/\Q a.aP=2))(h:ee T ai (f::L) r I st)(hwa:WL D a.aP)(hwb:WE D b)(jT:AF (Q f.vs) a.aP)(hrb:DD (Q f.vs) b)(hsa:E.eJ a.aP<1000000000)(hsb:E.sz b<1000000000)(hG:Gd C 0 r)(hn:C.fuel<=r.aL+n)(he:r.e=0)(hd:f.done=X)(h0:f.res=0):
  ∃st' I',(bh S).call 0 ai 160 [.ptr I.p 0 0 0,.agg s.aK] st=Z (.fC [],st')/\I'.p=I.p/\I'.fl=I.fl/\
   ee T ai (f::L) (match vals fE f (a.aP++[b]) r with|(K,r)=>(r,f)|(Z l,r)=>pL (r,f) a.k a.ref l).1 I' st':=by
 have e1:bn (bL s.es)=Y:=cu;have e2:(bL s.es).aj=bL s.es:=ck;have B:bf (bL s.es)=E.rows s.es:=br;have e4:cU 11 (bL s.es)=Y:=ox;have b1:bn (cn s.bd)=Y:=cW;have b2:(cn s.bd).aj=cn s.bd:=bZ;have l1:bn (cn s.el)=Y:=cW;have l2:(cn s.el).aj=cn s.el:=bZ;have er:E.rows s.es=[a.aK,b.aK]:=by rw[oW];simp[E.rows]
 have k1:bn (bL a.aP)=Y:=cu;have k2:(bL a.aP).aj=bL a.aP:=ck;have k3:bn (bL b.aP)=Y:=cu;have k4:(bL b.aP).aj=bL b.aP:=ck;rw[er]at B;obtain⟨s2,I2,vs,t2,m,il,t,Eo⟩:=ym H a.aP h hwa jT hsa hG hn hd h0 he;have G2:=(AY H.gE f a.aP 0 r hG).1;have S7:=kq H.oE f a.aP r;have P:=λwl li=>ud wl li t;rw[m]at P;have m1:bn (cw 1 (aT vs))=Y:=ey;have m2:(cw 1 (aT vs)).aj=aN 1 (aT vs):=rfl;have m3:cU 1 (cw 1 (aT vs))=Y:=by simp_all
 have m4:bf (cw 1 (aT vs))=aT vs:=oZ;have n1:bn (aN 1 (aT vs))=Y:=bU;have n2:(aN 1 (aT vs)).aj=aN 1 (aT vs):=cg;have n3:cU 1 (aN 1 (aT vs))=Y:=jz (by simp_all);have n4:bf (aN 1 (aT vs))=aT vs:=br;rw[Nz];cases hv:vals fE f a.aP r with
 |mk o M=>
 rw[hv]at t S7 G2 P Eo;simp only at t S7 G2 P Eo;have J:∀l,o=Z l->Q l=Q a.aP:=λl hl=>Gp (by rw[hv,hl]);rw[E.aU a,E.aU b]at B;rw[Sm.aU];cases o with
 |none=>
  have Yw:M.e≠0:=by grind
  refine⟨s2,I2,?_,m,il,t⟩;refine aG (sf:=OB) rfl rfl rfl ?_;generalize bL s.es=ES,cn s.bd=BD,cn s.el=EL at *;simp_all [OB]
 |some l=>
  obtain⟨rfl,Yw⟩:l=vs/\M.e=0:=by
   grind
  have hl:=J l rfl;simp only;obtain⟨s3,I3,W,N,XU,v⟩:=H.E ai L M I2 s2 f b t hwb hrb hsb G2 (by have:=S7.st;omega) hd h0;have G3:=(H.gE 0 b f M G2).1;rw[m]at W;rw[E.aU b]at W;have j:=λwl li=>ud wl li v;rw[N,m]at j;generalize fE b f M=y at *;obtain⟨w,R⟩:=y;simp only at v G3 j W ⊢;by_cases q:R.e=0;rw[U (by grind)];simp only;have F:Q R.s<1000000:=by have:=G3.s;have:=G3.st;have:=g.fuel;have:=g.fu;omega
  rcases wg with⟨G,dQ⟩|⟨G,dQ⟩;have hx:=Bu (l:=l) (by grind);generalize rE l=x at *;subst hx;have ep:pL (R,f) a.k a.ref ([x]++[w])=(eP { R with s:=uF R.s x a.ref w } (kU R.s x a.ref),f):=by simp[pL,G,rE,Mf]
  rw[ep];obtain⟨s4,l4,O,R4⟩:=yF v F x a.ref w;obtain⟨s5,l5,t5,R5⟩:=sI R4 (kU R.s x a.ref);rw[N,m]at O t5;refine⟨s5,I3,?_,by rw[N,m],by rw[XU,il],R5⟩;refine aG (sf:=OB) rfl rfl rfl ?_;generalize bL s.es=ES,cn s.bd=BD,cn s.el=EL,bL a.aP=KV,bL b.aP=KB,cw 1 (aT [x])=MV at *;simp[OB,t2,e1,e2,B,e4,b1,l1,k2,k4,P,Yw,W,j,q,G,m3,m4,aT,O,t5,eu.aX,AV.aj,aA,ay];have hx:=ZD (l:=l) (by grind);generalize rE l=x,Mf l=z at *;subst hx;have ep:pL (R,f) a.k a.ref ([x,z]++[w])=(eP { R with s:=uF R.s x z w } (kU R.s x z),f):=by simp[pL,G,rE,Mf,at2]
  rw[ep];obtain⟨s4,l4,O,R4⟩:=yF v F x z w;obtain⟨s5,l5,t5,R5⟩:=sI R4 (kU R.s x z);rw[N,m]at O t5;refine⟨s5,I3,?_,by rw[N,m],by rw[XU,il],R5⟩;refine aG (sf:=OB) rfl rfl rfl ?_;generalize bL s.es=ES,cn s.bd=BD,cn s.el=EL,bL a.aP=KV,bL b.aP=KB,cw 1 (aT [x,z])=MV,aN 1 (aT [x,z])=LV at *;simp[OB,t2,e1,e2,B,e4,b1,l1,k2,k4,P,Yw,W,j,q,G,m2,m3,m4,n3,n4,aT,O,t5,eu.aX,AV.aj,aA,ay];rw[af (by grind)];simp only;refine⟨s3,I3,?_,by rw[N,m],by rw[XU,il],v⟩;refine aG (sf:=OB) rfl rfl rfl ?_;generalize bL s.es=ES,cn s.bd=BD,cn s.el=EL,bL a.aP=KV,bL b.aP=KB,cw 1 (aT l)=MV at *;simp[OB,t2,e1,e2,B,e4,b1,l1,k2,k4,P,Yw,W,j,q,eu.aX,AV.aj]
end Gm
namespace Gm
open Ax Go aM V7 jb jn qu K9 S9
variable {T:Px}{C:Cx}{D:Dm}{n:Nat}{fE:E->Fm->Rs->Int×Rs}{fS:Sm->Rs×Fm->Rs×Fm}{ai:Nat}{L:List Fm}{r:Rs}{I:v9}{st st':aO}{f:Fm}
theorem Ta(g k v):(aT g).set k [.int .i64 v]=aT (g.set k v):=by simp[aT,List.map_set]
theorem PT(g:Prg T C D){N}(HN:∀n,N=n+1->Hy T C D n fE fS)(s:Sm)(c)(hk:s.k=6)(oW:s.es=[c])(h:ee T ai (f::L) r I st)(hw:WE D c)(hwb:WB D s.bd)(hr:DD (Q f.vs) c)(hrb:sA (Q f.vs) s.bd)(fM:E.sz c<1000000000)(azN:Sm.eJ s.bd<1000000000)(hG:Gd C 0 r)(hn:C.fuel<=r.aL+N)(hd:f.done=X)(h0:f.res=0):
  ∃st' t,(bh S).call 0 ai 139 [.ptr I.p 0 0 0,.agg s.aK] st=Z (.fC [],st')/\t.p=I.p/\t.fl=I.fl/\
   ee T ai ((cz C fE fS c s.bd N (r,f)).2::L) (cz C fE fS c s.bd N (r,f)).1 t st':=by
 have e1:bn (bL s.es)=Y:=cu;have e2:(bL s.es).aj=bL s.es:=ck;have B:bf (bL s.es)=E.rows s.es:=br;have e4:cU 11 (bL s.es)=Y:=ox;have b1:bn (cn s.bd)=Y:=cW;have b2:(cn s.bd).aj=cn s.bd:=bZ;have l1:bn (cn s.el)=Y:=cW;have l2:(cn s.el).aj=cn s.el:=bZ;have er:E.rows s.es=[c.aK]:=by rw[oW];simp[E.rows]
 have k1:bn (bL c.aP)=Y:=cu;have k2:(bL c.aP).aj=bL c.aP:=ck;rw[er]at B;rw[E.aU]at B;rw[Sm.aU];obtain⟨v',st',h1,rfl,t,h2⟩:∃v' st',(bh S).call 0 ai 139 [.ptr I.p 0 0 0,.agg [.int .i64 s.k,.str s.nm,.str s.on,.int .i64 s.od,bL s.es,cn s.bd,cn s.el,.int .i64 s.a,.int .i64 s.ref]] st=Z (v',st')/\v'=.fC []/\∃t,t.p=I.p/\t.fl=I.fl/\ee T ai ((cz C fE fS c s.bd N (r,f)).2::L) (cz C fE fS c s.bd N (r,f)).1 t st':=by
  refine ki (sf:=GN) rfl rfl rfl ?_;generalize bL s.es=ES at *;generalize hBD:cn s.bd=BD at *;generalize cn s.el=EL at *;simp[GN,e1,b1,l1,eu.aX,hk,AV.aj];refine bM Wo.eq_1 (λx:Nat×(Rs×Fm)×v9×aO=>⟨[(0,.val (.ptr I.p 0 0 0)),(3,.fp 0 0)],[[.int .i64 6,.str s.nm,.str s.on,.int .i64 s.od,ES,BD,EL,.int .i64 s.a,.int .i64 s.ref]],x.2.2.2⟩)
   (λx=>cz C fE fS c s.bd x.1 x.2.1=cz C fE fS c s.bd N (r,f)/\x.2.2.1.p=I.p/\x.2.2.1.fl=I.fl/\ee T ai (x.2.1.2::L) x.2.1.1 x.2.2.1 x.2.2.2/\Gd C 0 x.2.1.1/\Q x.2.1.2.vs=Q f.vs/\C.fuel<=x.2.1.1.aL+x.1/\C.fuel<=x.2.1.1.aL+N/\x.2.1.2.done=X/\x.2.1.2.res=0) (λx=>x.1) (N,(r,f),I,st) (by simp) ⟨rfl,rfl,rfl,h,hG,rfl,hn,hn,hd,h0⟩ ?_
  rintro⟨k,⟨R,F⟩,I1,s1⟩ ⟨l,w,J,h1,g1,v1,n1,n2,d1,z1⟩ ih;simp only at l w J h1 g1 v1 n1 n2 d1 z1 ih;obtain⟨s2,l2',m,R2⟩:=oC h1 (by have:=g.fu;omega) C g.fuel;rw[w]at m;have qd:¬F.done=Y:=by rw[d1];simp
  by_cases z:pI C R=Y;rw[af z]at R2;rw[z]at m;obtain⟨ho1,ho2⟩:=nU.1 z;obtain⟨n,rfl⟩:∃n,N=n+1:=⟨N-1,by omega⟩;obtain⟨k,rfl⟩:∃k',k=k'+1:=⟨k-1,by omega⟩;have H:=HN n rfl;have G1:Gd C 0 (cj R):=(g1.cj z).Ag (by omega);have wm:(cj R).aL=R.aL+1:=rfl;obtain⟨s3,I3,M,v,XU,R3⟩:=H.E ai L (cj R) I1 s2 F c R2 hw (by rw[v1];exact hr) fM G1 (by omega) d1 z1;rw[w]at M;have S7:=H.oE c F (cj R);have G2:=(H.gE 0 c F (cj R) G1).1;have ex:cz C fE fS c s.bd (k+1) (R,F)=if (fE c F (cj R)).2.e≠0\/(fE c F (cj R)).1=0 then ((fE c F (cj R)).2,F) else cz C fE fS c s.bd k (gj fS s.bd ((fE c F (cj R)).2,F)):=by
   (conv=>lhs;unfold cz)<;>rw[U qd,af z]
  rw[ex]at l;have O:=λwl li=>ud wl li R3;rw[v,w]at O;rw[E.aU]at M;have iX:=S7.st;by_cases q:(fE c F (cj R)).2.e≠0\/(fE c F (cj R)).1=0;rw[af q]at l;rw[<-l];generalize fE c F (cj R)=y at *;by_cases q1:y.2.e=0;have q2:y.1=0:=by omega
  simp[m,e2,B,e4,k2,AV.aj,O,M,q1,q2,gw];exact⟨I3,by rw[v,w],by rw[XU,J],R3⟩;simp[m,e2,B,e4,k2,AV.aj,O,M,q1,gw];exact⟨I3,by rw[v,w],by rw[XU,J],R3⟩;rw[U q]at l;have q1:(fE c F (cj R)).2.e=0:=Decidable.byContradiction λc=>q (.inl c);have q2:¬(fE c F (cj R)).1=0:=λc=>q (.inr c);obtain⟨s4,I4,t6,ip4,W,R4⟩:=Gn H s.bd R3 hwb (by rw[v1];exact hrb) azN G2 (by omega) (λ_=>z1);rw[v,w,hBD]at t6;obtain⟨g4,_,v4⟩:=Dq H.gS s.bd 0 ((fE c F (cj R)).2,F) G2;have azP:=lJ H.oS s.bd ((fE c F (cj R)).2,F);have aed:=azP.st;have zz:=P8 H.zS s.bd ((fE c F (cj R)).2,F) (λ_=>z1);have P4:=R4.P;rw[ip4,v,w]at P4;generalize hX:gj fS s.bd ((fE c F (cj R)).2,F)=j at *;obtain⟨r4,G⟩:=j;simp only at g4 v4 aed zz R4;generalize fE c F (cj R)=y at *;by_cases d4:G.done=Y;have ex4:cz C fE fS c s.bd k (r4,G)=(r4,G):=by cases k<;>(unfold cz;rw[af d4])
  rw[ex4]at l;rw[<-l];simp[m,e2,B,e4,k2,b2,AV.aj,O,M,t6,q1,q2,P4,cQ,jY,p5,cut,d4,gw];exact⟨I4,by omega,by rw[W,XU,J],R4⟩;have o:G.done=X:=by cases hh:G.done with|false=>rfl|true=>exact bH hh d4
  have iD:=ih (k,(r4,G),I4,s4) ⟨l,by rw[ip4,v,w],by rw[W,XU,J],R4,g4,by simp only;omega,by simp only;omega,by simp only;omega,o,zz o⟩ (by simp);simp only at iD;simp[m,e2,B,e4,k2,b2,AV.aj,O,M,t6,q1,q2,P4,cQ,jY,p5,cut,o];exact iD;rw[U z]at R2;have Qn:pI C R=X:=by cases hh:pI C R with|false=>rfl|true=>exact bH hh z
  rw[Qn]at m;have ex:cz C fE fS c s.bd k (R,F)=(stop R,F):=by
   cases k with
   |zero=>unfold cz;grind|succ k=>unfold cz;rw[U qd,U z]
  rw[ex]at l;rw[<-l];simp[m,gw];exact⟨I1,w,J,R2⟩
 grind
end Gm
namespace Gm
open Ax Go aM V7 jb jn qu K9 S9
variable {T:Px}{C:Cx}{D:Dm}{n:Nat}{fE:E->Fm->Rs->Int×Rs}{fS:Sm->Rs×Fm->Rs×Fm}{ai:Nat}{L:List Fm}{r:Rs}{I:v9}{st st':aO}{f:Fm}
theorem wm1{k:Nat}(h:k<1000000):IntKind.i64.wrap (-1-(-1-k))=k:=by rw[dg]<;>omega
theorem yg(m:Prg T C D){N gS}(hgS:∀s x,gS s x=if s.k=1 then x else if s.k=6 then cz C fE fS (jR s.es) s.bd N x else if pI C x.1=Y/\N≠0 then gQ fE fS s (cj x.1,x.2) else (stop x.1,x.2))(HN:∀n,N=n+1->Hy T C D n fE fS):PS T C D N gS:=by
 intro ai L r I st f s h hw hr fM hG hn hd h0;rw[hgS];have e1:bn (bL s.es)=Y:=cu;have e2:(bL s.es).aj=bL s.es:=ck;have b1:bn (cn s.bd)=Y:=cW;have b2:(cn s.bd).aj=cn s.bd:=bZ;have l1:bn (cn s.el)=Y:=cW;have l2:(cn s.el).aj=cn s.el:=bZ;have hse:=Sm.w9 s;rw[Gb]at hw;rw[ye]at hr;obtain⟨⟨⟨k1,k9⟩,kg,kl,kp,kr⟩,we,wb,wl⟩:=hw;obtain⟨re,rv,rg,rb,rl⟩:=hr;by_cases c1:s.k=1;rw[af c1];refine⟨st,I,?_,rfl,rfl,h⟩;rw[Sm.aU];refine aG (sf:=GN) rfl rfl rfl ?_;simp_all [GN];rw[U c1];by_cases c6:s.k=6;rw[af c6];obtain⟨c,oW⟩:∃c,s.es=[c]:=by
  have:=kl (by omega);match hh:s.es,this with
  |[c],_=>grind
 have hc:jR s.es=c:=by rw[oW];rfl
 rw[hc];have hzc:E.sz c<1000000000:=by have:=E.sw (l:=s.es) (e:=c) (by grind);omega
 exact PT m HN s c c6 oW h (by rw[oW]at we;exact we.1) wb (by rw[oW]at re;exact re.1) rb hzc (by omega) hG hn hd h0;rw[U c6];obtain⟨s1,ls1,t1,R1⟩:=oC h (by have:=m.fu;omega) C m.fuel;by_cases ho:pI C r=Y
 ·rw[af ho]at R1;rw[ho]at t1;obtain⟨n,rfl⟩:∃n,N=n+1:=⟨N-1,by grind [nU]⟩;have H:=HN n rfl;rw[af ⟨ho,by omega⟩];have G1:Gd C 1 (cj r):=hG.cj ho;have G0:Gd C 0 (cj r):=G1.Ag (by omega);have VK:C.fuel<=(cj r).aL+n:=by show C.fuel<=r.aL+1+n;omega
  have hte:(cj r).e=0:=(nU.1 ho).1;by_cases c4:s.k=4;obtain⟨a,b,oW,wg⟩:=kp c4;rw[oW]at we re;have azR:(a.k=5/\Q a.aP=1)\/(a.k=6/\Q a.aP=2):=by
   have:=(Cs a).1 we.1;obtain⟨⟨_,_,q1,q2,_⟩,_⟩:=this
   grind
  have hz1:E.eJ s.es=E.sz a+E.sz b:=by rw[oW];simp[E.eJ]
  have hz2:=E.sx a;obtain⟨B,I2,t2,w,il,t⟩:=ajo m H s a b oW azR R1 ((Cs a).1 we.1).2 we.2.1 ((yd _ a).1 re.1).2 re.2.1 (by omega) (by omega) G0 VK hte hd h0;have ex:gQ fE fS s (cj r,f)=match vals fE f (a.aP++[b]) (cj r) with|(K,r)=>(r,f)|(Z l,r)=>pL (r,f) a.k a.ref l:=by
   unfold gQ;rw[af c4]
   grind [jR]
  have ex2:(gQ fE fS s (cj r,f)).2=f:=by
   grind [pL]
  rw[ex2];rw[ex];refine⟨B,I2,?_,w,il,t⟩;rw[Sm.aU]at t2 ⊢;refine aG (sf:=GN) rfl rfl rfl ?_;generalize bL s.es=ES,cn s.bd=BD,cn s.el=EL at *;simp only[c4]at t2;simp[GN,e1,e2,b1,b2,l1,l2,eu.aX,AV.aj,c4,t1,t2];obtain⟨B,I2,vs,t2,w,il,t,Eo⟩:=ym H s.es R1 we re (by omega) G0 VK hd h0 hte;have S7:=kq H.oE f s.es (cj r);have G2:=(AY H.gE f s.es 1 (cj r) G1).1;have en:=λwl li=>ud wl li t;rw[w]at en;have m1:bn (cw 1 (aT vs))=Y:=ey;have m2:(cw 1 (aT vs)).aj=aN 1 (aT vs):=rfl;have m3:cU 1 (cw 1 (aT vs))=Y:=by simp_all
  have m4:bf (cw 1 (aT vs))=aT vs:=oZ;have n1:bn (aN 1 (aT vs))=Y:=bU;have n2:(aN 1 (aT vs)).aj=aN 1 (aT vs):=cg;have n3:cU 1 (aN 1 (aT vs))=Y:=jz (by simp_all);have n4:bf (aN 1 (aT vs))=aT vs:=br;cases hv:vals fE f s.es (cj r) with
  |mk o R=>
  rw[hv]at t S7 G2 en Eo;simp only at t S7 G2 en Eo;have hlen:∀l,o=Z l->Q l=Q s.es:=λl hl=>Gp (by rw[hv,hl]);cases o with
  |none=>
   have Yw:R.e≠0:=(by grind);have ex:gQ fE fS s (cj r,f)=(R,f):=by
    unfold gQ
    grind
   rw[ex];refine⟨B,I2,?_,w,il,t⟩;rw[Sm.aU];refine aG (sf:=GN) rfl rfl rfl ?_;generalize bL s.es=ES,cn s.bd=BD,cn s.el=EL,cw 1 (aT vs)=MV at *;simp[GN,e1,e2,b1,l1,eu.aX,AV.aj,c1,c4,c6,t1,t2,en,Yw]
  |some l=>
   obtain⟨rfl,Yw⟩:l=vs/\R.e=0:=by
    grind
   have ex:gQ fE fS s (cj r,f)=jQ fS s.k s.ref s.bd s.el l (R,f):=by
    unfold gQ
    grind
   rw[ex];have hl:=hlen l rfl;have iX:=S7.st;have M:=t.P;have hg2:=G2.g;rw[w]at M;have Jo:ai<=I.p:=h.Hz;have hlg:ai<=I2.g:=t.low _ (by rw[t.lg];decide);have Qa:=jm M
   suffices h:∃v' st',(bh S).call 0 ai 139 [.ptr I.p 0 0 0,.agg s.aK] st=Z (v',st')/\v'=.fC []/\∃I',I'.p=I.p/\I'.fl=I.fl/\ee T ai ((jQ fS s.k s.ref s.bd s.el l (R,f)).2::L) (jQ fS s.k s.ref s.bd s.el l (R,f)).1 I' st' by
    grind
   rw[Sm.aU];refine ki (sf:=GN) rfl rfl rfl ?_;generalize bL s.es=ES at *;generalize hBD:cn s.bd=BD at *;generalize hEL:cn s.el=EL at *;generalize cw 1 (aT l)=MV,aN 1 (aT l)=LV at *;simp[GN,e1,e2,b1,l1,eu.aX,AV.aj,c1,c4,c6,t1,t2,en,Yw];by_cases F:s.k=2\/s.k=3;obtain⟨a,rfl⟩:∃a,l=[a]:=⟨_,Bu (by grind)⟩;have J:jQ fS s.k s.ref s.bd s.el [a] (R,f)=cG (R,f) s.ref a:=(by unfold jQ;rw[af F];rfl);rw[J];have Gq:=m.gl;have rr:s.ref<Q f.vs∧-1-s.ref<Q R.g:=by
    rcases F with c|c
    grind
    exact⟨rg c,by rw[hg2,m.ng];exact kg c⟩
   by_cases q:s.ref<0;obtain⟨k,hk⟩:∃k:Nat,s.ref = -1-(k:Int):=⟨(-1-s.ref).toNat,by omega⟩;have rI:k<Q R.g:=(by omega);have hkb:k<1000000:=(by grind);have UW:IntKind.i64.wrap (-1-(-1-(k:Int)))=(k:Int):=wm1 hkb;have ajp : -1-(k:Int)<0:=(by omega);have hG:=t.G;have es:cG (R,f) s.ref a=({ R with g:=R.g.set k a },f):=by
    unfold cG
    grind
   have W:=t.aiv (R.g.set k a);rw[<-Ta]at W;have ajn:k<Q (aT R.g):=(by simp_all);have aew:Q (aT R.g)=Q R.g:=(by simp[aT]);rw[es];rcases F with c|c
   grind
   simp[c,hk,ajp,UW,M,cQ,jY,hG,cut,rI,m3,m4,aT,aA,ay,bw,AV.aD,AV.aH,aB,hlg,mA];exact⟨I2,w,il,W⟩;obtain⟨k,hk⟩:∃k:Nat,s.ref=(k:Int):=⟨s.ref.toNat,by omega⟩;have rI:k<Q f.vs:=(by omega);have iT:f.vs≠[]:=(by grind);obtain⟨a',b',ha,g3,_⟩:=t.top;obtain⟨g4,g5,_⟩:=g3 iT;have Lr:uK I2=a':=(by grind [uK]);have Zd:vV (p5 (f::L)) (uK I2)=.mu a'.1 a'.2:=(by rw[Lr];exact U iT);have ajp:¬(k:Int)<0:=(by omega);have sX:ai<=a'.1:=t.low _ (by grind);have es:cG (R,f) s.ref a=(R,{ f with vs:=f.vs.set k a }):=by
    unfold cG
    grind
   have W:=t.XI (vs':=f.vs.set k a) (by simp) iT;rw[Lr,<-Ta]at W;have ajn:k<Q (aT f.vs):=(by simp_all);have aew:Q (aT f.vs)=Q f.vs:=(by simp[aT]);rw[es];rcases F with c|c;simp[c,hk,ajp,M,cQ,jY,Zd,g4,cut,rI,m3,m4,aT,aA,ay,bw,AV.aD,AV.aH,aB,sX,mA];exact⟨I2,w,il,W⟩;simp[c,hk,ajp,M,cQ,jY,Zd,g4,cut,rI,m3,m4,aT,aA,ay,bw,AV.aD,AV.aH,aB,sX,mA];exact⟨I2,w,il,W⟩;have c2:¬s.k=2:=λc=>F (.inl c);have c3:¬s.k=3:=λc=>F (.inr c);by_cases c5:s.k=5;obtain⟨a,rfl⟩:∃a,l=[a]:=⟨_,Bu (by grind)⟩;by_cases a0:a=0;have J:jQ fS s.k s.ref s.bd s.el [a] (R,f)=gj fS s.el (R,f):=(by simp[jQ,c5,rE,a0]);rw[J];obtain⟨s3,I3,t3,Ny,XU,W⟩:=Gn H s.el t wl rl (by omega) (G2.Ag (by omega)) (by omega) (λ_=>h0);rw[w,hEL]at t3;simp[c5,mA,m3,m4,aT,a0,l2,t3]
   grind
   have J:jQ fS s.k s.ref s.bd s.el [a] (R,f)=gj fS s.bd (R,f):=(by simp[jQ,c5,rE,a0]);rw[J];obtain⟨s3,I3,t3,Ny,XU,W⟩:=Gn H s.bd t wb rb (by omega) (G2.Ag (by omega)) (by omega) (λ_=>h0);rw[w,hBD]at t3;simp[c5,mA,m3,m4,aT,a0,b2,t3]
   grind
   by_cases c7:s.k=7;have EH:∀y,(B.set I.p y)[I.p]?=Z y:=λy=>aar Qa;have Bt:∀y z,(B.set I.p y).set I.p z=B.set I.p z:=λy z=>List.set_set ..
   have htf:p5 (f::L)=f:=rfl;match l,hl with
   |[],hl=>
    have J:jQ fS s.k s.ref s.bd s.el [] (R,f)=(R,{ f with done:=Y }):=(by simp[jQ,c7]);rw[J];have W:ee T ai ({ f with done:=Y }::L) R I2 (B.set I.p (.rows 0 17 [cQ T ({ f with done:=Y }::L) R I2])):=by
     rw[<-w];exact t.aK R { f with done:=Y } I2.iv rfl rfl rfl rfl t.iv
    simp[c7,aB,mA,M,cQ,jY,htf,bw,AV.aD,AV.aH,n1,n4,m2,aT,Jo,EH,Bt,h0]
    grind [cQ,jY,p5,vV]
   |a::l',hl=>
    have J:jQ fS s.k s.ref s.bd s.el (a::l') (R,f)=(R,{ f with done:=Y,res:=a }):=(by simp[jQ,c7,rE]);rw[J];have W:ee T ai ({ f with done:=Y,res:=a }::L) R I2 (B.set I.p (.rows 0 17 [cQ T ({ f with done:=Y,res:=a }::L) R I2])):=by
     rw[<-w];exact t.aK R { f with done:=Y,res:=a } I2.iv rfl rfl rfl rfl t.iv
    simp[c7,aB,mA,M,cQ,jY,htf,cut,bw,AV.aD,AV.aH,n1,n4,m2,m3,m4,aT,Jo,EH,Bt]
    grind [cQ,jY,p5,vV]
   by_cases c8:s.k=8
   ·obtain⟨a,rfl⟩:∃a,l=[a]:=⟨_,Bu (by grind)⟩;have J:jQ fS s.k s.ref s.bd s.el [a] (R,f)=({ R with out:=R.out++[a] },f):=(by simp[jQ,c8,rE]);rw[J];have iT:R.out++[a]≠[]:=(by simp);have hol:Q R.out<1000000:=(by have:=G2.o;have:=G2.st;have:=m.fuel;have:=m.fu;omega);have hov:∀i v,oV (R.out++[a]) i v=.mu i v:=λi v=>U iT;by_cases hO0:R.out=[]
    ·obtain⟨s3,hs3⟩:∃s,s=B++[.rows 0 1 (aT [a])]:=⟨_,rfl⟩;have P3:s3[I.p]?=Z (.rows 0 17 [cQ T (f::L) R I2]):=(by grind);have xz:ee T ai (f::L) { R with out:=R.out++[a] } { I2 with o:=Q B,ov:=0,ku:=λj=>if j=Q B then .o else I2.ku j } (s3.set I.p (.rows 0 17 [cQ T (f::L) { R with out:=R.out++[a] } { I2 with o:=Q B,ov:=0 }])):=by
      refine t.Gh iT (.inr (Nat.le_refl _)) (λj hj hp _=>?_) ?_ ?_
      grind
      all_goals grind
     have Qn:oV R.out I2.o I2.ov=.aF:=(by unfold oV;grind);simp only[cQ,jY,Qn]at M P3;simp only[cQ,jY,hov]at xz;have q3:B++[.rows 0 1 [[.int .i64 a]]]=s3:=hs3.symm;have hrm:(8:Nat)<=dj:=(by unfold dj;omega);simp[c8,aB,M,cut,m3,m4,aT,aA,ay,dO,fO,cy,hrm,q3,P3,bw,AV.aD,AV.aH,mA,Jo];exact⟨_,by exact w,by exact il,xz⟩
    ·have hO:=t.O hO0;have hoo:=t.lo hO0;have hpo:I.p≠I2.o:=λe=>by
      grind
     have GC:=t.low _ (show I2.ku I2.o≠.no by grind);obtain⟨s3,hs3⟩:∃s,s=B.set I2.o (.rows (I2.ov+1) 1 (aT (R.out++[a]))):=⟨_,rfl⟩;have P3:s3[I.p]?=Z (.rows 0 17 [cQ T (f::L) R I2]):=(by grind);have xz:ee T ai (f::L) { R with out:=R.out++[a] } { I2 with o:=I2.o,ov:=I2.ov+1,ku:=λj=>if j=I2.o then .o else I2.ku j } (s3.set I.p (.rows 0 17 [cQ T (f::L) { R with out:=R.out++[a] } { I2 with o:=I2.o,ov:=I2.ov+1 }])):=by
      refine t.Gh iT (.inl ⟨hO0,rfl⟩) (λj hj hp hq=>?_) ?_ ?_
      grind
      all_goals grind
     have Qn:oV R.out I2.o I2.ov=.mu I2.o I2.ov:=(by unfold oV;grind);simp only[cQ,jY,Qn]at M P3;simp only[cQ,jY,hov]at xz;have q2:aT R.out++[[.int .i64 a]]=aT (R.out++[a]):=(by simp[aT]);have hrm:(Q (aT R.out)+1)*8<=dj:=(by grind [aT,dj]);have azT:(Q R.out+1)*8<=dj:=(by unfold dj;omega);have m4':bf MV=[[.int .i64 a]]:=(by rw[m4];rfl);simp[c8,aB,M,hO,cut,m3,m4',aA,ay,dO,fO,cy,azT,q2,hs3.symm,P3,bw,AV.aD,AV.aH,mA,Jo,GC];exact⟨_,by exact w,by exact il,xz⟩
   have J:jQ fS s.k s.ref s.bd s.el l (R,f)=(R,f):=(by grind [jQ]);rw[J];simp[c2,c3,c5,c7,c8,mA]
   grind
 rw[U ho]at R1;have hof:pI C r=X:=by grind
 rw[U (by grind)];rw[hof]at t1;refine⟨s1,I,?_,rfl,rfl,R1⟩;rw[Sm.aU];refine aG (sf:=GN) rfl rfl rfl ?_;generalize bL s.es=ES,cn s.bd=BD,cn s.el=EL at *;simp[GN,e1,b1,l1,eu.aX,AV.aj,c1,c6,t1]
end Gm
namespace Gm
open Ax Go aM V7 jb jn qu K9 S9
variable {T:Px}{C:Cx}{D:Dm}
theorem akK(g:Prg T C D):∀n,Hy T C D n (ev C n).1 (ev C n).2
 |0=>by
  refine⟨(mN 0).1,(mN 0).2,(Ns 0).1,(Ns 0).2,ajm 0,?_,?_⟩;exact nO (fE:=λ_ _ r=>(0,stop r)) (fS:=λ_ x=>x) g (N:=0) (λ_ _ _ _=>rfl) (λ_ _ _ _ h=>bH rfl h) (λn h=>by cases h);refine yg (fE:=λ_ _ r=>(0,stop r)) (fS:=λ_ x=>x) g (N:=0) (λs x=>?_) (λn h=>by cases h);show (if s.k=1 then x else if s.k=6 then cz C (λ_ _ r=>(0,stop r)) (λ_ x=>x) (jR s.es) s.bd 0 x else (stop x.1,x.2):Rs×Fm)=_;simp
 |n+1=>by
  have j:=akK g n;refine⟨(mN (n+1)).1,(mN (n+1)).2,(Ns (n+1)).1,(Ns (n+1)).2,ajm (n+1),?_,?_⟩;refine nO (fE:=(ev C n).1) (fS:=(ev C n).2) g (N:=n+1) (λe f r h=>?_) (λe f r h _=>?_) (λm h=>by cases h;exact j);show (if pI C r=Y then jD C (ev C n).1 (ev C n).2 e f (cj r) else (0,stop r):Int×Rs)=_;rw[U (by rw[h];simp)];show (if pI C r=Y then jD C (ev C n).1 (ev C n).2 e f (cj r) else (0,stop r):Int×Rs)=_;rw[af h];refine yg (fE:=(ev C n).1) (fS:=(ev C n).2) g (N:=n+1) (λs x=>?_) (λm h=>by cases h;exact j);show (if s.k=1 then x else if s.k=6 then cz C (ev C n).1 (ev C n).2 (jR s.es) s.bd (n+1) x
   else if pI C x.1=Y then gQ (ev C n).1 (ev C n).2 s (cj x.1,x.2) else (stop x.1,x.2):Rs×Fm)=_
  simp
end Gm
namespace Gm
open Ax Go aM V7 jb jn qu K9 S9
theorem qI{wl}:∀l st,kI wl (aT l) st=Z (aT l,st)
 |[],st=>rfl|n::l,st=>by
  have g:=qI (wl:=wl) l st;simp only[aT,List.map_cons]at *;simp[kI,mg,nH,AV.aH,AV.aj,g]
def Bv(l:List Int):AV:=if l=[] then .aF else .eE 1 (aT l)
theorem PU{T ai L r I st}(h:ee T ai L r I st):∃st',rO 0 (oV r.out I.o I.ov) st=Z (Bv r.out,st')/\st'[I.p]?=st[I.p]?/\Q st'=Q st:=by
 unfold Bv oV;by_cases q:r.out=[];rw[af q,af q];exact⟨st,rfl,rfl,rfl⟩;rw[U q,U q];have k:=h.O q;have g:(aT r.out).isEmpty=X:=by
  cases l:r.out with
  |nil=>grind|cons a b=>rfl
 have t:I.o≠I.p:=λe=>by
  have H:=h.lo q;rw[e,h.lp]at H;cases H
 refine⟨st.set I.o (.rows (I.ov+1) 1 []),?_,List.getElem?_set_ne t,by simp⟩;show jN 0 (.mu I.o I.ov) st=_
 grind [jN,qI]
theorem NA(l):(Bv l).aH=Y:=by
 unfold Bv;split<;>rfl
def CF(r:Rs):AV:=.agg [.int .i64 r.e,.int .i64 r.code,Bv r.out,.int .i64 r.aL]
theorem Z7(r):(CF r).aH=Y:=by simp only[CF,AV.aH,AV.aD,NA,Bool.and_self]
def A6(H:Hd)(bs:List Bd)(fuel:Nat):Cx:=⟨fuel,H.bN.map (·.2.length),bs,Q H.ax⟩
def D9:Rs:=⟨[],[],[],0,0,0,[],0⟩
def CI(p:Pg)(fB:List Int)(fuel:Nat):Rs:=match qc p with
 |some _=>D9|none=>match rK (aY p) (aY p).aZ p.funcs with
  |.error _=>D9|.ok bs=>run (A6 (aY p) bs fuel) (dJ p) fB
def aor(j:Nat):Lb:=if j=0 then .p else if j=1 then .g else .no
open N7 U7 in
theorem KC(p:Pg){fB:AV}(hi:mX fB=Y)(eC:cL fB=Y)(fuel:Int)(_:fuel<1000000)(hg:(mw p).ok)(sJ:GD.sm (mw p))(fM:∀f∈p.funcs,Q f.params+Sm.eJ f.body<1000000000)(vm:∀bs,rK (aY p) (aY p).aZ p.funcs=.ok bs->∀b∈bs,Sm.eJ b.code<1000000000/\Q b.vars<1000000000)(hK:∀bs,qc p=K->rK (aY p) (aY p).aZ p.funcs=.ok bs->Prg ⟨aY p,dJ p,bs,fuel.toNat⟩ (A6 (aY p) bs fuel.toNat) (zG (aY p))/\0<=dJ p/\(dJ p).toNat<Q bs)(wl li:Nat)(st:aO):
  (bh S).call wl li 13 [.agg p.aK,fB,.int .i64 fuel] st=Z (CF (CI p (dI fB) fuel.toNat),st):=by
 have l:=λwl ai st=>R9.Li wl ai p st hg sJ fM;have o:=λwl ai st=>S9.SB wl ai p st hg sJ fM vm;have hs:=dY hi;have hv:=bQ eC hs;have hpi:=dV hs;refine bu (sf:=s13) rfl rfl (by simp[Pg.aK,AV.aD,AV.aH,hpi]) rfl (Z7 _) ?_;unfold u5 at l;unfold CI;have R:bn (aN 3 (p.aR.map Rc.aK))=Y:=bU;have r2:(aN 3 (p.aR.map Rc.aK)).aj=aN 3 (p.aR.map Rc.aK):=cg;have J:bn (aN 7 (p.funcs.map Fc.aK))=Y:=bU;have M:(aN 7 (p.funcs.map Fc.aK)).aj=aN 7 (p.funcs.map Fc.aK):=cg;have N:bn (aN 4 (p.ax.map PD.cells))=Y:=bU;have O:(aN 4 (p.ax.map PD.cells)).aj=aN 4 (p.ax.map PD.cells):=cg;simp only[Pg.aK]at l o ⊢;generalize aN 3 (p.aR.map Rc.aK)=PR,aN 7 (p.funcs.map Fc.aK)=PF,aN 4 (p.ax.map PD.cells)=PG at *;cases hF:kR (mw p) with
 |some a=>
  have W:qc p=Z a:=by unfold qc;rw[hF]
  rw[hF]at l;rw[W];simp only[CF,D9,Bv]at l ⊢;simp[s13,l,R,r2,J,M,N,O,aB,AV.aj,bO,cut]
 |none=>
  rw[hF]at l;simp only at l ⊢;cases hR:rK (aY p) (aY p).aZ p.funcs with
  |error a=>
   have W:qc p=Z a:=(by grind [qc]);rw[hR]at l;rw[W];simp only[CF,D9,Bv,FC]at l ⊢;simp[s13,l,R,r2,J,M,N,O,aB,AV.aj,bO,cut]
  |ok bs=>
   rw[hR]at l;simp only[FC,qQ,List.cons_append,List.nil_append]at l ⊢;cases hO:qc p with
   |some a=>
    rw[hO]at o;simp only[CF,D9,Bv,G8]at o ⊢;simp[s13,l,o,R,r2,J,M,N,O,aB,AV.aj,bO,cut,cE,cX]
   |none=>
    rw[hO]at o;simp only[G8,cE,cX]at o;obtain⟨h,hm0,hmb⟩:=hK bs hO hR;have hrm:(Q (aY p).ax:Int)*8<=dj:=(by have:=h.gl;grind [dj,zG]);have u1:bn (cM (aY p).ax)=Y:=iQ;have u2:(cM (aY p).ax).aj=cM (aY p).ax:=l8;have u3:bf (cM (aY p).ax)=(aY p).ax.map Vd.aK:=br;have a1:bn (aN 2 ((aY p).bN.map gh))=Y:=bU;have a2:(aN 2 ((aY p).bN.map gh)).aj=aN 2 ((aY p).bN.map gh):=cg;have b1:bn (aN 6 ((aY p).aZ.map Sg.aK))=Y:=bU;have b2:(aN 6 ((aY p).aZ.map Sg.aK)).aj=aN 6 ((aY p).aZ.map Sg.aK):=cg;have z1:bn (aN 3 (bs.map Bd.aK))=Y:=bU;have z2:(aN 3 (bs.map Bd.aK)).aj=aN 3 (bs.map Bd.aK):=cg;have hrc:∀n rows,(AV.raw n rows).cells=[.raw n rows]:=λ_ _=>rfl;obtain⟨n,hn⟩:∃n:Nat,fuel.toNat=n:=⟨_,rfl⟩;rw[hn]at h;rw[hn];have hmx:(if fuel<0 then 0 else fuel)=(n:Int):=(by grind);have hri:∀n rows,(AV.raw n rows).cT=Y:=λ_ _=>rfl;have fR:aag (Q (aY p).ax) [AV.int .i64 0]=aT (aag (Q (aY p).ax) 0):=(by simp[aT]);generalize hHS:aN 2 ((aY p).bN.map gh)=HS at *;generalize hHG:aN 6 ((aY p).aZ.map Sg.aK)=HG at *;generalize hGL:cM (aY p).ax=GL at *;generalize hBV:aN 3 (bs.map Bd.aK)=BV at *;simp[s13,l,o,R,r2,J,M,N,O,aB,AV.aj,bO,cut,aA,ay,hs,u1,u2,u3,a1,a2,b1,b2,z1,z2,hrm,hrc,hri,hmx,fR,AV.aD,AV.aH,eu.aX];rw[Ep];refine⟨0,0,0,0,_,.mu 1 0,_,_,rfl,rfl,rfl,rfl,?_⟩;subst hHS hHG hGL hBV;have R0:ee ⟨aY p,dJ p,bs,n⟩ 0 [f0] (r0 (A6 (aY p) bs n) (dI fB)) ⟨0,0,0,1,0,0,[],[(0,0)],aor,fB⟩ [.rows 0 17 [jY ⟨aY p,dJ p,bs,n⟩ fB 0 0 .aF 0 .aF 1 0 .aF X 0],.rows 0 1 (aT (aag (Q (aY p).ax) 0))]:=by
     refine⟨rfl,⟨hi,eC,rfl⟩,rfl,λe=>bH rfl e,λk hk=>by simp at hk,rfl,⟨λe=>bH rfl e,trivial⟩,λe=>bH rfl e,rfl,rfl,λe=>bH rfl e,λe=>bH rfl e,by simp,λe=>bH rfl e,by simp,by simp[kX,f0],by simp[kX,f0],λ_ _=>Nat.zero_le _⟩
    have H:=akK h (A6 (aY p) bs n).fuel;have G0:Gd (A6 (aY p) bs n) 0 (r0 (A6 (aY p) bs n) (dI fB)):=⟨by simp[r0],by simp[r0],by simp[r0,A6],by simp[r0],by simp[r0]⟩;obtain⟨s1,j,B,z,il,w⟩:=xW h H (dJ p) [] (AL:=.aF) rfl rfl R0 hm0 hmb (by simp) G0 (by simp[r0]) rfl rfl;simp only at B z;unfold run;generalize eF (A6 (aY p) bs n) (ev (A6 (aY p) bs n) (A6 (aY p) bs n).fuel).2 (dJ p) [] (r0 (A6 (aY p) bs n) (dI fB))=y at *;obtain⟨y1,R⟩:=y;simp only at w B ⊢;have en:=λwl li=>ud wl li w;rw[z]at en;have P1:=w.P;rw[z]at P1;simp only[jY]at B;simp only[cQ,jY]at P1
    push_cast at B
    obtain⟨s2,t,R2⟩:∃s2,s2=(if R.e=0 then s1.set 0 (.rows 0 17 [cQ ⟨aY p,dJ p,bs,n⟩ [f0] { R with e:=1 } j]) else s1)/\ee ⟨aY p,dJ p,bs,n⟩ 0 [f0] (qW R) j s2:=by
     unfold qW;by_cases m:R.e=0;rw[af m,af m];refine⟨_,rfl,?_⟩;have hq:∀q,q=j.p->ee ⟨aY p,dJ p,bs,n⟩ 0 [f0] { R with e:=1 } j (s1.set q (.rows 0 17 [cQ ⟨aY p,dJ p,bs,n⟩ [f0] { R with e:=1 } j])):=λq hq=>by
      rw[hq];exact w.aK { R with e:=1 } f0 j.iv rfl rfl rfl rfl w.iv
     grind
     grind
    have F:=R2.P;rw[z]at F;obtain⟨s4,o1,o2,o3⟩:=PU R2;rw[z]at o2;have l1:0<Q s4:=(by grind);have P4:=o2.trans F;have ov:=NA (qW R).out;have ow:(Bv (qW R).out).aj=Bv (qW R).out:=(by unfold Bv;split<;>rfl);have oc:(Bv (qW R).out).cT=Y:=(by unfold Bv;split<;>rfl);obtain⟨s5,x⟩:∃s,s=s4.set 0 (.rows 0 17 [jY ⟨aY p,dJ p,bs,n⟩ j.iv (qW R).e (qW R).code (Bv (qW R).out) (qW R).aL (lV (qW R).s j.q j.v) j.g (qW R).nf (vV (p5 [f0]) (uK j)) (p5 [f0]).done (p5 [f0]).res]):=⟨_,rfl⟩;have G:=aar (a:=iW.rows 0 17 [jY ⟨aY p,dJ p,bs,n⟩ j.iv (qW R).e (qW R).code (Bv (qW R).out) (qW R).aL (lV (qW R).s j.q j.v) j.g (qW R).nf (vV (p5 [f0]) (uK j)) (p5 [f0]).done (p5 [f0]).res]) l1;rw[<-x]at G;simp only[cQ,jY]at t F P4 G x;by_cases m:R.e=0;rw[af m]at t;simp[aB,B,en,m,P1,cut,bw,AV.aD,AV.aH,<-t];rw[Ep];refine⟨0,0,0,0,_,_,s4,s5,rfl,?_,o1,?_,?_⟩;simp[gP,F,cut];simp_all;simp[cut,G,ow,oc,AV.cP,bO,aB,CF];rw[U m]at t;subst t;simp[aB,B,en,m];rw[Ep];refine⟨0,0,0,0,_,_,s4,s5,rfl,?_,o1,?_,?_⟩;simp_all;simp_all;simp[cut,G,ow,oc,AV.cP,bO,aB,CF]
end Gm
