/-
  An expression.
-/
import Derived.Test.YtpnadocbfbbboaaGreatF
import Derived.Test.YtpnadocbfbbboaaGreatW

open List renaming getD_eq_getElem?_getD->ado,getElem?_eq_getElem->aag,getElem?_set_self->aay,getElem?_append_left->aal,getElem?_set_ne->aap,replicate->aak
open Int renaming toNat_natCast->acL
set_option maxRecDepth 100000
set_option maxHeartbeats 8000000
namespace DI
open Ax Go bY V7 kN lZ tj K9 S9
variable {T:Px}{C:Cx}{D:Dm}{n:Nat}{fE:E->Fm->Rs->Int×Rs}{fS:Sm->Rs×Fm->Rs×Fm}{aa:Nat}{L:List Fm}{r:Rs}{I:rX}{st st':ay}{f:Fm}
theorem oH:∀{l:List E}{r:Rs}{vs:List Int}{r2:Rs},vals fE f l r=(some vs,r2)->vs.length=l.length
 |[],r,vs,r2,e=>by unfold vals at e;cases e;rfl|x::l,r,vs,r2,e=>by
  unfold vals at e;split at e;cases e;split at e;rename_i h2;cases e;simp[oH h2];cases e
variable{l:List Int}
theorem wC(h:l.length=1):l=[nF l]:=by
 match l,h with
 |[a],_=>rfl
theorem NA(h:l.length=2):l=[nF l,Gc l]:=by
 match l,h with
 |[a,b],_=>rfl
theorem Jh(h:eF T aa (f::L) r I st)(a:Int)(l:List Int)(hi:r.mZ=a::l):eF T aa (f::L) { r with mZ:=l } { I with iv:=pz I.iv 1 (l.length+1) } (st.set I.p (.rows 0 17 [cD T (f::L) { r with mZ:=l } { I with iv:=pz I.iv 1 (l.length+1) }])):=by
 obtain⟨g1,g2,g3⟩:=h.iv;rw[hi]at g3;refine h.aF { r with mZ:=l } f (pz I.iv 1 (l.length+1)) rfl rfl rfl rfl ⟨Ot g1,?_,?_⟩;have:=g2;cases hv:I.iv<;>rw[hv]at this<;>simp_all [iQ,pz];rw[SX g1,g3];simp
theorem jq(K:LU T C D){N:Nat}{gE:E->Fm->Rs->Int×Rs}(iI:∀e f r,nU C r=false->gE e f r=(0,stop r))(Sh:∀e f r,nU C r=true->N≠0->gE e f r=mB C fE fS e f (cG r))
  (HN:∀n,N=n+1->Hy T C D n fE fS):PE T C D N gE:=by
 intro aa L r I st f e h hw hr dM hG hn hd h0;obtain⟨s1,l1,t1,R1⟩:=mH h (by have:=K.fu;omega) C K.fuel;have e1:aN (aT e.aG)=true:=bz;have e2:(aT e.aG).ai=aT e.aG:=bu;rw[E.aE];by_cases ho:nU C r=true
 ·rw[ah ho]at R1;obtain⟨n,rfl⟩:∃n,N=n+1:=⟨N-1,by have:=(p7.1 ho).2;omega⟩;have H:=HN n rfl;rw[Sh _ _ _ ho (by omega)];rw[ho]at t1;have G1:Gd C 1 (cG r):=hG.cG ho;have G0:Gd C 0 (cG r):=G1.qG (by omega);have N0:C.fuel<=(cG r).cC+n:=by show C.fuel<=r.cC+1+n;omega
  rw[FF]at hw;rw[rB]at hr;have Yn:=E.ry e;have YH:(cG r).e=0:=(p7.1 ho).1;obtain⟨s2,I2,vs,t2,ip,il,R2,uo⟩:=Bj H e.aG R1 hw.2 hr.2 (by omega) G0 N0 hd h0 YH;have zR:=rH H.oE f e.aG (cG r);have G2:=(p6 H.gE f e.aG 1 (cG r) G1).1;have en:=λwl li=>p9 wl li R2;rw[ip]at en;have m1:aN (bK 1 (aO vs))=true:=ct;have m2:(bK 1 (aO vs)).ai=aJ 1 (aO vs):=rfl;have m3:cJ 1 (bK 1 (aO vs))=true:=by rw[Au];simp[cn,aO]
  have m4:bt (bK 1 (aO vs))=aO vs:=sH;have n1:aN (aJ 1 (aO vs))=true:=bI;have n2:(aJ 1 (aO vs)).ai=aJ 1 (aO vs):=bU;have n3:cJ 1 (aJ 1 (aO vs))=true:=dQ (by simp[cn,aO]);have n4:bt (aJ 1 (aO vs))=aO vs:=aW;cases hv:vals fE f e.aG (cG r) with
  |mk o r2=>
  rw[hv]at R2 zR G2 en uo;simp only at R2 zR G2 en uo;have hlen:∀l,o=some l->l.length=e.aG.length:=λl hl=>oH (by rw[hv,hl]);cases o with
  |none=>
   have Mt:r2.e≠0:=(by rcases uo with⟨q,_⟩|⟨_,q⟩;cases q;exact q);have ex:mB C fE fS e f (cG r)=(0,r2):=(by unfold mB;rw[hv]);rw[ex];refine⟨s2,I2,?_,ip,il,R2⟩;refine aA (sf:=MO) rfl rfl rfl ?_;generalize aT e.aG=KV,bK 1 (aO vs)=MV at *;simp[MO,t1,t2,e1,e2,en,Mt,gq.bV,AV.ai]
  |some l=>
   obtain⟨rfl,Mt⟩:l=vs/\r2.e=0:=by
    rcases uo with⟨q,q2⟩|⟨q,_⟩;cases q;exact⟨rfl,q2⟩;cases q
   have ex:mB C fE fS e f (cG r)=gf C (ee C fS) e.k e.n e.ref e.ty.r f l r2:=(by unfold mB;rw[hv]);rw[ex];have hl:=hlen l rfl;obtain⟨⟨k1,k24⟩,kg,Vf,k2a,kc,kn,kf⟩:=hw.1;have HY:=hr.1;have hP:=R2.P;have Pd:r2.s.length<1000000:=(by have:=G2.s;have:=G2.st;have:=K.fuel;have:=K.fu;omega);have Gu:=G2.g;rw[ip]at hP;have Pc:aa<=I.p:=h.s7;obtain⟨v',st',h1,rfl,h2⟩:∃v' st',(aZ S).call 0 aa 110 [.ptr I.p 0 0 0,.agg [.int .i64 e.k,.int .i64 e.n,.str e.nm,.str e.on,.int .i64 e.od,aT e.aG,.int .i64 e.a,.int .i64 e.ty.b,.int .i64 e.ty.r,.int .i64 e.ty.d,.int .i64 e.ref]] st=some (v',st')/\
     v'=.int .i64 (gf C (ee C fS) e.k e.n e.ref e.ty.r f l r2).1/\∃I',I'.p=I.p/\I'.fl=I.fl/\eF T aa (f::L) (gf C (ee C fS) e.k e.n e.ref e.ty.r f l r2).2 I' st':=by
    refine fP (sf:=MO) rfl rfl rfl ?_;generalize aT e.aG=KV at *;generalize hMV:bK 1 (aO l)=MV at *;generalize hLV:aJ 1 (aO l)=LV at *;simp[MO,t1,t2,e1,e2,en,Mt,gq.bV,AV.ai];by_cases c1:e.k=1;have ep:gf C (ee C fS) e.k e.n e.ref e.ty.r f l r2=(e.n,r2):=(by simp[gf,c1]);rw[ep];simp[c1,ck];exact⟨I2,ip,il,R2⟩;by_cases c2:e.k=2;have ep:gf C (ee C fS) e.k e.n e.ref e.ty.r f l r2=(e.n,r2):=(by simp[gf,c2]);rw[ep];simp[c2,ck];exact⟨I2,ip,il,R2⟩;by_cases c3:e.k=3;have ep:gf C (ee C fS) e.k e.n e.ref e.ty.r f l r2=(0,r2):=(by simp[gf,c3]);rw[ep];simp[c3,ck];exact⟨I2,ip,il,R2⟩;by_cases c4:e.k=4;have ep:gf C (ee C fS) e.k e.n e.ref e.ty.r f l r2=(tj.oR f r2 e.ref,r2):=(by simp[gf,c4]);rw[ep];have GN:=K.gl;have g1:=HY c4;have g2:=kg c4;by_cases q:e.ref<0;obtain⟨k,hk⟩:∃k:Nat,e.ref = -1-(k:Int):=⟨(-1-e.ref).toNat,by omega⟩;have lJ:k<r2.g.length:=(by rw[Gu,K.ng];omega);have Ny:IntKind.i64.wrap (-1-(-1-(k:Int)))=(k:Int):=(by rw[eR]<;>omega);have N0 : -1-(k:Int)<0:=(by omega);have hG:=R2.G;have ev:tj.oR f r2 e.ref=r2.g[k]:=by
     unfold tj.oR;rw[ah q,hk,show (-1-(-1-(k:Int))).toNat=k by omega,ado,aag lJ];rfl
    have hgi:(aO r2.g)[k]?=some [.int .i64 r2.g[k]]:=(by simp[aO,lJ]);have GN:k<(aO r2.g).length:=(by simpa [aO] using lJ);rw[ev];simp[c4,ck,hk,N0,Ny,hP,cD,dW,hG,cut,lJ,aD,aC];exact⟨I2,ip,il,R2⟩;obtain⟨k,hk⟩:∃k:Nat,e.ref=(k:Int):=⟨e.ref.toNat,by omega⟩;have lJ:k<f.vs.length:=(by omega);have fy:f.vs≠[]:=(by intro z;rw[z]at lJ;simp at lJ);obtain⟨a,b,ha,g3,_⟩:=R2.Ri;obtain⟨g4,_,_⟩:=g3 fy;have hta:qy I2=a:=(by unfold qy;rw[ha];rfl);have LR:vV (mQ (f::L)) (qy I2)=.mu a.1 a.2:=(by rw[hta];exact U fy);have N0:¬(k:Int)<0:=(by omega);have ev:tj.oR f r2 e.ref=f.vs[k]:=by
     unfold tj.oR;rw[U q,hk,acL,ado,aag lJ];rfl
    have hgi:(aO f.vs)[k]?=some [.int .i64 f.vs[k]]:=(by simp[aO,lJ]);have GN:k<(aO f.vs).length:=(by simpa [aO] using lJ);rw[ev];simp[c4,ck,hk,N0,hP,cD,dW,LR,g4,cut,lJ,aD,aC];exact⟨I2,ip,il,R2⟩;by_cases c5:e.k=5;obtain⟨a,rfl⟩:∃a,l=[a]:=⟨_,wC (by rw[hl];exact Vf (.inl c5))⟩;have ep:gf C (ee C fS) e.k e.n e.ref e.ty.r f [a] r2=A8 r2 (lD r2.s a e.ref):=(by simp[gf,c5,nF]);rw[ep];have ld:=λwl li=>Be wl li R2 Pd a e.ref;rw[ip]at ld;obtain⟨s3,l3,t3,R3⟩:=pO R2 (lD r2.s a e.ref).1 (lD r2.s a e.ref).2;rw[ip]at t3;simp[c5,ck,aD,aC,m3,m4,aO,ld,t3];exact⟨rfl,I2,ip,il,R3⟩;by_cases c6:e.k=6;obtain⟨a,b,rfl⟩:∃a b,l=[a,b]:=⟨_,_,NA (by rw[hl];exact k2a (.inl c6))⟩;have ep:gf C (ee C fS) e.k e.n e.ref e.ty.r f [a,b] r2=A8 r2 (lD r2.s a b):=(by simp[gf,c6,nF,Gc]);rw[ep];have ld:=λwl li=>Be wl li R2 Pd a b;rw[ip]at ld;obtain⟨s3,l3,t3,R3⟩:=pO R2 (lD r2.s a b).1 (lD r2.s a b).2;rw[ip]at t3;simp[c6,ck,aD,aC,m2,n3,n4,aO,ld,t3];exact⟨rfl,I2,ip,il,R3⟩;by_cases Rb:e.k=10;obtain⟨a,rfl⟩:∃a,l=[a]:=⟨_,wC (by rw[hl];exact Vf (by omega))⟩;have ep:gf C (ee C fS) e.k e.n e.ref e.ty.r f [a] r2=A8 r2 (xZ r2.s a):=(by simp[gf,Rb,nF]);rw[ep];have ld:=λwl li=>B6 wl li R2 Pd a;rw[ip]at ld;obtain⟨s3,l3,t3,R3⟩:=pO R2 (xZ r2.s a).1 (xZ r2.s a).2;rw[ip]at t3;simp[Rb,ck,aD,aC,m3,m4,aO,ld,t3];exact⟨rfl,I2,ip,il,R3⟩;by_cases c8:e.k=8;have ep:gf C (ee C fS) e.k e.n e.ref e.ty.r f l r2=pM r2 (k7 (C.bJ.getD e.ty.r.toNat 0:Nat)):=(by simp[gf,c8]);rw[ep];obtain⟨kn1,kn2⟩:=kn c8;rw[K.nr]at kn2;obtain⟨q,hq⟩:∃q:Nat,e.ty.r=q:=⟨e.ty.r.toNat,by omega⟩;have hq2:q<T.H.bE.length:=(by omega);have eq1:C.bJ.getD e.ty.r.toNat 0=T.H.bE[q].2.length:=(by rw[K.bJ,hq];simp[hq2]);rw[eq1];obtain⟨s3,I3,l3,t3,tg,wU,R3⟩:=FJ R2 Pd (T.H.bE[q].2.length:Nat);rw[ip]at t3;have b1:cJ 2 (aJ 2 (T.H.bE.map dz))=true:=dQ (by simp[cn,dz]);have b2:(aJ 2 (T.H.bE.map dz)).ai=aJ 2 (T.H.bE.map dz):=bU;have b3:bt (aJ 2 (T.H.bE.map dz))=T.H.bE.map dz:=aW;have z1:aN (bP T.H.bE[q].2)=true:=dn;have z2:(bP T.H.bE[q].2).ai=bP T.H.bE[q].2:=eA;have z5:bt (bP T.H.bE[q].2)=T.H.bE[q].2.map Vd.aF:=aW;simp only[cD,dW]at hP;generalize aJ 2 (T.H.bE.map dz)=BV at *;simp[c8,ck,aD,aC,hP,cut,hq,b1,b2,b3,hq2,dz,z1,z2,z5,t3];exact⟨I3,by rw[tg,ip],by rw[wU,il],R3⟩;by_cases c9:e.k=9;obtain⟨a,rfl⟩:∃a,l=[a]:=⟨_,wC (by rw[hl];exact Vf (by omega))⟩;have ep:gf C (ee C fS) e.k e.n e.ref e.ty.r f [a] r2=tW r2 a:=(by simp[gf,c9,nF]);rw[ep];by_cases ha:a<0\/50<a;have an:=λwl li st=>Nv wl li 0 a st (.ptr I.p 0 0 11) ha;obtain⟨s4,l4,t4,R4⟩:=pO R2 0 4;rw[ip]at t4;have em:tW r2 a=(0,iU r2 4):=(by unfold tW;rw[ah ha]);rw[em];simp[c9,ck,aD,aC,m3,m4,aO,an,t4];exact⟨I2,ip,il,R4⟩;obtain⟨q,rfl⟩:∃q:Nat,a=q:=⟨a.toNat,by omega⟩;obtain⟨s3,I3,l3,t3,tg,wU,R3⟩:=FK R2 Pd q (by omega);rw[ip]at t3;obtain⟨s4,l4,t4,R4⟩:=pO R3 (pM r2 q).1 0;rw[tg,ip]at t4;have em:tW r2 (q:Int)=pM r2 q:=(by unfold tW;rw[U ha,acL]);rw[em];simp[c9,ck,aD,aC,m3,m4,aO,t3,t4];exact⟨I3,by rw[tg,ip],by rw[wU,il],R4⟩;by_cases VQ:e.k=11;have ep:gf C (ee C fS) e.k e.n e.ref e.ty.r f l r2=qW r2:=(by simp[gf,VQ]);rw[ep];obtain⟨g1,g2,g3⟩:=R2.iv;have gs:=og g1;have gv:=jt g2 gs;have gr:=Av g1;have gz:=EJ g1;cases hi:r2.mZ with
    |nil=>
     obtain⟨s3,l3,t3,R3⟩:=oG R2 5;rw[ip]at t3;have er:qW r2=(0,iU r2 5):=(by unfold qW;rw[hi]);rw[er];rw[hi]at g3;simp[VQ,ck,hP,cD,dW,cut,gs,gv,gr,g3,t3];exact⟨I2,ip,il,R3⟩
    |cons b m=>
     have er:qW r2=(b,{ r2 with mZ:=m }):=(by unfold qW;rw[hi]);rw[er];have R3:=Jh R2 b m hi;rw[hi]at g3;have Lr:tP (pz I2.iv 1 (m.length+1))=true/\iQ (pz I2.iv 1 (m.length+1))=true:=⟨R3.iv.1,R3.iv.2.1⟩;have vs:=jt Lr.2 (og Lr.1);have ps:=cI (og Lr.1);have fy:¬(m.length:Int)+1=0:=(by omega);have h1:(1:Int)<=(m.length:Int)+1:=(by omega);rw[ip]at R3;simp[VQ,ck,hP,cD,dW,cut,gs,gv,gr,gz,g3,fy,h1,aO,aV,AV.ax,au,Pc];exact⟨{ I2 with p:=I.p,iv:=pz I2.iv 1 (m.length+1) },rfl,il,R3⟩
    by_cases Rd:e.k=12;obtain⟨a,rfl⟩:∃a,l=[a]:=⟨_,wC (by rw[hl];exact Vf (by omega))⟩;have ep:gf C (ee C fS) e.k e.n e.ref e.ty.r f [a] r2=(Yp 12 a,r2):=(by simp[gf,Rd,nF]);rw[ep];have un:=λwl li st=>Ls wl li 12 a st;simp[Rd,ck,aD,aC,m3,m4,aO,un];exact⟨I2,ip,il,R2⟩;by_cases Re:e.k=13;obtain⟨a,rfl⟩:∃a,l=[a]:=⟨_,wC (by rw[hl];exact Vf (by omega))⟩;have ep:gf C (ee C fS) e.k e.n e.ref e.ty.r f [a] r2=(Yp 13 a,r2):=(by simp[gf,Re,nF]);rw[ep];have un:=λwl li st=>Ls wl li 13 a st;simp[Re,ck,aD,aC,m3,m4,aO,un];exact⟨I2,ip,il,R2⟩;by_cases c7:e.k=7;have ep:gf C (ee C fS) e.k e.n e.ref e.ty.r f l r2=ee C fS e.ref l r2:=(by simp[gf,c7]);rw[ep];obtain⟨kc1,kc2,kc3⟩:=kc c7;have hb:e.ref.toNat<T.bs.length:=(by rw[<-K.ps];exact kc2);obtain⟨s3,I3,t3,tg,wU,R3⟩:=rf K H e.ref l (AL:=MV) (by rw[m2,hLV]) m1 R2 kc1 hb (by rw[hl,kc3];exact K.pv _ kc2 hb) (G2.qG (by omega)) (by have:=zR.st;omega) hd h0;rw[ip]at t3;simp[c7,ck,t3];exact⟨I3,by rw[tg,ip],by rw[wU,il],R3⟩;obtain⟨a,b,rfl⟩:∃a b,l=[a,b]:=⟨_,_,NA (by rw[hl];exact k2a (by omega))⟩;have ep:gf C (ee C fS) e.k e.n e.ref e.ty.r f [a,b] r2=A8 r2 (wR e.k a b):=(by simp[gf,c1,c2,c3,c4,c5,c6,c7,c8,c9,Rb,VQ,Rd,Re,nF,Gc]);rw[ep];have bi:=λwl li st=>Nz wl li e.k a b st;obtain⟨s3,l3,t3,R3⟩:=pO R2 (wR e.k a b).1 (wR e.k a b).2;rw[ip]at t3;simp[c1,c2,c3,c4,c5,c6,c7,c8,c9,Rb,VQ,Rd,Re,ck,aD,aC,m2,n3,n4,aO,bi,t3];exact⟨rfl,I2,ip,il,R3⟩
   obtain⟨I',h3⟩:=h2;exact⟨st',I',h1,h3⟩
 rw[U ho]at R1;have VR:nU C r=false:=by cases hh:nU C r with|false=>rfl|true=>exact aU hh ho
 rw[iI _ _ _ VR];rw[VR]at t1;refine⟨s1,I,?_,rfl,rfl,R1⟩;refine aA (sf:=MO) rfl rfl rfl ?_;generalize aT e.aG=KV at *;simp[MO,t1,e1,gq.bV,AV.ai]
end DI
namespace DI
open Ax Go bY V7 kN lZ tj K9 S9
variable {T:Px}{C:Cx}{D:Dm}{n:Nat}{fE:E->Fm->Rs->Int×Rs}{fS:Sm->Rs×Fm->Rs×Fm}{aa:Nat}{L:List Fm}{r:Rs}{I:rX}{st st':ay}{f:Fm}
theorem HT(b:E):∀(l:List E)(r:Rs),vals fE f (l++[b]) r=match vals fE f l r with
  |(none,r2)=>(none,r2)
  |(some vs,r2)=>if (fE b f r2).2.e≠0 then (none,(fE b f r2).2) else (some (vs++[(fE b f r2).1]),(fE b f r2).2)
 |[],r=>by
  show vals fE f [b] r=_;rw[rY];simp only[vals];split<;>rfl
 |e::l,r=>by
  show vals fE f (e::(l++[b])) r=_;rw[rY,rY,HT b l];by_cases q:(fE e f r).2.e≠0;rw[ah q,ah q];rw[U q,U q];cases vals fE f l (fE e f r).2 with
  |mk o r2=>
   cases o with
   |none=>rfl|some vs=>
    by_cases q2:(fE b f r2).2.e≠0;simp only[ah q2];simp only[U q2];rfl
theorem Zb(K:LU T C D)(H:Hy T C D n fE fS)(s:Sm)(a b:E)(jj:s.es=[a,b])(rM:(a.k=5/\a.aG.length=1)\/(a.k=6/\a.aG.length=2))(h:eF T aa (f::L) r I st)(hwa:WL D a.aG)(hwb:WE D b)(jb:wm f.vs.length a.aG)(hrb:AN f.vs.length b)(hsa:E.fY a.aG<1000000000)(hsb:E.sz b<1000000000)
  (hG:Gd C 0 r)(hn:C.fuel<=r.cC+n)(he:r.e=0)(hd:f.done=false)(h0:f.cH=0) :
  ∃st' I',(aZ S).call 0 aa 111 [.ptr I.p 0 0 0,.agg s.aF] st=some (.fK [],st')/\I'.p=I.p/\I'.fl=I.fl/\
   eF T aa (f::L) (match vals fE f (a.aG++[b]) r with|(none,r)=>(r,f)|(some l,r)=>tn (r,f) a.k a.ref l).1 I' st':=by
 have e1:aN (aT s.es)=true:=bz;have e2:(aT s.es).ai=aT s.es:=bu;have e3:bt (aT s.es)=E.rows s.es:=aW;have e4:cJ 11 (aT s.es)=true:=gn;have b1:aN (bp s.bd)=true:=bL;have b2:(bp s.bd).ai=bp s.bd:=bq;have l1:aN (bp s.el)=true:=bL;have l2:(bp s.el).ai=bp s.el:=bq;have er:E.rows s.es=[a.aF,b.aF]:=by rw[jj];simp[E.rows]
 have k1:aN (aT a.aG)=true:=bz;have k2:(aT a.aG).ai=aT a.aG:=bu;have k3:aN (aT b.aG)=true:=bz;have k4:(aT b.aG).ai=aT b.aG:=bu;rw[er]at e3;obtain⟨s2,I2,vs,t2,ip,il,R2,uo⟩:=Bj H a.aG h hwa jb hsa hG hn hd h0 he;have G2:=(p6 H.gE f a.aG 0 r hG).1;have zR:=rH H.oE f a.aG r;have en:=λwl li=>p9 wl li R2;rw[ip]at en;have m1:aN (bK 1 (aO vs))=true:=ct;have m2:(bK 1 (aO vs)).ai=aJ 1 (aO vs):=rfl;have m3:cJ 1 (bK 1 (aO vs))=true:=by rw[Au];simp[cn,aO]
 have m4:bt (bK 1 (aO vs))=aO vs:=sH;have n1:aN (aJ 1 (aO vs))=true:=bI;have n2:(aJ 1 (aO vs)).ai=aJ 1 (aO vs):=bU;have n3:cJ 1 (aJ 1 (aO vs))=true:=dQ (by simp[cn,aO]);have n4:bt (aJ 1 (aO vs))=aO vs:=aW;rw[HT];cases hv:vals fE f a.aG r with
 |mk o r2=>
 rw[hv]at R2 zR G2 en uo;simp only at R2 zR G2 en uo;have hlen:∀l,o=some l->l.length=a.aG.length:=λl hl=>oH (by rw[hv,hl]);rw[E.aE a,E.aE b]at e3;rw[Sm.aE];cases o with
 |none=>
  have Mt:r2.e≠0:=by rcases uo with⟨q,_⟩|⟨_,q⟩;cases q;exact q
  refine⟨s2,I2,?_,ip,il,R2⟩;refine aA (sf:=IE) rfl rfl rfl ?_;generalize aT s.es=ES,bp s.bd=BD,bp s.el=EL,aT a.aG=KV,bK 1 (aO vs)=MV at *;simp[IE,t2,e1,e2,e3,e4,b1,l1,k2,en,Mt,gq.bV,AV.ai]
 |some l=>
  obtain⟨rfl,Mt⟩:l=vs/\r2.e=0:=by
   rcases uo with⟨q,q2⟩|⟨q,_⟩;cases q;exact⟨rfl,q2⟩;cases q
  have hl:=hlen l rfl;simp only;obtain⟨s3,I3,t3,tg,wU,R3⟩:=H.E aa L r2 I2 s2 f b R2 hwb hrb hsb G2 (by have:=zR.st;omega) hd h0;have G3:=(H.gE 0 b f r2 G2).1;rw[ip]at t3;rw[E.aE b]at t3;have en3:=λwl li=>p9 wl li R3;rw[tg,ip]at en3;generalize fE b f r2=y at *;obtain⟨w,r3⟩:=y;simp only at R3 G3 en3 t3 ⊢;by_cases q:r3.e=0;rw[U (by simpa using q)];simp only;have hS3:r3.s.length<1000000:=by have:=G3.s;have:=G3.st;have:=K.fuel;have:=K.fu;omega
  rcases rM with⟨hk,fR⟩|⟨hk,fR⟩;have hx:=wC (l:=l) (by rw[hl];exact fR);generalize nF l=x at *;subst hx;have ep:tn (r3,f) a.k a.ref ([x]++[w])=(iU { r3 with s:=x0 r3.s x a.ref w } (m8 r3.s x a.ref),f):=by simp[tn,hk,nF,Gc]
  rw[ep];obtain⟨s4,l4,t4,R4⟩:=xh R3 hS3 x a.ref w;obtain⟨s5,l5,t5,R5⟩:=oG R4 (m8 r3.s x a.ref);rw[tg,ip]at t4 t5;refine⟨s5,I3,?_,by rw[tg,ip],by rw[wU,il],R5⟩;refine aA (sf:=IE) rfl rfl rfl ?_;generalize aT s.es=ES,bp s.bd=BD,bp s.el=EL,aT a.aG=KV,aT b.aG=KB,bK 1 (aO [x])=MV at *;simp[IE,t2,e1,e2,e3,e4,b1,l1,k2,k4,en,Mt,t3,en3,q,hk,m3,m4,aO,t4,t5,gq.bV,AV.ai,aD,aC];have hx:=NA (l:=l) (by rw[hl];exact fR);generalize nF l=x,Gc l=z at *;subst hx;have ep:tn (r3,f) a.k a.ref ([x,z]++[w])=(iU { r3 with s:=x0 r3.s x z w } (m8 r3.s x z),f):=by simp[tn,hk,nF,Gc,at2]
  rw[ep];obtain⟨s4,l4,t4,R4⟩:=xh R3 hS3 x z w;obtain⟨s5,l5,t5,R5⟩:=oG R4 (m8 r3.s x z);rw[tg,ip]at t4 t5;refine⟨s5,I3,?_,by rw[tg,ip],by rw[wU,il],R5⟩;refine aA (sf:=IE) rfl rfl rfl ?_;generalize aT s.es=ES,bp s.bd=BD,bp s.el=EL,aT a.aG=KV,aT b.aG=KB,bK 1 (aO [x,z])=MV,aJ 1 (aO [x,z])=LV at *;simp[IE,t2,e1,e2,e3,e4,b1,l1,k2,k4,en,Mt,t3,en3,q,hk,m2,m3,m4,n3,n4,aO,t4,t5,gq.bV,AV.ai,aD,aC];rw[ah (by simpa using q)];simp only;refine⟨s3,I3,?_,by rw[tg,ip],by rw[wU,il],R3⟩;refine aA (sf:=IE) rfl rfl rfl ?_;generalize aT s.es=ES,bp s.bd=BD,bp s.el=EL,aT a.aG=KV,aT b.aG=KB,bK 1 (aO l)=MV at *;simp[IE,t2,e1,e2,e3,e4,b1,l1,k2,k4,en,Mt,t3,en3,q,gq.bV,AV.ai]
end DI
namespace DI
open Ax Go bY V7 kN lZ tj K9 S9
variable {T:Px}{C:Cx}{D:Dm}{n:Nat}{fE:E->Fm->Rs->Int×Rs}{fS:Sm->Rs×Fm->Rs×Fm}{aa:Nat}{L:List Fm}{r:Rs}{I:rX}{st st':ay}{f:Fm}
theorem x4(g:List Int)(k:Nat)(v:Int):(aO g).set k [.int .i64 v]=aO (g.set k v):=by simp[aO,List.map_set]
theorem Jk(K:LU T C D){N:Nat}(HN:∀n,N=n+1->Hy T C D n fE fS)(s:Sm)(c:E)(hk:s.k=6)(jj:s.es=[c])(h:eF T aa (f::L) r I st)(hw:WE D c)(hwb:WB D s.bd)(hr:AN f.vs.length c)(hrb:pK f.vs.length s.bd)(dM:E.sz c<1000000000)(ac8:Sm.fY s.bd<1000000000)
  (hG:Gd C 0 r)(hn:C.fuel<=r.cC+N)(hd:f.done=false)(h0:f.cH=0) :
  ∃st' I',(aZ S).call 0 aa 85 [.ptr I.p 0 0 0,.agg s.aF] st=some (.fK [],st')/\I'.p=I.p/\I'.fl=I.fl/\
   eF T aa ((eK C fE fS c s.bd N (r,f)).2::L) (eK C fE fS c s.bd N (r,f)).1 I' st':=by
 have e1:aN (aT s.es)=true:=bz;have e2:(aT s.es).ai=aT s.es:=bu;have e3:bt (aT s.es)=E.rows s.es:=aW;have e4:cJ 11 (aT s.es)=true:=gn;have b1:aN (bp s.bd)=true:=bL;have b2:(bp s.bd).ai=bp s.bd:=bq;have l1:aN (bp s.el)=true:=bL;have l2:(bp s.el).ai=bp s.el:=bq;have er:E.rows s.es=[c.aF]:=by rw[jj];simp[E.rows]
 have k1:aN (aT c.aG)=true:=bz;have k2:(aT c.aG).ai=aT c.aG:=bu;rw[er]at e3;rw[E.aE]at e3;rw[Sm.aE];obtain⟨v',st',h1,rfl,I',h2⟩:∃v' st',(aZ S).call 0 aa 85 [.ptr I.p 0 0 0,.agg [.int .i64 s.k,.str s.nm,.str s.on,.int .i64 s.od,aT s.es,bp s.bd,bp s.el,.int .i64 s.a,.int .i64 s.ref]] st=some (v',st')/\v'=.fK []/\∃I',I'.p=I.p/\I'.fl=I.fl/\eF T aa ((eK C fE fS c s.bd N (r,f)).2::L) (eK C fE fS c s.bd N (r,f)).1 I' st':=by
  refine fP (sf:=Qi) rfl rfl rfl ?_;generalize aT s.es=ES at *;generalize hBD:bp s.bd=BD at *;generalize bp s.el=EL at *;simp[Qi,e1,b1,l1,gq.bV,hk,AV.ai];refine bH TX.eq_1 (λx:Nat×(Rs×Fm)×rX×ay=>⟨[(0,.val (.ptr I.p 0 0 0)),(3,.fp 0 0)],[[.int .i64 6,.str s.nm,.str s.on,.int .i64 s.od,ES,BD,EL,.int .i64 s.a,.int .i64 s.ref]],x.2.2.2⟩)
   (λx=>eK C fE fS c s.bd x.1 x.2.1=eK C fE fS c s.bd N (r,f)/\x.2.2.1.p=I.p/\x.2.2.1.fl=I.fl/\eF T aa (x.2.1.2::L) x.2.1.1 x.2.2.1 x.2.2.2/\Gd C 0 x.2.1.1/\x.2.1.2.vs.length=f.vs.length/\C.fuel<=x.2.1.1.cC+x.1/\C.fuel<=x.2.1.1.cC+N/\x.2.1.2.done=false/\x.2.1.2.cH=0) (λx=>x.1) (N,(r,f),I,st) (by simp) ⟨rfl,rfl,rfl,h,hG,rfl,hn,hn,hd,h0⟩ ?_
  rintro⟨k,⟨r1,f1⟩,I1,s1⟩ ⟨hp,ip,il,h1,g1,v1,n1,n2,d1,z1⟩ ih;simp only at hp ip il h1 g1 v1 n1 n2 d1 z1 ih;obtain⟨s2,l2',t4,R2⟩:=mH h1 (by have:=K.fu;omega) C K.fuel;rw[ip]at t4;have qd:¬f1.done=true:=by rw[d1];simp
  by_cases ho:nU C r1=true;rw[ah ho]at R2;rw[ho]at t4;obtain⟨ho1,ho2⟩:=p7.1 ho;obtain⟨n,rfl⟩:∃n,N=n+1:=⟨N-1,by omega⟩;obtain⟨k,rfl⟩:∃k',k=k'+1:=⟨k-1,by omega⟩;have H:=HN n rfl;have G1:Gd C 0 (cG r1):=(g1.cG ho).qG (by omega);have yQ:(cG r1).cC=r1.cC+1:=rfl;obtain⟨s3,I3,t5,tg,wU,R3⟩:=H.E aa L (cG r1) I1 s2 f1 c R2 hw (by rw[v1];exact hr) dM G1 (by omega) d1 z1;rw[ip]at t5;have zR:=H.oE c f1 (cG r1);have G2:=(H.gE 0 c f1 (cG r1) G1).1;have ex:eK C fE fS c s.bd (k+1) (r1,f1)=if (fE c f1 (cG r1)).2.e≠0\/(fE c f1 (cG r1)).1=0 then ((fE c f1 (cG r1)).2,f1) else eK C fE fS c s.bd k (jI fS s.bd ((fE c f1 (cG r1)).2,f1)):=by
   (conv=>lhs;unfold eK)<;>rw[U qd,ah ho]
  rw[ex]at hp;have en:=λwl li=>p9 wl li R3;rw[tg,ip]at en;rw[E.aE]at t5;have ja:=zR.st;by_cases q:(fE c f1 (cG r1)).2.e≠0\/(fE c f1 (cG r1)).1=0;rw[ah q]at hp;rw[<-hp];generalize fE c f1 (cG r1)=y at *;by_cases q1:y.2.e=0;have q2:y.1=0:=by rcases q with q|q;exact aU q1 q;exact q
  simp[t4,e2,e3,e4,k2,AV.ai,en,t5,q1,q2,ck];exact⟨I3,by rw[tg,ip],by rw[wU,il],R3⟩;simp[t4,e2,e3,e4,k2,AV.ai,en,t5,q1,ck];exact⟨I3,by rw[tg,ip],by rw[wU,il],R3⟩;rw[U q]at hp;have q1:(fE c f1 (cG r1)).2.e=0:=Decidable.byContradiction λc=>q (.inl c);have q2:¬(fE c f1 (cG r1)).1=0:=λc=>q (.inr c);obtain⟨s4,I4,t6,ip4,il4,R4⟩:=Bn H s.bd R3 hwb (by rw[v1];exact hrb) ac8 G2 (by omega) (λ_=>z1);rw[tg,ip,hBD]at t6;obtain⟨g4,_,v4⟩:=tX H.gS s.bd 0 ((fE c f1 (cG r1)).2,f1) G2;have ada:=yH H.oS s.bd ((fE c f1 (cG r1)).2,f1);have YK:=ada.st;have zz:=Jt H.zS s.bd ((fE c f1 (cG r1)).2,f1) (λ_=>z1);have P4:=R4.P;rw[ip4,tg,ip]at P4;generalize hX:jI fS s.bd ((fE c f1 (cG r1)).2,f1)=X at *;obtain⟨r4,f4⟩:=X;simp only at g4 v4 YK zz R4;generalize fE c f1 (cG r1)=y at *;by_cases d4:f4.done=true;have ex4:eK C fE fS c s.bd k (r4,f4)=(r4,f4):=by cases k<;>(unfold eK;rw[ah d4])
  rw[ex4]at hp;rw[<-hp];simp[t4,e2,e3,e4,k2,b2,AV.ai,en,t5,t6,q1,q2,P4,cD,dW,mQ,cut,d4,ck];exact⟨I4,by rw[ip4,tg,ip],by rw[il4,wU,il],R4⟩;have d4':f4.done=false:=by cases hh:f4.done with|false=>rfl|true=>exact aU hh d4
  have fD:=ih (k,(r4,f4),I4,s4) ⟨hp,by rw[ip4,tg,ip],by rw[il4,wU,il],R4,g4,by simp only;rw[v4];exact v1,by simp only;omega,by simp only;omega,d4',zz d4'⟩ (by simp);simp only at fD;simp[t4,e2,e3,e4,k2,b2,AV.ai,en,t5,t6,q1,q2,P4,cD,dW,mQ,cut,d4'];exact fD;rw[U ho]at R2;have JK:nU C r1=false:=by cases hh:nU C r1 with|false=>rfl|true=>exact aU hh ho
  rw[JK]at t4;have ex:eK C fE fS c s.bd k (r1,f1)=(stop r1,f1):=by
   cases k with
   |zero=>unfold eK;rw[U qd]|succ k=>unfold eK;rw[U qd,U ho]
  rw[ex]at hp;rw[<-hp];simp[t4,ck];exact⟨I1,ip,il,R2⟩
 exact⟨st',I',h1,h2⟩
end DI
namespace DI
open Ax Go bY V7 kN lZ tj K9 S9
variable {T:Px}{C:Cx}{D:Dm}{n:Nat}{fE:E->Fm->Rs->Int×Rs}{fS:Sm->Rs×Fm->Rs×Fm}{aa:Nat}{L:List Fm}{r:Rs}{I:rX}{st st':ay}{f:Fm}
theorem wm1{k:Nat}(h:k<1000000):IntKind.i64.wrap (-1-(-1-(k:Int)))=(k:Int):=by rw[eR]<;>omega
theorem mO(K:LU T C D){N:Nat}{gS:Sm->Rs×Fm->Rs×Fm}(hgS:∀s x,gS s x=if s.k=1 then x else if s.k=6 then eK C fE fS (A9 s.es) s.bd N x else if nU C x.1=true/\N≠0 then ju fE fS s (cG x.1,x.2) else (stop x.1,x.2))
  (HN:∀n,N=n+1->Hy T C D n fE fS):PS T C D N gS:=by
 intro aa L r I st f s h hw hr dM hG hn hd h0;rw[hgS];have e1:aN (aT s.es)=true:=bz;have e2:(aT s.es).ai=aT s.es:=bu;have b1:aN (bp s.bd)=true:=bL;have b2:(bp s.bd).ai=bp s.bd:=bq;have l1:aN (bp s.el)=true:=bL;have l2:(bp s.el).ai=bp s.el:=bq;have hse:=Sm.mX s;rw[Lm]at hw;rw[rC]at hr;obtain⟨⟨⟨k1,k9⟩,kg,kl,kp,kr⟩,we,wb,wl⟩:=hw;obtain⟨re,rv,rg,rb,rl⟩:=hr;by_cases c1:s.k=1;rw[ah c1];refine⟨st,I,?_,rfl,rfl,h⟩;rw[Sm.aE];refine aA (sf:=Qi) rfl rfl rfl ?_;generalize aT s.es=ES,bp s.bd=BD,bp s.el=EL at *;simp[Qi,e1,b1,l1,gq.bV,AV.ai,c1];rw[U c1];by_cases c6:s.k=6;rw[ah c6];obtain⟨c,jj⟩:∃c,s.es=[c]:=by
  have:=kl (by omega);match hh:s.es,this with
  |[c],_=>exact⟨c,rfl⟩
 have hc:A9 s.es=c:=by rw[jj];rfl
 rw[hc];have LH:E.sz c<1000000000:=by have:=E.fZ (l:=s.es) (e:=c) (by rw[jj];simp);omega
 exact Jk K HN s c c6 jj h (by rw[jj]at we;exact we.1) wb (by rw[jj]at re;exact re.1) rb LH (by omega) hG hn hd h0;rw[U c6];obtain⟨s1,ls1,t1,R1⟩:=mH h (by have:=K.fu;omega) C K.fuel;by_cases ho:nU C r=true
 ·rw[ah ho]at R1;rw[ho]at t1;obtain⟨n,rfl⟩:∃n,N=n+1:=⟨N-1,by have:=(p7.1 ho).2;omega⟩;have H:=HN n rfl;rw[ah ⟨ho,by omega⟩];have G1:Gd C 1 (cG r):=hG.cG ho;have G0:Gd C 0 (cG r):=G1.qG (by omega);have N0:C.fuel<=(cG r).cC+n:=by show C.fuel<=r.cC+1+n;omega
  have YH:(cG r).e=0:=(p7.1 ho).1;by_cases c4:s.k=4;obtain⟨a,b,jj,rM⟩:=kp c4;rw[jj]at we re;have adb:(a.k=5/\a.aG.length=1)\/(a.k=6/\a.aG.length=2):=by
   have:=(FF a).1 we.1;obtain⟨⟨_,_,q1,q2,_⟩,_⟩:=this;rcases rM with q|q;exact .inl ⟨q,q1 (.inl q)⟩;exact .inr ⟨q,q2 (.inl q)⟩
  have hz1:E.fY s.es=E.sz a+E.sz b:=by rw[jj];simp[E.fY]
  have hz2:=E.ry a;obtain⟨s2,I2,t2,ip,il,R2⟩:=Zb K H s a b jj adb R1 ((FF a).1 we.1).2 we.2.1 ((rB _ a).1 re.1).2 re.2.1 (by omega) (by omega) G0 N0 YH hd h0;have ex:ju fE fS s (cG r,f)=match vals fE f (a.aG++[b]) (cG r) with|(none,r)=>(r,f)|(some l,r)=>tn (r,f) a.k a.ref l:=by
   unfold ju;rw[ah c4];have q1:A9 s.es=a:=(by rw[jj];rfl);have q2:s.es.drop 1=[b]:=(by rw[jj];rfl);rw[q1,q2]
   rfl
  have ex2:(ju fE fS s (cG r,f)).2=f:=by
   rw[ex];split
   rfl
   unfold tn;split<;>rfl
  rw[ex2];rw[ex];refine⟨s2,I2,?_,ip,il,R2⟩;rw[Sm.aE]at t2 ⊢;refine aA (sf:=Qi) rfl rfl rfl ?_;generalize aT s.es=ES,bp s.bd=BD,bp s.el=EL at *;simp only[c4]at t2;simp[Qi,e1,e2,b1,b2,l1,l2,gq.bV,AV.ai,c4,t1,t2];obtain⟨s2,I2,vs,t2,ip,il,R2,uo⟩:=Bj H s.es R1 we re (by omega) G0 N0 hd h0 YH;have zR:=rH H.oE f s.es (cG r);have G2:=(p6 H.gE f s.es 1 (cG r) G1).1;have en:=λwl li=>p9 wl li R2;rw[ip]at en;have m1:aN (bK 1 (aO vs))=true:=ct;have m2:(bK 1 (aO vs)).ai=aJ 1 (aO vs):=rfl;have m3:cJ 1 (bK 1 (aO vs))=true:=by rw[Au];simp[cn,aO]
  have m4:bt (bK 1 (aO vs))=aO vs:=sH;have n1:aN (aJ 1 (aO vs))=true:=bI;have n2:(aJ 1 (aO vs)).ai=aJ 1 (aO vs):=bU;have n3:cJ 1 (aJ 1 (aO vs))=true:=dQ (by simp[cn,aO]);have n4:bt (aJ 1 (aO vs))=aO vs:=aW;cases hv:vals fE f s.es (cG r) with
  |mk o r2=>
  rw[hv]at R2 zR G2 en uo;simp only at R2 zR G2 en uo;have hlen:∀l,o=some l->l.length=s.es.length:=λl hl=>oH (by rw[hv,hl]);cases o with
  |none=>
   have Mt:r2.e≠0:=(by rcases uo with⟨q,_⟩|⟨_,q⟩;cases q;exact q);have ex:ju fE fS s (cG r,f)=(r2,f):=by
    unfold ju;rw[U c4];simp only[hv]
   rw[ex];refine⟨s2,I2,?_,ip,il,R2⟩;rw[Sm.aE];refine aA (sf:=Qi) rfl rfl rfl ?_;generalize aT s.es=ES,bp s.bd=BD,bp s.el=EL,bK 1 (aO vs)=MV at *;simp[Qi,e1,e2,b1,l1,gq.bV,AV.ai,c1,c4,c6,t1,t2,en,Mt]
  |some l=>
   obtain⟨rfl,Mt⟩:l=vs/\r2.e=0:=by
    rcases uo with⟨q,q2⟩|⟨q,_⟩;cases q;exact⟨rfl,q2⟩;cases q
   have ex:ju fE fS s (cG r,f)=jR fS s.k s.ref s.bd s.el l (r2,f):=by
    unfold ju;rw[U c4];simp only[hv]
   rw[ex];have hl:=hlen l rfl;have ja:=zR.st;have hP:=R2.P;have Gu:=G2.g;rw[ip]at hP;have Pc:aa<=I.p:=h.s7;have hlg:aa<=I2.g:=R2.low _ (by rw[R2.lg];decide);have GH:=fA hP
   suffices h:∃v' st',(aZ S).call 0 aa 85 [.ptr I.p 0 0 0,.agg s.aF] st=some (v',st')/\v'=.fK []/\∃I',I'.p=I.p/\I'.fl=I.fl/\eF T aa ((jR fS s.k s.ref s.bd s.el l (r2,f)).2::L) (jR fS s.k s.ref s.bd s.el l (r2,f)).1 I' st' by
    obtain⟨v',st',h1,rfl,I',h2⟩:=h;exact⟨st',I',h1,h2⟩
   rw[Sm.aE];refine fP (sf:=Qi) rfl rfl rfl ?_;generalize aT s.es=ES at *;generalize hBD:bp s.bd=BD at *;generalize hEL:bp s.el=EL at *;generalize bK 1 (aO l)=MV,aJ 1 (aO l)=LV at *;simp[Qi,e1,e2,b1,l1,gq.bV,AV.ai,c1,c4,c6,t1,t2,en,Mt];by_cases c23:s.k=2\/s.k=3;obtain⟨a,rfl⟩:∃a,l=[a]:=⟨_,wC (by rw[hl];exact kl (by omega))⟩;have ep:jR fS s.k s.ref s.bd s.el [a] (r2,f)=bf (r2,f) s.ref a:=(by unfold jR;rw[ah c23];rfl);rw[ep];have GN:=K.gl;have rr:s.ref<f.vs.length∧-1-s.ref<r2.g.length:=by
    rcases c23 with c|c;have:=rv (by omega);exact⟨this.2,by omega⟩;exact⟨rg c,by rw[Gu,K.ng];exact kg c⟩
   by_cases q:s.ref<0;obtain⟨k,hk⟩:∃k:Nat,s.ref = -1-(k:Int):=⟨(-1-s.ref).toNat,by omega⟩;have lJ:k<r2.g.length:=(by omega);have hkb:k<1000000:=(by rw[Gu,K.ng]at lJ;exact Nat.lt_trans lJ GN);have Ny:IntKind.i64.wrap (-1-(-1-(k:Int)))=(k:Int):=wm1 hkb;have Vz : -1-(k:Int)<0:=(by omega);have hG:=R2.G;have es:bf (r2,f) s.ref a=({ r2 with g:=r2.g.set k a },f):=by
    unfold bf;rw[ah q,hk,show (-1-(-1-(k:Int))).toNat=k by omega]
   have R3:=R2.ac3 (r2.g.set k a);rw[<-x4]at R3;have QO:k<(aO r2.g).length:=(by simpa [aO] using lJ);have amH:(aO r2.g).length=r2.g.length:=(by simp[aO]);rw[es];rcases c23 with c|c;simp[c,hk,Vz,Ny,hP,cD,dW,hG,cut,lJ,m3,m4,aO,aD,aC,aV,AV.ax,AV.aB,au,hlg,eZ];exact⟨I2,ip,il,R3⟩;simp[c,hk,Vz,Ny,hP,cD,dW,hG,cut,lJ,m3,m4,aO,aD,aC,aV,AV.ax,AV.aB,au,hlg,eZ];exact⟨I2,ip,il,R3⟩;obtain⟨k,hk⟩:∃k:Nat,s.ref=(k:Int):=⟨s.ref.toNat,by omega⟩;have lJ:k<f.vs.length:=(by omega);have fy:f.vs≠[]:=(by intro z;rw[z]at lJ;simp at lJ);obtain⟨a',b',ha,g3,_⟩:=R2.Ri;obtain⟨g4,g5,_⟩:=g3 fy;have hta:qy I2=a':=(by unfold qy;rw[ha];rfl);have LR:vV (mQ (f::L)) (qy I2)=.mu a'.1 a'.2:=(by rw[hta];exact U fy);have Vz:¬(k:Int)<0:=(by omega);have uJ:aa<=a'.1:=R2.low _ (by rw[g5];decide);have es:bf (r2,f) s.ref a=(r2,{ f with vs:=f.vs.set k a }):=by
    unfold bf;rw[U q,hk,acL]
   have R3:=R2.Lq (vs':=f.vs.set k a) (by simp) fy;rw[hta,<-x4]at R3;have QO:k<(aO f.vs).length:=(by simpa [aO] using lJ);have amH:(aO f.vs).length=f.vs.length:=(by simp[aO]);rw[es];rcases c23 with c|c;simp[c,hk,Vz,hP,cD,dW,LR,g4,cut,lJ,m3,m4,aO,aD,aC,aV,AV.ax,AV.aB,au,uJ,eZ];exact⟨I2,ip,il,R3⟩;simp[c,hk,Vz,hP,cD,dW,LR,g4,cut,lJ,m3,m4,aO,aD,aC,aV,AV.ax,AV.aB,au,uJ,eZ];exact⟨I2,ip,il,R3⟩;have c2:¬s.k=2:=λc=>c23 (.inl c);have c3:¬s.k=3:=λc=>c23 (.inr c);by_cases c5:s.k=5;obtain⟨a,rfl⟩:∃a,l=[a]:=⟨_,wC (by rw[hl];exact kl (by omega))⟩;by_cases a0:a=0;have ep:jR fS s.k s.ref s.bd s.el [a] (r2,f)=jI fS s.el (r2,f):=(by simp[jR,c5,nF,a0]);rw[ep];obtain⟨s3,I3,t3,tg,wU,R3⟩:=Bn H s.el R2 wl rl (by omega) (G2.qG (by omega)) (by omega) (λ_=>h0);rw[ip,hEL]at t3;simp[c5,eZ,m3,m4,aO,a0,l2,t3];exact⟨I3,by rw[tg,ip],by rw[wU,il],R3⟩;have ep:jR fS s.k s.ref s.bd s.el [a] (r2,f)=jI fS s.bd (r2,f):=(by simp[jR,c5,nF,a0]);rw[ep];obtain⟨s3,I3,t3,tg,wU,R3⟩:=Bn H s.bd R2 wb rb (by omega) (G2.qG (by omega)) (by omega) (λ_=>h0);rw[ip,hBD]at t3;simp[c5,eZ,m3,m4,aO,a0,b2,t3];exact⟨I3,by rw[tg,ip],by rw[wU,il],R3⟩;by_cases c7:s.k=7;have Vc:∀y,(s2.set I.p y)[I.p]?=some y:=λy=>aay GH;have oF:∀y z,(s2.set I.p y).set I.p z=s2.set I.p z:=λy z=>List.set_set ..
   have htf:mQ (f::L)=f:=rfl;match l,hl with
   |[],hl=>
    have ep:jR fS s.k s.ref s.bd s.el [] (r2,f)=(r2,{ f with done:=true }):=(by simp[jR,c7]);rw[ep];have R3:eF T aa ({ f with done:=true }::L) r2 I2 (s2.set I.p (.rows 0 17 [cD T ({ f with done:=true }::L) r2 I2])):=by
     rw[<-ip];exact R2.aF r2 { f with done:=true } I2.iv rfl rfl rfl rfl R2.iv
    simp[c7,au,eZ,hP,cD,dW,htf,aV,AV.ax,AV.aB,n1,n4,m2,aO,Pc,Vc,oF,h0];exact⟨I2,ip,il,by simpa [cD,dW,mQ,h0,vV] using R3⟩
   |a::l',hl=>
    have ep:jR fS s.k s.ref s.bd s.el (a::l') (r2,f)=(r2,{ f with done:=true,cH:=a }):=(by simp[jR,c7,nF]);rw[ep];have R3:eF T aa ({ f with done:=true,cH:=a }::L) r2 I2 (s2.set I.p (.rows 0 17 [cD T ({ f with done:=true,cH:=a }::L) r2 I2])):=by
     rw[<-ip];exact R2.aF r2 { f with done:=true,cH:=a } I2.iv rfl rfl rfl rfl R2.iv
    simp[c7,au,eZ,hP,cD,dW,htf,cut,aV,AV.ax,AV.aB,n1,n4,m2,m3,m4,aO,Pc,Vc,oF];exact⟨I2,ip,il,by simpa [cD,dW,mQ,vV] using R3⟩
   by_cases c8:s.k=8;obtain⟨a,rfl⟩:∃a,l=[a]:=⟨_,wC (by rw[hl];exact kl (by omega))⟩;have ep:jR fS s.k s.ref s.bd s.el [a] (r2,f)=({ r2 with out:=r2.out++[a] },f):=(by simp[jR,c8,nF]);rw[ep];have fy:r2.out++[a]≠[]:=(by simp);have N2:r2.out.length<1000000:=(by have:=G2.o;have:=G2.st;have:=K.fuel;have:=K.fu;omega);have hov:∀i v,oV (r2.out++[a]) i v=.mu i v:=λi v=>U fy;by_cases hO0:r2.out=[];obtain⟨s3,zT⟩:∃s,s=s2++[.rows 0 1 (aO [a])]:=⟨_,rfl⟩;have P3:s3[I.p]?=some (.rows 0 17 [cD T (f::L) r2 I2]):=(by rw[zT,aal GH];exact hP);have qN:eF T aa (f::L) { r2 with out:=r2.out++[a] } { I2 with o:=s2.length,ov:=0,jv:=λj=>if j=s2.length then .o else I2.jv j } (s3.set I.p (.rows 0 17 [cD T (f::L) { r2 with out:=r2.out++[a] } { I2 with o:=s2.length,ov:=0 }])):=by
    refine R2.Bf fy (.inr (Nat.le_refl _)) (λj hj hp _=>?_) ?_ ?_;rw[aap (by rw[<-ip];exact λe=>hp e.symm),zT,aal hj];rw[ip];exact aay (fA P3);rw[aap (by omega),zT,hO0];simp
   have JK:oV r2.out I2.o I2.ov=.af:=(by unfold oV;rw[ah hO0]);simp only[cD,dW,JK]at hP P3;simp only[cD,dW,hov]at qN;have q3:s2++[.rows 0 1 [[.int .i64 a]]]=s3:=zT.symm;have VT:(8:Nat)<=cN:=(by unfold cN;omega);simp[c8,au,hP,cut,m3,m4,aO,aD,aC,dx,ff,cn,VT,q3,P3,aV,AV.ax,AV.aB,eZ,Pc];exact⟨_,by exact ip,by exact il,qN⟩;have hO:=R2.O hO0;have hoo:=R2.lo hO0;have YL:I.p≠I2.o:=λe=>by
    rw[<-ip]at e;have h1:=R2.lp;rw[e,hoo]at h1;cases h1
   have VG:=R2.low _ (show I2.jv I2.o≠.no by rw[hoo];decide);obtain⟨s3,zT⟩:∃s,s=s2.set I2.o (.rows (I2.ov+1) 1 (aO (r2.out++[a]))):=⟨_,rfl⟩;have P3:s3[I.p]?=some (.rows 0 17 [cD T (f::L) r2 I2]):=(by rw[zT,aap YL.symm];exact hP);have qN:eF T aa (f::L) { r2 with out:=r2.out++[a] } { I2 with o:=I2.o,ov:=I2.ov+1,jv:=λj=>if j=I2.o then .o else I2.jv j } (s3.set I.p (.rows 0 17 [cD T (f::L) { r2 with out:=r2.out++[a] } { I2 with o:=I2.o,ov:=I2.ov+1 }])):=by
    refine R2.Bf fy (.inl ⟨hO0,rfl⟩) (λj hj hp hq=>?_) ?_ ?_;rw[aap (by rw[<-ip];exact λe=>hp e.symm),zT,aap λe=>hq hO0 e.symm];rw[ip];exact aay (fA P3);rw[aap YL,zT];exact aay (fA hO)
   have JK:oV r2.out I2.o I2.ov=.mu I2.o I2.ov:=(by unfold oV;rw[U hO0]);simp only[cD,dW,JK]at hP P3;simp only[cD,dW,hov]at qN;have q2:aO r2.out++[[.int .i64 a]]=aO (r2.out++[a]):=(by simp[aO]);have VT:((aO r2.out).length+1)*8<=cN:=(by simp[aO];unfold cN;omega);have amI:(r2.out.length+1)*8<=cN:=(by unfold cN;omega);have m4':bt MV=[[.int .i64 a]]:=(by rw[m4];rfl);simp[c8,au,hP,hO,cut,m3,m4',aD,aC,dx,ff,cn,amI,q2,zT.symm,P3,aV,AV.ax,AV.aB,eZ,Pc,VG];exact⟨_,by exact ip,by exact il,qN⟩;have ep:jR fS s.k s.ref s.bd s.el l (r2,f)=(r2,f):=(by simp[jR,c2,c3,c5,c7,c8]);rw[ep];simp[c2,c3,c5,c7,c8,eZ];exact⟨I2,ip,il,R2⟩
 rw[U ho]at R1;have VR:nU C r=false:=by cases hh:nU C r with|false=>rfl|true=>exact aU hh ho
 rw[U (by rw[VR];simp)];rw[VR]at t1;refine⟨s1,I,?_,rfl,rfl,R1⟩;rw[Sm.aE];refine aA (sf:=Qi) rfl rfl rfl ?_;generalize aT s.es=ES,bp s.bd=BD,bp s.el=EL at *;simp[Qi,e1,b1,l1,gq.bV,AV.ai,c1,c6,t1]
end DI
namespace DI
open Ax Go bY V7 kN lZ tj K9 S9
variable {T:Px}{C:Cx}{D:Dm}
theorem Lu(K:LU T C D):∀n,Hy T C D n (ev C n).1 (ev C n).2
 |0=>by
  refine⟨(Bb 0).1,(Bb 0).2,(zj 0).1,(zj 0).2,Za 0,?_,?_⟩;exact jq (fE:=λ_ _ r=>(0,stop r)) (fS:=λ_ x=>x) K (N:=0) (λ_ _ _ _=>rfl) (λ_ _ _ _ h=>aU rfl h) (λn h=>by cases h);refine mO (fE:=λ_ _ r=>(0,stop r)) (fS:=λ_ x=>x) K (N:=0) (λs x=>?_) (λn h=>by cases h);show (if s.k=1 then x else if s.k=6 then eK C (λ_ _ r=>(0,stop r)) (λ_ x=>x) (A9 s.es) s.bd 0 x else (stop x.1,x.2):Rs×Fm)=_;simp
 |n+1=>by
  have ih:=Lu K n;refine⟨(Bb (n+1)).1,(Bb (n+1)).2,(zj (n+1)).1,(zj (n+1)).2,Za (n+1),?_,?_⟩;refine jq (fE:=(ev C n).1) (fS:=(ev C n).2) K (N:=n+1) (λe f r h=>?_) (λe f r h _=>?_) (λm h=>by cases h;exact ih);show (if nU C r=true then mB C (ev C n).1 (ev C n).2 e f (cG r) else (0,stop r):Int×Rs)=_;rw[U (by rw[h];simp)];show (if nU C r=true then mB C (ev C n).1 (ev C n).2 e f (cG r) else (0,stop r):Int×Rs)=_;rw[ah h];refine mO (fE:=(ev C n).1) (fS:=(ev C n).2) K (N:=n+1) (λs x=>?_) (λm h=>by cases h;exact ih);show (if s.k=1 then x else if s.k=6 then eK C (ev C n).1 (ev C n).2 (A9 s.es) s.bd (n+1) x
   else if nU C x.1=true then ju (ev C n).1 (ev C n).2 s (cG x.1,x.2) else (stop x.1,x.2):Rs×Fm)=_
  simp
end DI
namespace DI
open Ax Go bY V7 kN lZ tj K9 S9
theorem nj{wl:Nat}:∀(l:List Int)(st:ay),jk wl (aO l) st=some (aO l,st)
 |[],st=>rfl|n::l,st=>by
  have ih:=nj (wl:=wl) l st;simp only[aO,List.map_cons]at *;simp[jk,jL,kS,AV.aB,AV.ai,ih]
def jJ(l:List Int):AV:=if l=[] then .af else .eE 1 (aO l)
theorem Jl{T:Px}{aa:Nat}{L:List Fm}{r:Rs}{I:rX}{st:ay}(h:eF T aa L r I st):∃st',pS 0 (oV r.out I.o I.ov) st=some (jJ r.out,st')/\st'[I.p]?=st[I.p]?/\st'.length=st.length:=by
 unfold jJ oV;by_cases q:r.out=[];rw[ah q,ah q];exact⟨st,rfl,rfl,rfl⟩;rw[U q,U q];have hO:=h.O q;have fy:(aO r.out).isEmpty=false:=by
  cases hq:r.out with
  |nil=>exact aU hq q|cons a b=>rfl
 have YL:I.o≠I.p:=λe=>by
  have h1:=h.lo q;rw[e,h.lp]at h1;cases h1
 refine⟨st.set I.o (.rows (I.ov+1) 1 []),?_,aap YL,by simp⟩;show iy 0 (.mu I.o I.ov) st=_;simp only[iy,hO,fy,nj];simp
theorem vh(l:List Int):(jJ l).aB=true:=by
 unfold jJ;split<;>rfl
def oU(r:Rs):AV:=.agg [.int .i64 r.e,.int .i64 r.code,jJ r.out,.int .i64 r.cC]
theorem B9(r:Rs):(oU r).aB=true:=by simp only[oU,AV.aB,AV.ax,vh,Bool.and_self]
def rJ(H:Hd)(bs:List Bd)(fuel:Nat):Cx:=⟨fuel,H.bE.map (·.2.length),bs,H.aI.length⟩
def vk:Rs:=⟨[],[],[],0,0,0,[],0⟩
def Da(p:Pg)(mZ:List Int)(fuel:Nat):Rs:=match nQ p with
 |some _=>vk|none=>match sQ (aM p) (aM p).aY p.funcs with
  |.error _=>vk|.ok bs=>run (rJ (aM p) bs fuel) (dX p) mZ
def ade(j:Nat):Lb:=if j=0 then .p else if j=1 then .g else .no
open N7 U7 in
theorem EW(p:Pg){mZ:AV}(hi:tP mZ=true)(iI:iQ mZ=true)(fuel:Int)(YD:fuel<1000000)
  (hg:(j7 p).ok)(zX:GD.sm (j7 p))(dM:∀f∈p.funcs,f.params.length+Sm.fY f.body<1000000000)
  (uS:∀bs,sQ (aM p) (aM p).aY p.funcs=.ok bs->∀b∈bs,Sm.fY b.code<1000000000/\b.vars.length<1000000000)
  (hK:∀bs,nQ p=none->sQ (aM p) (aM p).aY p.funcs=.ok bs->LU ⟨aM p,dX p,bs,fuel.toNat⟩ (rJ (aM p) bs fuel.toNat) (wS (aM p))/\0<=dX p/\(dX p).toNat<bs.length)
  (wl li:Nat) (st:ay) :
  (aZ S).call wl li 13 [.agg p.aF,mZ,.int .i64 fuel] st=some (oU (Da p (dI mZ) fuel.toNat),st):=by
 have ec:=λwl aa st=>R9.xX wl aa p st hg zX dM;have es:=λwl aa st=>S9.Vt wl aa p st hg zX dM uS;have hs:=og hi;have hv:=jt iI hs;have hpi:=cI hs;refine bT (sf:=s13) rfl rfl (by simp[Pg.aF,AV.ax,AV.aB,hpi]) rfl (B9 _) ?_;unfold uB at ec;unfold Da;have r1:aN (aJ 3 (p.bJ.map Rc.aF))=true:=bI;have r2:(aJ 3 (p.bJ.map Rc.aF)).ai=aJ 3 (p.bJ.map Rc.aF):=bU;have f1:aN (aJ 7 (p.funcs.map Fc.aF))=true:=bI;have f2:(aJ 7 (p.funcs.map Fc.aF)).ai=aJ 7 (p.funcs.map Fc.aF):=bU;have g1:aN (aJ 4 (p.aI.map PD.cells))=true:=bI;have g2:(aJ 4 (p.aI.map PD.cells)).ai=aJ 4 (p.aI.map PD.cells):=bU;simp only[Pg.aF]at ec es ⊢;generalize aJ 3 (p.bJ.map Rc.aF)=PR,aJ 7 (p.funcs.map Fc.aF)=PF,aJ 4 (p.aI.map PD.cells)=PG at *;cases hF:jQ (j7 p) with
 |some a=>
  have VH:nQ p=some a:=by unfold nQ;rw[hF]
  rw[hF]at ec;rw[VH];simp only[oU,vk,jJ]at ec ⊢;simp[s13,ec,r1,r2,f1,f2,g1,g2,au,AV.ai,cm,cut]
 |none=>
  rw[hF]at ec;simp only at ec ⊢;cases hR:sQ (aM p) (aM p).aY p.funcs with
  |error a=>
   have VH:nQ p=some a:=(by unfold nQ;rw[hF];simp only[hR]);rw[hR]at ec;rw[VH];simp only[oU,vk,jJ,zO]at ec ⊢;simp[s13,ec,r1,r2,f1,f2,g1,g2,au,AV.ai,cm,cut]
  |ok bs=>
   rw[hR]at ec;simp only[zO,nC,List.cons_append,List.nil_append]at ec ⊢;cases hO:nQ p with
   |some a=>
    rw[hO]at es;simp only[oU,vk,jJ,yT]at es ⊢;simp[s13,ec,es,r1,r2,f1,f2,g1,g2,au,AV.ai,cm,cut,cE,cX]
   |none=>
    rw[hO]at es;simp only[yT,cE,cX]at es;obtain⟨K,Z8,hmb⟩:=hK bs hO hR;have VT:((aM p).aI.length:Int)*8<=cN:=(by have:=K.gl;unfold cN;show ((wS (aM p)).ng:Int)*8<=_;omega);have u1:aN (bP (aM p).aI)=true:=dn;have u2:(bP (aM p).aI).ai=bP (aM p).aI:=eA;have u3:bt (bP (aM p).aI)=(aM p).aI.map Vd.aF:=aW;have a1:aN (aJ 2 ((aM p).bE.map dz))=true:=bI;have a2:(aJ 2 ((aM p).bE.map dz)).ai=aJ 2 ((aM p).bE.map dz):=bU;have b1:aN (aJ 6 ((aM p).aY.map Sg.aF))=true:=bI;have b2:(aJ 6 ((aM p).aY.map Sg.aF)).ai=aJ 6 ((aM p).aY.map Sg.aF):=bU;have z1:aN (aJ 3 (bs.map Bd.aF))=true:=bI;have z2:(aJ 3 (bs.map Bd.aF)).ai=aJ 3 (bs.map Bd.aF):=bU;have hrc:∀n rows,(AV.raw n rows).cells=[.raw n rows]:=λ_ _=>rfl;obtain⟨n,hn⟩:∃n:Nat,fuel.toNat=n:=⟨_,rfl⟩;rw[hn]at K;rw[hn];have hmx:(if fuel<0 then 0 else fuel)=(n:Int):=(by split<;>omega);have hri:∀n rows,(AV.raw n rows).dj=true:=λ_ _=>rfl;have fm:aak (aM p).aI.length [AV.int .i64 0]=aO (aak (aM p).aI.length 0):=(by simp[aO]);generalize hHS:aJ 2 ((aM p).bE.map dz)=HS at *;generalize hHG:aJ 6 ((aM p).aY.map Sg.aF)=HG at *;generalize Yk:bP (aM p).aI=GL at *;generalize hBV:aJ 3 (bs.map Bd.aF)=BV at *;simp[s13,ec,es,r1,r2,f1,f2,g1,g2,au,AV.ai,cm,cut,aD,aC,hs,u1,u2,u3,a1,a2,b1,b2,z1,z2,VT,hrc,hri,hmx,fm,AV.ax,AV.aB,gq.bV];rw[zB];refine⟨0,0,0,0,_,.mu 1 0,_,_,rfl,rfl,rfl,rfl,?_⟩;subst hHS hHG Yk hBV;have R0:eF ⟨aM p,dX p,bs,n⟩ 0 [f0] (r0 (rJ (aM p) bs n) (dI mZ)) ⟨0,0,0,1,0,0,[],[(0,0)],ade,mZ⟩ [.rows 0 17 [dW ⟨aM p,dX p,bs,n⟩ mZ 0 0 .af 0 .af 1 0 .af false 0],.rows 0 1 (aO (aak (aM p).aI.length 0))]:=by
     refine⟨rfl,⟨hi,iI,rfl⟩,rfl,λe=>aU rfl e,λk hk=>by simp at hk,rfl,⟨λe=>aU rfl e,trivial⟩,λe=>aU rfl e,rfl,rfl,λe=>aU rfl e,λe=>aU rfl e,by simp,λe=>aU rfl e,by simp,by simp[jy,f0],by simp[jy,f0],λ_ _=>Nat.zero_le _⟩
    have H:=Lu K (rJ (aM p) bs n).fuel;have G0:Gd (rJ (aM p) bs n) 0 (r0 (rJ (aM p) bs n) (dI mZ)):=⟨by simp[r0],by simp[r0],by simp[r0,rJ],by simp[r0],by simp[r0]⟩;obtain⟨s1,I1,t1,ip,il,R1⟩:=rf K H (dX p) [] (AL:=.af) rfl rfl R0 Z8 hmb (by simp) G0 (by simp[r0]) rfl rfl;simp only at t1 ip;unfold run;generalize ee (rJ (aM p) bs n) (ev (rJ (aM p) bs n) (rJ (aM p) bs n).fuel).2 (dX p) [] (r0 (rJ (aM p) bs n) (dI mZ))=y at *;obtain⟨y1,r1⟩:=y;simp only at R1 t1 ⊢;have en:=λwl li=>p9 wl li R1;rw[ip]at en;have P1:=R1.P;rw[ip]at P1;simp only[dW]at t1;simp only[cD,dW]at P1
    push_cast at t1
    obtain⟨s2,xx,R2⟩:∃s2,s2=(if r1.e=0 then s1.set 0 (.rows 0 17 [cD ⟨aM p,dX p,bs,n⟩ [f0] { r1 with e:=1 } I1]) else s1)/\eF ⟨aM p,dX p,bs,n⟩ 0 [f0] (lE r1) I1 s2:=by
     unfold lE;by_cases e0:r1.e=0;rw[ah e0,ah e0];refine⟨_,rfl,?_⟩;have hq:∀q,q=I1.p->eF ⟨aM p,dX p,bs,n⟩ 0 [f0] { r1 with e:=1 } I1 (s1.set q (.rows 0 17 [cD ⟨aM p,dX p,bs,n⟩ [f0] { r1 with e:=1 } I1])):=λq hq=>by
      rw[hq];exact R1.aF { r1 with e:=1 } f0 I1.iv rfl rfl rfl rfl R1.iv
     exact hq 0 ip.symm;rw[U e0,U e0];exact⟨_,rfl,R1⟩
    have P2:=R2.P;rw[ip]at P2;obtain⟨s4,o1,o2,o3⟩:=Jl R2;rw[ip]at o2;have l1:0<s4.length:=(by rw[o3];exact fA P2);have P4:=o2.trans P2;have ov:=vh (lE r1).out;have ow:(jJ (lE r1).out).ai=jJ (lE r1).out:=(by unfold jJ;split<;>rfl);have oc:(jJ (lE r1).out).dj=true:=(by unfold jJ;split<;>rfl);obtain⟨s5,Jj⟩:∃s,s=s4.set 0 (.rows 0 17 [dW ⟨aM p,dX p,bs,n⟩ I1.iv (lE r1).e (lE r1).code (jJ (lE r1).out) (lE r1).cC (lV (lE r1).s I1.q I1.v) I1.g (lE r1).nf (vV (mQ [f0]) (qy I1)) (mQ [f0]).done (mQ [f0]).cH]):=⟨_,rfl⟩;have P5:=aay (a:=dA.rows 0 17 [dW ⟨aM p,dX p,bs,n⟩ I1.iv (lE r1).e (lE r1).code (jJ (lE r1).out) (lE r1).cC (lV (lE r1).s I1.q I1.v) I1.g (lE r1).nf (vV (mQ [f0]) (qy I1)) (mQ [f0]).done (mQ [f0]).cH]) l1;rw[<-Jj]at P5;simp only[cD,dW]at xx P2 P4 P5 Jj;by_cases e0:r1.e=0;rw[ah e0]at xx;simp[au,t1,en,e0,P1,cut,aV,AV.ax,AV.aB,<-xx];rw[zB];refine⟨0,0,0,0,_,_,s4,s5,rfl,?_,o1,?_,?_⟩;simp[iT,P2,cut];simp[fo,P4,aV,au,Jj];simp[cut,P5,ow,oc,AV.cW,cm,au,oU];rw[U e0]at xx;subst xx;simp[au,t1,en,e0];rw[zB];refine⟨0,0,0,0,_,_,s4,s5,rfl,?_,o1,?_,?_⟩;simp[iT,P2,cut];simp[fo,P4,aV,au,Jj];simp[cut,P5,ow,oc,AV.cW,cm,au,oU]
end DI
