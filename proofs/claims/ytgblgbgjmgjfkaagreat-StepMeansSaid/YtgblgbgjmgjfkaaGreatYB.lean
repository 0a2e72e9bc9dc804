/-
  An expression.
-/
import Derived.Test.YtgblgbgjmgjfkaaGreatY
import Derived.Test.YtgblgbgjmgjfkaaGreatE

open List renaming getElem?_set_self->ad9,replicate->acp
set_option maxRecDepth 100000
set_option maxHeartbeats 8000000
namespace Ft
open Ax Go aO V7 iQ iZ pX K9 S9
variable {T:Px}{C:Cx}{D:Dm}{n:Nat}{fE:E->Fm->Rs->Int×Rs}{fS:Sm->Rs×Fm->Rs×Fm}{ah:Nat}{L:List Fm}{r:Rs}{I:uF}{st st':aj}{f:Fm}
theorem Fj:∀{l:List E}{r:Rs}{vs:List Int}{g:Rs},vals fE f l r=(some vs,g)->vs.length=l.length
 |[],r,vs,g,e=>by grind [vals]|x::l,r,vs,g,e=>by
  unfold vals at e;split at e;cases e;split at e;rename_i H;cases e;simp[Fj H];cases e
variable{l:List Int}
theorem Aw(h:l.length=1):l=[qD l]:=by
 match l,h with
 |[a],_=>rfl
theorem YJ(h:l.length=2):l=[qD l,Lt l]:=by
 match l,h with
 |[a,b],_=>rfl
theorem OW(h:dL T ah (f::L) r I st)(a:Int)(l:List Int)(H:r.fm=a::l):dL T ah (f::L) { r with fm:=l } { I with iv:=rR I.iv 1 (l.length+1) } (st.set I.p (.rows 0 17 [cI T (f::L) { r with fm:=l } { I with iv:=rR I.iv 1 (l.length+1) }])):=by
 obtain⟨V,W,Y⟩:=h.iv;rw[H]at Y;refine h.aI { r with fm:=l } f (rR I.iv 1 (l.length+1)) rfl rfl rfl rfl ⟨Nn V,?_,?_⟩;have:=W;cases g:I.iv<;>rw[g]at this<;>simp_all [cJ,rR];simp_all
theorem mS(K:Prg T C D){N:Nat}{gE:E->Fm->Rs->Int×Rs}(ee:∀e f r,oB C r=false->gE e f r=(0,stop r))(ajD:∀e f r,oB C r=true->N≠0->gE e f r=jl C fE fS e f (bV r))
  (HN:∀n,N=n+1->Hy T C D n fE fS):PE T C D N gE:=by
 intro ah L r I st f e h hw hr eO hG hn hd h0;obtain⟨s1,l1,t1,R1⟩:=oL h (by have:=K.fu;omega) C K.fuel;have e1:bf (bG e.aN)=true:=ck;have e2:(bG e.aN).ai=bG e.aN:=bY;rw[E.aQ];by_cases Q:oB C r=true
 ·rw[af Q]at R1;obtain⟨n,rfl⟩:∃n,N=n+1:=⟨N-1,by grind [mW]⟩;have H:=HN n rfl;rw[ajD _ _ _ Q (by omega)];rw[Q]at t1;have G1:Gd C 1 (bV r):=hG.bV Q;have G0:Gd C 0 (bV r):=G1.zj (by omega);have Zb:C.fuel<=(bV r).aK+n:=by show C.fuel<=r.aK+1+n;omega
  rw[Bz]at hw;rw[xB]at hr;have hsk:=E.rj e;have hte:(bV r).e=0:=(mW.1 Q).1;obtain⟨s2,I2,vs,t2,t,J,M,DD⟩:=xG H e.aN R1 hw.2 hr.2 (by omega) G0 Zb hd h0 hte;have R6:=jN H.oE f e.aN (bV r);have F:=(zZ H.gE f e.aN 1 (bV r) G1).1;have en:=λW w=>s7 W w M;rw[t]at en;have m1:bf (cq 1 (aP vs))=true:=dM;have m2:(cq 1 (aP vs)).ai=aM 1 (aP vs):=rfl;have X:cN 1 (cq 1 (aP vs))=true:=by simp_all
  have Z:aY (cq 1 (aP vs))=aP vs:=oe;have n1:bf (aM 1 (aP vs))=true:=bL;have n2:(aM 1 (aP vs)).ai=aM 1 (aP vs):=bU;have n3:cN 1 (aM 1 (aP vs))=true:=ji (by simp_all);have n4:aY (aM 1 (aP vs))=aP vs:=bn;cases hv:vals fE f e.aN (bV r) with
  |mk o R=>
  rw[hv]at M R6 F en DD;simp only at M R6 F en DD;have hlen:∀l,o=some l->l.length=e.aN.length:=λl hl=>Fj (by rw[hv,hl]);cases o with
  |none=>
   have Xv:R.e≠0:=(by grind);have ex:jl C fE fS e f (bV r)=(0,R):=(by unfold jl;rw[hv]);rw[ex];refine⟨s2,I2,?_,t,J,M⟩;refine aG (sf:=Tp) rfl rfl rfl ?_;generalize bG e.aN=KV,cq 1 (aP vs)=MV at *;simp_all [Tp]
  |some l=>
   obtain⟨rfl,Xv⟩:l=vs/\R.e=0:=by
    grind
   have ex:jl C fE fS e f (bV r)=ja C (dW C fS) e.k e.n e.ref e.ty.r f l R:=(by unfold jl;rw[hv]);rw[ex];have hl:=hlen l rfl;obtain⟨⟨k1,k24⟩,kg,k1a,k2a,kc,kn,kf⟩:=hw.1;have Po:=hr.1;have z:=M.P;have x:R.s.length<1000000:=(by have:=F.s;have:=F.st;have:=K.fuel;have:=K.fu;omega);have hg2:=F.g;rw[t]at z;have Iw:ah<=I.p:=h.Gs;obtain⟨v',st',h1,rfl,h2⟩:∃v' st',(aZ S).call 0 ah 159 [.ptr I.p 0 0 0,.agg [.int .i64 e.k,.int .i64 e.n,.str e.nm,.str e.on,.int .i64 e.od,bG e.aN,.int .i64 e.a,.int .i64 e.ty.b,.int .i64 e.ty.r,.int .i64 e.ty.d,.int .i64 e.ref]] st=some (v',st')/\
     v'=.int .i64 (ja C (dW C fS) e.k e.n e.ref e.ty.r f l R).1/\∃I',I'.p=I.p/\I'.fl=I.fl/\dL T ah (f::L) (ja C (dW C fS) e.k e.n e.ref e.ty.r f l R).2 I' st':=by
    refine jL (sf:=Tp) rfl rfl rfl ?_;generalize bG e.aN=KV at *;generalize hMV:cq 1 (aP l)=MV at *;generalize hLV:aM 1 (aP l)=LV at *;simp[Tp,t1,t2,e1,e2,en,Xv,fZ.bM,AV.ai];by_cases c1:e.k=1;have j:ja C (dW C fS) e.k e.n e.ref e.ty.r f l R=(e.n,R):=(by simp[ja,c1]);rw[j];simp[c1,fV]
    grind
    by_cases c2:e.k=2;have j:ja C (dW C fS) e.k e.n e.ref e.ty.r f l R=(e.n,R):=(by simp[ja,c2]);rw[j];simp[c2,fV]
    grind
    by_cases c3:e.k=3;have j:ja C (dW C fS) e.k e.n e.ref e.ty.r f l R=(0,R):=(by simp[ja,c3]);rw[j];simp[c3,fV]
    grind
    by_cases c4:e.k=4;have j:ja C (dW C fS) e.k e.n e.ref e.ty.r f l R=(pX.qE f R e.ref,R):=(by simp[ja,c4]);rw[j];have Sh:=K.gl;have g1:=Po c4;have g2:=kg c4;by_cases q:e.ref<0;obtain⟨k,hk⟩:∃k:Nat,e.ref = -1-(k:Int):=⟨(-1-e.ref).toNat,by omega⟩;have qI:k<R.g.length:=(by rw[hg2,K.ng];omega);have Uc:IntKind.i64.wrap (-1-(-1-(k:Int)))=(k:Int):=(by rw[dY]<;>omega);have Zb : -1-(k:Int)<0:=(by omega);have hG:=M.G;have ev:pX.qE f R e.ref=R.g[k]:=by
     unfold pX.qE;rw[af q,hk,show (-1-(-1-(k:Int))).toNat=k by omega,List.getD_eq_getElem?_getD,List.getElem?_eq_getElem qI];rfl
    have hgi:(aP R.g)[k]?=some [.int .i64 R.g[k]]:=(by simp[aP,qI]);have Sh:k<(aP R.g).length:=(by grind);rw[ev];simp[c4,fV,hk,Zb,Uc,z,cI,jD,hG,cut,qI,aD,aC]
    grind
    obtain⟨k,hk⟩:∃k:Nat,e.ref=(k:Int):=⟨e.ref.toNat,by omega⟩;have qI:k<f.vs.length:=(by omega);have iO:f.vs≠[]:=(by grind);obtain⟨a,b,ha,O,_⟩:=M.Zu;obtain⟨g4,_,_⟩:=O iO;have Zr:tL I2=a:=(by grind [tL]);have Yj:vV (oX (f::L)) (tL I2)=.mu a.1 a.2:=(by rw[Zr];exact U iO);have Zb:¬(k:Int)<0:=(by omega);have ev:pX.qE f R e.ref=f.vs[k]:=by
     simp_all [pX.qE,U]
    have hgi:(aP f.vs)[k]?=some [.int .i64 f.vs[k]]:=(by simp_all);have Sh:k<(aP f.vs).length:=(by grind);rw[ev];simp[c4,fV,hk,Zb,z,cI,jD,Yj,g4,cut,qI,aD,aC]
    grind
    by_cases c5:e.k=5;obtain⟨a,rfl⟩:∃a,l=[a]:=⟨_,Aw (by grind)⟩;have j:ja C (dW C fS) e.k e.n e.ref e.ty.r f [a] R=uq R (kQ R.s a e.ref):=(by simp[ja,c5,qD]);rw[j];have y:=λW w=>Aa W w M x a e.ref;rw[t]at y;obtain⟨B,V,Y,v⟩:=sI M (kQ R.s a e.ref).1 (kQ R.s a e.ref).2;rw[t]at Y;simp[c5,fV,aD,aC,X,Z,aP,y,Y];exact⟨rfl,I2,t,J,v⟩;by_cases c6:e.k=6;obtain⟨a,b,rfl⟩:∃a b,l=[a,b]:=⟨_,_,YJ (by grind)⟩;have j:ja C (dW C fS) e.k e.n e.ref e.ty.r f [a,b] R=uq R (kQ R.s a b):=(by simp[ja,c6,qD,Lt]);rw[j];have y:=λW w=>Aa W w M x a b;rw[t]at y;obtain⟨B,V,Y,v⟩:=sI M (kQ R.s a b).1 (kQ R.s a b).2;rw[t]at Y;simp[c6,fV,aD,aC,m2,n3,n4,aP,y,Y];exact⟨rfl,I2,t,J,v⟩;by_cases Df:e.k=10;obtain⟨a,rfl⟩:∃a,l=[a]:=⟨_,Aw (by grind)⟩;have j:ja C (dW C fS) e.k e.n e.ref e.ty.r f [a] R=uq R (zW R.s a):=(by simp[ja,Df,qD]);rw[j];have y:=λW w=>Gl W w M x a;rw[t]at y;obtain⟨B,V,Y,v⟩:=sI M (zW R.s a).1 (zW R.s a).2;rw[t]at Y;simp[Df,fV,aD,aC,X,Z,aP,y,Y];exact⟨rfl,I2,t,J,v⟩;by_cases c8:e.k=8;have j:ja C (dW C fS) e.k e.n e.ref e.ty.r f l R=qF R (kU (C.aU.getD e.ty.r.toNat 0:Nat)):=(by simp[ja,c8]);rw[j];obtain⟨kn1,kn2⟩:=kn c8;rw[K.nr]at kn2;obtain⟨q,hq⟩:∃q:Nat,e.ty.r=q:=⟨e.ty.r.toNat,by omega⟩;have hq2:q<T.H.bJ.length:=(by omega);have eq1:C.aU.getD e.ty.r.toNat 0=T.H.bJ[q].2.length:=(by rw[K.aU,hq];simp[hq2]);rw[eq1];obtain⟨B,I3,V,Y,MJ,WW,v⟩:=Uy M x (T.H.bJ[q].2.length:Nat);rw[t]at Y;have b1:cN 2 (aM 2 (T.H.bJ.map fQ))=true:=ji (by simp[cr,fQ]);have b2:(aM 2 (T.H.bJ.map fQ)).ai=aM 2 (T.H.bJ.map fQ):=bU;have b3:aY (aM 2 (T.H.bJ.map fQ))=T.H.bJ.map fQ:=bn;have z1:bf (cG T.H.bJ[q].2)=true:=iD;have z2:(cG T.H.bJ[q].2).ai=cG T.H.bJ[q].2:=lu;have z5:aY (cG T.H.bJ[q].2)=T.H.bJ[q].2.map Vd.aI:=bn;simp only[cI,jD]at z;generalize aM 2 (T.H.bJ.map fQ)=BV at *;simp[c8,fV,aD,aC,z,cut,hq,b1,b2,b3,hq2,fQ,z1,z2,z5,Y]
    grind
    by_cases c9:e.k=9;obtain⟨a,rfl⟩:∃a,l=[a]:=⟨_,Aw (by grind)⟩;have j:ja C (dW C fS) e.k e.n e.ref e.ty.r f [a] R=oC R a:=(by simp[ja,c9,qD]);rw[j];by_cases ha:a<0\/50<a;have an:=λW w st=>Uz W w 0 a st (.ptr I.p 0 0 11) ha;obtain⟨s4,l4,t4,R4⟩:=sI M 0 4;rw[t]at t4;have em:oC R a=(0,eH R 4):=(by unfold oC;grind);rw[em];simp[c9,fV,aD,aC,X,Z,aP,an,t4]
    grind
    obtain⟨q,rfl⟩:∃q:Nat,a=q:=⟨a.toNat,by omega⟩;obtain⟨B,I3,V,Y,MJ,WW,v⟩:=UA M x q (by omega);rw[t]at Y;obtain⟨s4,l4,t4,R4⟩:=sI v (qF R q).1 0;rw[MJ,t]at t4;have em:oC R (q:Int)=qF R q:=(by unfold oC;grind);rw[em];simp[c9,fV,aD,aC,X,Z,aP,Y,t4];exact⟨I3,by rw[MJ,t],by rw[WW,J],R4⟩;by_cases Lu:e.k=11;have j:ja C (dW C fS) e.k e.n e.ref e.ty.r f l R=oD R:=(by simp[ja,Lu]);rw[j];obtain⟨g1,g2,O⟩:=M.iv;have gs:=eA g1;have gv:=bT g2 gs;have gr:=cY g1;have gz:=DF g1;cases hi:R.fm with
    |nil=>
     obtain⟨B,V,Y,v⟩:=rD M 5;rw[t]at Y;have er:oD R=(0,eH R 5):=(by unfold oD;rw[hi]);rw[er];rw[hi]at O;simp[Lu,fV,z,cI,jD,cut,gs,gv,gr,O,Y]
     grind
    |cons b m=>
     have er:oD R=(b,{ R with fm:=m }):=(by unfold oD;rw[hi]);rw[er];have v:=OW M b m hi;rw[hi]at O;have OX:mK (rR I2.iv 1 (m.length+1))=true/\cJ (rR I2.iv 1 (m.length+1))=true:=⟨v.iv.1,v.iv.2.1⟩;have vs:=bT OX.2 (eA OX.1);have ps:=eC (eA OX.1);have iO:¬(m.length:Int)+1=0:=(by omega);have h1:(1:Int)<=(m.length:Int)+1:=(by omega);rw[t]at v;simp[Lu,fV,z,cI,jD,cut,gs,gv,gr,gz,O,iO,h1,aP,bu,AV.aB,ay,Iw];exact⟨{ I2 with p:=I.p,iv:=rR I2.iv 1 (m.length+1) },rfl,J,v⟩
    by_cases DJ:e.k=12;obtain⟨a,rfl⟩:∃a,l=[a]:=⟨_,Aw (by grind)⟩;have j:ja C (dW C fS) e.k e.n e.ref e.ty.r f [a] R=(Zs 12 a,R):=(by simp[ja,DJ,qD]);rw[j];have un:=λW w st=>WI W w 12 a st;simp[DJ,fV,aD,aC,X,Z,aP,un]
    grind
    by_cases Fo:e.k=13;obtain⟨a,rfl⟩:∃a,l=[a]:=⟨_,Aw (by grind)⟩;have j:ja C (dW C fS) e.k e.n e.ref e.ty.r f [a] R=(Zs 13 a,R):=(by simp[ja,Fo,qD]);rw[j];have un:=λW w st=>WI W w 13 a st;simp[Fo,fV,aD,aC,X,Z,aP,un]
    grind
    by_cases c7:e.k=7;have j:ja C (dW C fS) e.k e.n e.ref e.ty.r f l R=dW C fS e.ref l R:=(by simp[ja,c7]);rw[j];obtain⟨kc1,kc2,kc3⟩:=kc c7;have hb:e.ref.toNat<T.bs.length:=(by rw[<-K.ps];exact kc2);obtain⟨B,I3,Y,MJ,WW,v⟩:=xm K H e.ref l (AL:=MV) (by rw[m2,hLV]) m1 M kc1 hb (by rw[hl,kc3];exact K.pv _ kc2 hb) (F.zj (by omega)) (by have:=R6.st;omega) hd h0;rw[t]at Y;simp[c7,fV,Y]
    grind
    obtain⟨a,b,rfl⟩:∃a b,l=[a,b]:=⟨_,_,YJ (by grind)⟩;have j:ja C (dW C fS) e.k e.n e.ref e.ty.r f [a,b] R=uq R (zV e.k a b):=(by grind [ja,qD,Lt]);rw[j];have bi:=λW w st=>UC W w e.k a b st;obtain⟨B,V,Y,v⟩:=sI M (zV e.k a b).1 (zV e.k a b).2;rw[t]at Y;simp[c1,c2,c3,c4,c5,c6,c7,c8,c9,Df,Lu,DJ,Fo,fV,aD,aC,m2,n3,n4,aP,bi,Y];exact⟨rfl,I2,t,J,v⟩
   grind
 rw[U Q]at R1;have hof:oB C r=false:=by grind
 rw[ee _ _ _ hof];rw[hof]at t1;refine⟨s1,I,?_,rfl,rfl,R1⟩;refine aG (sf:=Tp) rfl rfl rfl ?_;simp_all [Tp]
end Ft
namespace Ft
open Ax Go aO V7 iQ iZ pX K9 S9
variable {T:Px}{C:Cx}{D:Dm}{n:Nat}{fE:E->Fm->Rs->Int×Rs}{fS:Sm->Rs×Fm->Rs×Fm}{ah:Nat}{L:List Fm}{r:Rs}{I:uF}{st st':aj}{f:Fm}
theorem MK(b:E):∀(l:List E)(r:Rs),vals fE f (l++[b]) r=match vals fE f l r with
  |(none,g)=>(none,g)
  |(some vs,g)=>if (fE b f g).2.e≠0 then (none,(fE b f g).2) else (some (vs++[(fE b f g).1]),(fE b f g).2)
 |[],r=>by
  grind [vals]
 |e::l,r=>by
  show vals fE f (e::(l++[b])) r=_;rw[Gt,Gt,MK b l]
  grind
theorem ah4(K:Prg T C D)(H:Hy T C D n fE fS)(s:Sm)(a b:E)(mZ:s.es=[a,b])(vg:(a.k=5/\a.aN.length=1)\/(a.k=6/\a.aN.length=2))(h:dL T ah (f::L) r I st)(hwa:WL D a.aN)(hwb:WE D b)(jE:zJ f.vs.length a.aN)(hrb:CN f.vs.length b)(hsa:E.eD a.aN<1000000000)(hsb:E.sz b<1000000000)
  (hG:Gd C 0 r)(hn:C.fuel<=r.aK+n)(he:r.e=0)(hd:f.done=false)(h0:f.res=0) :
  ∃st' I',(aZ S).call 0 ah 160 [.ptr I.p 0 0 0,.agg s.aI] st=some (.eY [],st')/\I'.p=I.p/\I'.fl=I.fl/\
   dL T ah (f::L) (match vals fE f (a.aN++[b]) r with|(none,r)=>(r,f)|(some l,r)=>oF (r,f) a.k a.ref l).1 I' st':=by
 have e1:bf (bG s.es)=true:=ck;have e2:(bG s.es).ai=bG s.es:=bY;have t:aY (bG s.es)=E.rows s.es:=bn;have e4:cN 11 (bG s.es)=true:=nC;have b1:bf (bZ s.bd)=true:=cQ;have b2:(bZ s.bd).ai=bZ s.bd:=bQ;have l1:bf (bZ s.el)=true:=cQ;have l2:(bZ s.el).ai=bZ s.el:=bQ;have er:E.rows s.es=[a.aI,b.aI]:=by rw[mZ];simp[E.rows]
 have k1:bf (bG a.aN)=true:=ck;have k2:(bG a.aN).ai=bG a.aN:=bY;have k3:bf (bG b.aN)=true:=ck;have k4:(bG b.aN).ai=bG b.aN:=bY;rw[er]at t;obtain⟨s2,I2,vs,t2,j,Q,M,DD⟩:=xG H a.aN h hwa jE hsa hG hn hd h0 he;have P:=(zZ H.gE f a.aN 0 r hG).1;have R6:=jN H.oE f a.aN r;have O:=λwl li=>s7 wl li M;rw[j]at O;have m1:bf (cq 1 (aP vs))=true:=dM;have m2:(cq 1 (aP vs)).ai=aM 1 (aP vs):=rfl;have m3:cN 1 (cq 1 (aP vs))=true:=by simp_all
 have m4:aY (cq 1 (aP vs))=aP vs:=oe;have n1:bf (aM 1 (aP vs))=true:=bL;have n2:(aM 1 (aP vs)).ai=aM 1 (aP vs):=bU;have n3:cN 1 (aM 1 (aP vs))=true:=ji (by simp_all);have n4:aY (aM 1 (aP vs))=aP vs:=bn;rw[MK];cases hv:vals fE f a.aN r with
 |mk o J=>
 rw[hv]at M R6 P O DD;simp only at M R6 P O DD;have G:∀l,o=some l->l.length=a.aN.length:=λl hl=>Fj (by rw[hv,hl]);rw[E.aQ a,E.aQ b]at t;rw[Sm.aQ];cases o with
 |none=>
  have X:J.e≠0:=by grind
  refine⟨s2,I2,?_,j,Q,M⟩;refine aG (sf:=NA) rfl rfl rfl ?_;generalize bG s.es=ES,bZ s.bd=V,bZ s.el=W at *;simp_all [NA]
 |some l=>
  obtain⟨rfl,X⟩:l=vs/\J.e=0:=by
   grind
  have hl:=G l rfl;simp only;obtain⟨s3,I3,Y,m,WW,v⟩:=H.E ah L J I2 s2 f b M hwb hrb hsb P (by have:=R6.st;omega) hd h0;have G3:=(H.gE 0 b f J P).1;rw[j]at Y;rw[E.aQ b]at Y;have g:=λwl li=>s7 wl li v;rw[m,j]at g;generalize fE b f J=y at *;obtain⟨w,R⟩:=y;simp only at v G3 g Y ⊢;by_cases q:R.e=0;rw[U (by grind)];simp only;have B:R.s.length<1000000:=by have:=G3.s;have:=G3.st;have:=K.fuel;have:=K.fu;omega
  rcases vg with⟨F,gW⟩|⟨F,gW⟩;have hx:=Aw (l:=l) (by grind);generalize qD l=x at *;subst hx;have ep:oF (R,f) a.k a.ref ([x]++[w])=(eH { R with s:=tH R.s x a.ref w } (ko R.s x a.ref),f):=by simp[oF,F,qD,Lt]
  rw[ep];obtain⟨s4,l4,Z,R4⟩:=xS v B x a.ref w;obtain⟨s5,l5,N,R5⟩:=rD R4 (ko R.s x a.ref);rw[m,j]at Z N;refine⟨s5,I3,?_,by rw[m,j],by rw[WW,Q],R5⟩;refine aG (sf:=NA) rfl rfl rfl ?_;generalize bG s.es=ES,bZ s.bd=V,bZ s.el=W,bG a.aN=KV,bG b.aN=KB,cq 1 (aP [x])=MV at *;simp[NA,t2,e1,e2,t,e4,b1,l1,k2,k4,O,X,Y,g,q,F,m3,m4,aP,Z,N,fZ.bM,AV.ai,aD,aC];have hx:=YJ (l:=l) (by grind);generalize qD l=x,Lt l=z at *;subst hx;have ep:oF (R,f) a.k a.ref ([x,z]++[w])=(eH { R with s:=tH R.s x z w } (ko R.s x z),f):=by simp[oF,F,qD,Lt,at2]
  rw[ep];obtain⟨s4,l4,Z,R4⟩:=xS v B x z w;obtain⟨s5,l5,N,R5⟩:=rD R4 (ko R.s x z);rw[m,j]at Z N;refine⟨s5,I3,?_,by rw[m,j],by rw[WW,Q],R5⟩;refine aG (sf:=NA) rfl rfl rfl ?_;generalize bG s.es=ES,bZ s.bd=V,bZ s.el=W,bG a.aN=KV,bG b.aN=KB,cq 1 (aP [x,z])=MV,aM 1 (aP [x,z])=LV at *;simp[NA,t2,e1,e2,t,e4,b1,l1,k2,k4,O,X,Y,g,q,F,m2,m3,m4,n3,n4,aP,Z,N,fZ.bM,AV.ai,aD,aC];rw[af (by grind)];simp only;refine⟨s3,I3,?_,by rw[m,j],by rw[WW,Q],v⟩;refine aG (sf:=NA) rfl rfl rfl ?_;generalize bG s.es=ES,bZ s.bd=V,bZ s.el=W,bG a.aN=KV,bG b.aN=KB,cq 1 (aP l)=MV at *;simp[NA,t2,e1,e2,t,e4,b1,l1,k2,k4,O,X,Y,g,q,fZ.bM,AV.ai]
end Ft
namespace Ft
open Ax Go aO V7 iQ iZ pX K9 S9
variable {T:Px}{C:Cx}{D:Dm}{n:Nat}{fE:E->Fm->Rs->Int×Rs}{fS:Sm->Rs×Fm->Rs×Fm}{ah:Nat}{L:List Fm}{r:Rs}{I:uF}{st st':aj}{f:Fm}
theorem R8(g:List Int)(k:Nat)(v:Int):(aP g).set k [.int .i64 v]=aP (g.set k v):=by simp[aP,List.map_set]
theorem OZ(K:Prg T C D){N:Nat}(HN:∀n,N=n+1->Hy T C D n fE fS)(s:Sm)(c:E)(hk:s.k=6)(mZ:s.es=[c])(h:dL T ah (f::L) r I st)(hw:WE D c)(hwb:WB D s.bd)(hr:CN f.vs.length c)(hrb:rq f.vs.length s.bd)(eO:E.sz c<1000000000)(ayb:Sm.eD s.bd<1000000000)
  (hG:Gd C 0 r)(hn:C.fuel<=r.aK+N)(hd:f.done=false)(h0:f.res=0) :
  ∃st' t,(aZ S).call 0 ah 139 [.ptr I.p 0 0 0,.agg s.aI] st=some (.eY [],st')/\t.p=I.p/\t.fl=I.fl/\
   dL T ah ((cu C fE fS c s.bd N (r,f)).2::L) (cu C fE fS c s.bd N (r,f)).1 t st':=by
 have e1:bf (bG s.es)=true:=ck;have Y:(bG s.es).ai=bG s.es:=bY;have o:aY (bG s.es)=E.rows s.es:=bn;have e4:cN 11 (bG s.es)=true:=nC;have b1:bf (bZ s.bd)=true:=cQ;have b2:(bZ s.bd).ai=bZ s.bd:=bQ;have l1:bf (bZ s.el)=true:=cQ;have l2:(bZ s.el).ai=bZ s.el:=bQ;have er:E.rows s.es=[c.aI]:=by rw[mZ];simp[E.rows]
 have k1:bf (bG c.aN)=true:=ck;have k2:(bG c.aN).ai=bG c.aN:=bY;rw[er]at o;rw[E.aQ]at o;rw[Sm.aQ];obtain⟨v',st',h1,rfl,t,h2⟩:∃v' st',(aZ S).call 0 ah 139 [.ptr I.p 0 0 0,.agg [.int .i64 s.k,.str s.nm,.str s.on,.int .i64 s.od,bG s.es,bZ s.bd,bZ s.el,.int .i64 s.a,.int .i64 s.ref]] st=some (v',st')/\v'=.eY []/\∃t,t.p=I.p/\t.fl=I.fl/\dL T ah ((cu C fE fS c s.bd N (r,f)).2::L) (cu C fE fS c s.bd N (r,f)).1 t st':=by
  refine jL (sf:=FK) rfl rfl rfl ?_;generalize bG s.es=ES at *;generalize hBD:bZ s.bd=BD at *;generalize bZ s.el=EL at *;simp[FK,e1,b1,l1,fZ.bM,hk,AV.ai];refine bN Vv.eq_1 (λx:Nat×(Rs×Fm)×uF×aj=>⟨[(0,.val (.ptr I.p 0 0 0)),(3,.fp 0 0)],[[.int .i64 6,.str s.nm,.str s.on,.int .i64 s.od,ES,BD,EL,.int .i64 s.a,.int .i64 s.ref]],x.2.2.2⟩)
   (λx=>cu C fE fS c s.bd x.1 x.2.1=cu C fE fS c s.bd N (r,f)/\x.2.2.1.p=I.p/\x.2.2.1.fl=I.fl/\dL T ah (x.2.1.2::L) x.2.1.1 x.2.2.1 x.2.2.2/\Gd C 0 x.2.1.1/\x.2.1.2.vs.length=f.vs.length/\C.fuel<=x.2.1.1.aK+x.1/\C.fuel<=x.2.1.1.aK+N/\x.2.1.2.done=false/\x.2.1.2.res=0) (λx=>x.1) (N,(r,f),I,st) (by simp) ⟨rfl,rfl,rfl,h,hG,rfl,hn,hn,hd,h0⟩ ?_
  rintro⟨k,⟨R,F⟩,I1,s1⟩ ⟨j,g,J,h1,g1,v1,n1,n2,d1,z1⟩ ih;simp only at j g J h1 g1 v1 n1 n2 d1 z1 ih;obtain⟨s2,l2',Z,M⟩:=oL h1 (by have:=K.fu;omega) C K.fuel;rw[g]at Z;have qd:¬F.done=true:=by rw[d1];simp
  by_cases z:oB C R=true;rw[af z]at M;rw[z]at Z;obtain⟨ho1,ho2⟩:=mW.1 z;obtain⟨n,rfl⟩:∃n,N=n+1:=⟨N-1,by omega⟩;obtain⟨k,rfl⟩:∃k',k=k'+1:=⟨k-1,by omega⟩;have H:=HN n rfl;have G1:Gd C 0 (bV R):=(g1.bV z).zj (by omega);have vk:(bV R).aK=R.aK+1:=rfl;obtain⟨s3,I3,w,m,V,Q⟩:=H.E ah L (bV R) I1 s2 F c M hw (by rw[v1];exact hr) eO G1 (by omega) d1 z1;rw[g]at w;have R6:=H.oE c F (bV R);have G2:=(H.gE 0 c F (bV R) G1).1;have ex:cu C fE fS c s.bd (k+1) (R,F)=if (fE c F (bV R)).2.e≠0\/(fE c F (bV R)).1=0 then ((fE c F (bV R)).2,F) else cu C fE fS c s.bd k (fN fS s.bd ((fE c F (bV R)).2,F)):=by
   (conv=>lhs;unfold cu)<;>rw[U qd,af z]
  rw[ex]at j;have O:=λwl li=>s7 wl li Q;rw[m,g]at O;rw[E.aQ]at w;have iH:=R6.st;by_cases q:(fE c F (bV R)).2.e≠0\/(fE c F (bV R)).1=0;rw[af q]at j;rw[<-j];generalize fE c F (bV R)=y at *;by_cases q1:y.2.e=0;have q2:y.1=0:=by omega
  simp[Z,Y,o,e4,k2,AV.ai,O,w,q1,q2,fV];exact⟨I3,by rw[m,g],by rw[V,J],Q⟩;simp[Z,Y,o,e4,k2,AV.ai,O,w,q1,fV];exact⟨I3,by rw[m,g],by rw[V,J],Q⟩;rw[U q]at j;have q1:(fE c F (bV R)).2.e=0:=Decidable.byContradiction λc=>q (.inl c);have q2:¬(fE c F (bV R)).1=0:=λc=>q (.inr c);obtain⟨s4,I4,t6,G,B,W⟩:=Fi H s.bd Q hwb (by rw[v1];exact hrb) ayb G2 (by omega) (λ_=>z1);rw[m,g,hBD]at t6;obtain⟨g4,_,v4⟩:=Cw H.gS s.bd 0 ((fE c F (bV R)).2,F) G2;have ayd:=kN H.oS s.bd ((fE c F (bV R)).2,F);have ac5:=ayd.st;have zz:=O8 H.zS s.bd ((fE c F (bV R)).2,F) (λ_=>z1);have P4:=W.P;rw[G,m,g]at P4;generalize hX:fN fS s.bd ((fE c F (bV R)).2,F)=X at *;obtain⟨r4,v⟩:=X;simp only at g4 v4 ac5 zz W;generalize fE c F (bV R)=y at *;by_cases d4:v.done=true;have ex4:cu C fE fS c s.bd k (r4,v)=(r4,v):=by cases k<;>(unfold cu;rw[af d4])
  rw[ex4]at j;rw[<-j];simp[Z,Y,o,e4,k2,b2,AV.ai,O,w,t6,q1,q2,P4,cI,jD,oX,cut,d4,fV];exact⟨I4,by omega,by rw[B,V,J],W⟩;have l:v.done=false:=by cases hh:v.done with|false=>rfl|true=>exact au hh d4
  have gZ:=ih (k,(r4,v),I4,s4) ⟨j,by rw[G,m,g],by rw[B,V,J],W,g4,by simp only;omega,by simp only;omega,by simp only;omega,l,zz l⟩ (by simp);simp only at gZ;simp[Z,Y,o,e4,k2,b2,AV.ai,O,w,t6,q1,q2,P4,cI,jD,oX,cut,l];exact gZ;rw[U z]at M;have Pq:oB C R=false:=by cases hh:oB C R with|false=>rfl|true=>exact au hh z
  rw[Pq]at Z;have ex:cu C fE fS c s.bd k (R,F)=(stop R,F):=by
   cases k with
   |zero=>unfold cu;grind|succ k=>unfold cu;rw[U qd,U z]
  rw[ex]at j;rw[<-j];simp[Z,fV];exact⟨I1,g,J,M⟩
 grind
end Ft
namespace Ft
open Ax Go aO V7 iQ iZ pX K9 S9
variable {T:Px}{C:Cx}{D:Dm}{n:Nat}{fE:E->Fm->Rs->Int×Rs}{fS:Sm->Rs×Fm->Rs×Fm}{ah:Nat}{L:List Fm}{r:Rs}{I:uF}{st st':aj}{f:Fm}
theorem wm1{k:Nat}(h:k<1000000):IntKind.i64.wrap (-1-(-1-(k:Int)))=(k:Int):=by rw[dY]<;>omega
theorem xE(K:Prg T C D){N:Nat}{gS:Sm->Rs×Fm->Rs×Fm}(hgS:∀s x,gS s x=if s.k=1 then x else if s.k=6 then cu C fE fS (jk s.es) s.bd N x else if oB C x.1=true/\N≠0 then gq fE fS s (bV x.1,x.2) else (stop x.1,x.2))
  (HN:∀n,N=n+1->Hy T C D n fE fS):PS T C D N gS:=by
 intro ah L r I st f s h hw hr eO hG hn hd h0;rw[hgS];have e1:bf (bG s.es)=true:=ck;have e2:(bG s.es).ai=bG s.es:=bY;have b1:bf (bZ s.bd)=true:=cQ;have b2:(bZ s.bd).ai=bZ s.bd:=bQ;have l1:bf (bZ s.el)=true:=cQ;have l2:(bZ s.el).ai=bZ s.el:=bQ;have hse:=Sm.wz s;rw[E5]at hw;rw[xC]at hr;obtain⟨⟨⟨k1,k9⟩,kg,kl,kp,kr⟩,we,wb,wl⟩:=hw;obtain⟨re,rv,rg,rb,rl⟩:=hr;by_cases c1:s.k=1;rw[af c1];refine⟨st,I,?_,rfl,rfl,h⟩;rw[Sm.aQ];refine aG (sf:=FK) rfl rfl rfl ?_;simp_all [FK];rw[U c1];by_cases c6:s.k=6;rw[af c6];obtain⟨c,W⟩:∃c,s.es=[c]:=by
  have:=kl (by omega);match hh:s.es,this with
  |[c],_=>grind
 have hc:jk s.es=c:=by rw[W];rfl
 rw[hc];have UO:E.sz c<1000000000:=by have:=E.ri (l:=s.es) (e:=c) (by grind);omega
 exact OZ K HN s c c6 W h (by rw[W]at we;exact we.1) wb (by rw[W]at re;exact re.1) rb UO (by omega) hG hn hd h0;rw[U c6];obtain⟨s1,ls1,t1,R1⟩:=oL h (by have:=K.fu;omega) C K.fuel;by_cases ho:oB C r=true
 ·rw[af ho]at R1;rw[ho]at t1;obtain⟨n,rfl⟩:∃n,N=n+1:=⟨N-1,by grind [mW]⟩;have H:=HN n rfl;rw[af ⟨ho,by omega⟩];have G1:Gd C 1 (bV r):=hG.bV ho;have G0:Gd C 0 (bV r):=G1.zj (by omega);have Zb:C.fuel<=(bV r).aK+n:=by show C.fuel<=r.aK+1+n;omega
  have hte:(bV r).e=0:=(mW.1 ho).1;by_cases c4:s.k=4;obtain⟨a,b,W,vg⟩:=kp c4;rw[W]at we re;have ayf:(a.k=5/\a.aN.length=1)\/(a.k=6/\a.aN.length=2):=by
   have:=(Bz a).1 we.1;obtain⟨⟨_,_,q1,q2,_⟩,_⟩:=this
   grind
  have hz1:E.eD s.es=E.sz a+E.sz b:=by rw[W];simp[E.eD]
  have hz2:=E.rj a;obtain⟨t,I2,t2,m,Q,M⟩:=ah4 K H s a b W ayf R1 ((Bz a).1 we.1).2 we.2.1 ((xB _ a).1 re.1).2 re.2.1 (by omega) (by omega) G0 Zb hte hd h0;have ex:gq fE fS s (bV r,f)=match vals fE f (a.aN++[b]) (bV r) with|(none,r)=>(r,f)|(some l,r)=>oF (r,f) a.k a.ref l:=by
   unfold gq;rw[af c4]
   grind [jk]
  have ex2:(gq fE fS s (bV r,f)).2=f:=by
   grind [oF]
  rw[ex2];rw[ex];refine⟨t,I2,?_,m,Q,M⟩;rw[Sm.aQ]at t2 ⊢;refine aG (sf:=FK) rfl rfl rfl ?_;generalize bG s.es=ES,bZ s.bd=BD,bZ s.el=EL at *;simp only[c4]at t2;simp[FK,e1,e2,b1,b2,l1,l2,fZ.bM,AV.ai,c4,t1,t2];obtain⟨t,I2,vs,t2,m,Q,M,DD⟩:=xG H s.es R1 we re (by omega) G0 Zb hd h0 hte;have R6:=jN H.oE f s.es (bV r);have G2:=(zZ H.gE f s.es 1 (bV r) G1).1;have en:=λwl li=>s7 wl li M;rw[m]at en;have m1:bf (cq 1 (aP vs))=true:=dM;have m2:(cq 1 (aP vs)).ai=aM 1 (aP vs):=rfl;have V:cN 1 (cq 1 (aP vs))=true:=by simp_all
  have Z:aY (cq 1 (aP vs))=aP vs:=oe;have n1:bf (aM 1 (aP vs))=true:=bL;have n2:(aM 1 (aP vs)).ai=aM 1 (aP vs):=bU;have n3:cN 1 (aM 1 (aP vs))=true:=ji (by simp_all);have n4:aY (aM 1 (aP vs))=aP vs:=bn;cases hv:vals fE f s.es (bV r) with
  |mk o R=>
  rw[hv]at M R6 G2 en DD;simp only at M R6 G2 en DD;have hlen:∀l,o=some l->l.length=s.es.length:=λl hl=>Fj (by rw[hv,hl]);cases o with
  |none=>
   have Xv:R.e≠0:=(by grind);have ex:gq fE fS s (bV r,f)=(R,f):=by
    unfold gq
    grind
   rw[ex];refine⟨t,I2,?_,m,Q,M⟩;rw[Sm.aQ];refine aG (sf:=FK) rfl rfl rfl ?_;generalize bG s.es=ES,bZ s.bd=BD,bZ s.el=EL,cq 1 (aP vs)=MV at *;simp[FK,e1,e2,b1,l1,fZ.bM,AV.ai,c1,c4,c6,t1,t2,en,Xv]
  |some l=>
   obtain⟨rfl,Xv⟩:l=vs/\R.e=0:=by
    grind
   have ex:gq fE fS s (bV r,f)=jz fS s.k s.ref s.bd s.el l (R,f):=by
    unfold gq
    grind
   rw[ex];have hl:=hlen l rfl;have iH:=R6.st;have Y:=M.P;have hg2:=G2.g;rw[m]at Y;have Iw:ah<=I.p:=h.Gs;have hlg:ah<=I2.g:=M.low _ (by rw[M.lg];decide);have MU:=iU Y
   suffices h:∃v' st',(aZ S).call 0 ah 139 [.ptr I.p 0 0 0,.agg s.aI] st=some (v',st')/\v'=.eY []/\∃I',I'.p=I.p/\I'.fl=I.fl/\dL T ah ((jz fS s.k s.ref s.bd s.el l (R,f)).2::L) (jz fS s.k s.ref s.bd s.el l (R,f)).1 I' st' by
    grind
   rw[Sm.aQ];refine jL (sf:=FK) rfl rfl rfl ?_;generalize bG s.es=ES at *;generalize hBD:bZ s.bd=BD at *;generalize hEL:bZ s.el=EL at *;generalize cq 1 (aP l)=MV,aM 1 (aP l)=LV at *;simp[FK,e1,e2,b1,l1,fZ.bM,AV.ai,c1,c4,c6,t1,t2,en,Xv];by_cases w:s.k=2\/s.k=3;obtain⟨a,rfl⟩:∃a,l=[a]:=⟨_,Aw (by grind)⟩;have B:jz fS s.k s.ref s.bd s.el [a] (R,f)=cy (R,f) s.ref a:=(by unfold jz;rw[af w];rfl);rw[B];have Sh:=K.gl;have rr:s.ref<f.vs.length∧-1-s.ref<R.g.length:=by
    rcases w with c|c
    grind
    exact⟨rg c,by rw[hg2,K.ng];exact kg c⟩
   by_cases q:s.ref<0;obtain⟨k,hk⟩:∃k:Nat,s.ref = -1-(k:Int):=⟨(-1-s.ref).toNat,by omega⟩;have qI:k<R.g.length:=(by omega);have hkb:k<1000000:=(by grind);have Uc:IntKind.i64.wrap (-1-(-1-(k:Int)))=(k:Int):=wm1 hkb;have J : -1-(k:Int)<0:=(by omega);have hG:=M.G;have es:cy (R,f) s.ref a=({ R with g:=R.g.set k a },f):=by
    unfold cy
    grind
   have F:=M.aha (R.g.set k a);rw[<-R8]at F;have ah3:k<(aP R.g).length:=(by simp_all);have ayg:(aP R.g).length=R.g.length:=(by simp[aP]);rw[es];rcases w with c|c
   grind
   simp[c,hk,J,Uc,Y,cI,jD,hG,cut,qI,V,Z,aP,aD,aC,bu,AV.aB,AV.aH,ay,hlg,lI];exact⟨I2,m,Q,F⟩;obtain⟨k,hk⟩:∃k:Nat,s.ref=(k:Int):=⟨s.ref.toNat,by omega⟩;have qI:k<f.vs.length:=(by omega);have iO:f.vs≠[]:=(by grind);obtain⟨a',b',ha,g3,_⟩:=M.Zu;obtain⟨g4,g5,_⟩:=g3 iO;have Zr:tL I2=a':=(by grind [tL]);have Yj:vV (oX (f::L)) (tL I2)=.mu a'.1 a'.2:=(by rw[Zr];exact U iO);have J:¬(k:Int)<0:=(by omega);have tV:ah<=a'.1:=M.low _ (by grind);have es:cy (R,f) s.ref a=(R,{ f with vs:=f.vs.set k a }):=by
    unfold cy
    grind
   have F:=M.WH (vs':=f.vs.set k a) (by simp) iO;rw[Zr,<-R8]at F;have ah3:k<(aP f.vs).length:=(by simp_all);have ayg:(aP f.vs).length=f.vs.length:=(by simp[aP]);rw[es];rcases w with c|c;simp[c,hk,J,Y,cI,jD,Yj,g4,cut,qI,V,Z,aP,aD,aC,bu,AV.aB,AV.aH,ay,tV,lI];exact⟨I2,m,Q,F⟩;simp[c,hk,J,Y,cI,jD,Yj,g4,cut,qI,V,Z,aP,aD,aC,bu,AV.aB,AV.aH,ay,tV,lI];exact⟨I2,m,Q,F⟩;have c2:¬s.k=2:=λc=>w (.inl c);have c3:¬s.k=3:=λc=>w (.inr c);by_cases c5:s.k=5;obtain⟨a,rfl⟩:∃a,l=[a]:=⟨_,Aw (by grind)⟩;by_cases a0:a=0;have B:jz fS s.k s.ref s.bd s.el [a] (R,f)=fN fS s.el (R,f):=(by simp[jz,c5,qD,a0]);rw[B];obtain⟨X,I3,t3,MJ,WW,F⟩:=Fi H s.el M wl rl (by omega) (G2.zj (by omega)) (by omega) (λ_=>h0);rw[m,hEL]at t3;simp[c5,lI,V,Z,aP,a0,l2,t3]
   grind
   have B:jz fS s.k s.ref s.bd s.el [a] (R,f)=fN fS s.bd (R,f):=(by simp[jz,c5,qD,a0]);rw[B];obtain⟨X,I3,t3,MJ,WW,F⟩:=Fi H s.bd M wb rb (by omega) (G2.zj (by omega)) (by omega) (λ_=>h0);rw[m,hBD]at t3;simp[c5,lI,V,Z,aP,a0,b2,t3]
   grind
   by_cases c7:s.k=7;have Fs:∀y,(t.set I.p y)[I.p]?=some y:=λy=>ad9 MU;have Av:∀y z,(t.set I.p y).set I.p z=t.set I.p z:=λy z=>List.set_set ..
   have htf:oX (f::L)=f:=rfl;match l,hl with
   |[],hl=>
    have B:jz fS s.k s.ref s.bd s.el [] (R,f)=(R,{ f with done:=true }):=(by simp[jz,c7]);rw[B];have F:dL T ah ({ f with done:=true }::L) R I2 (t.set I.p (.rows 0 17 [cI T ({ f with done:=true }::L) R I2])):=by
     rw[<-m];exact M.aI R { f with done:=true } I2.iv rfl rfl rfl rfl M.iv
    simp[c7,ay,lI,Y,cI,jD,htf,bu,AV.aB,AV.aH,n1,n4,m2,aP,Iw,Fs,Av,h0]
    grind [cI,jD,oX,vV]
   |a::l',hl=>
    have B:jz fS s.k s.ref s.bd s.el (a::l') (R,f)=(R,{ f with done:=true,res:=a }):=(by simp[jz,c7,qD]);rw[B];have F:dL T ah ({ f with done:=true,res:=a }::L) R I2 (t.set I.p (.rows 0 17 [cI T ({ f with done:=true,res:=a }::L) R I2])):=by
     rw[<-m];exact M.aI R { f with done:=true,res:=a } I2.iv rfl rfl rfl rfl M.iv
    simp[c7,ay,lI,Y,cI,jD,htf,cut,bu,AV.aB,AV.aH,n1,n4,m2,V,Z,aP,Iw,Fs,Av]
    grind [cI,jD,oX,vV]
   by_cases c8:s.k=8
   ·obtain⟨a,rfl⟩:∃a,l=[a]:=⟨_,Aw (by grind)⟩;have B:jz fS s.k s.ref s.bd s.el [a] (R,f)=({ R with out:=R.out++[a] },f):=(by simp[jz,c8,qD]);rw[B];have iO:R.out++[a]≠[]:=(by simp);have Xd:R.out.length<1000000:=(by have:=G2.o;have:=G2.st;have:=K.fuel;have:=K.fu;omega);have hov:∀i v,oV (R.out++[a]) i v=.mu i v:=λi v=>U iO;by_cases hO0:R.out=[]
    ·obtain⟨X,hs3⟩:∃s,s=t++[.rows 0 1 (aP [a])]:=⟨_,rfl⟩;have P3:X[I.p]?=some (.rows 0 17 [cI T (f::L) R I2]):=(by grind);have wL:dL T ah (f::L) { R with out:=R.out++[a] } { I2 with o:=t.length,ov:=0,jO:=λj=>if j=t.length then .o else I2.jO j } (X.set I.p (.rows 0 17 [cI T (f::L) { R with out:=R.out++[a] } { I2 with o:=t.length,ov:=0 }])):=by
      refine M.Fa iO (.inr (Nat.le_refl _)) (λj hj hp _=>?_) ?_ ?_
      grind
      all_goals grind
     have Pq:oV R.out I2.o I2.ov=.aF:=(by unfold oV;grind);simp only[cI,jD,Pq]at Y P3;simp only[cI,jD,hov]at wL;have q3:t++[.rows 0 1 [[.int .i64 a]]]=X:=hs3.symm;have hrm:(8:Nat)<=cZ:=(by unfold cZ;omega);simp[c8,ay,Y,cut,V,Z,aP,aD,aC,dG,fA,cr,hrm,q3,P3,bu,AV.aB,AV.aH,lI,Iw];exact⟨_,by exact m,by exact Q,wL⟩
    ·have hO:=M.O hO0;have hoo:=M.lo hO0;have hpo:I.p≠I2.o:=λe=>by
      grind
     have FC:=M.low _ (show I2.jO I2.o≠.no by grind);obtain⟨X,hs3⟩:∃s,s=t.set I2.o (.rows (I2.ov+1) 1 (aP (R.out++[a]))):=⟨_,rfl⟩;have P3:X[I.p]?=some (.rows 0 17 [cI T (f::L) R I2]):=(by grind);have wL:dL T ah (f::L) { R with out:=R.out++[a] } { I2 with o:=I2.o,ov:=I2.ov+1,jO:=λj=>if j=I2.o then .o else I2.jO j } (X.set I.p (.rows 0 17 [cI T (f::L) { R with out:=R.out++[a] } { I2 with o:=I2.o,ov:=I2.ov+1 }])):=by
      refine M.Fa iO (.inl ⟨hO0,rfl⟩) (λj hj hp hq=>?_) ?_ ?_
      grind
      all_goals grind
     have Pq:oV R.out I2.o I2.ov=.mu I2.o I2.ov:=(by unfold oV;grind);simp only[cI,jD,Pq]at Y P3;simp only[cI,jD,hov]at wL;have q2:aP R.out++[[.int .i64 a]]=aP (R.out++[a]):=(by simp[aP]);have hrm:((aP R.out).length+1)*8<=cZ:=(by grind [aP,cZ]);have ayi:(R.out.length+1)*8<=cZ:=(by unfold cZ;omega);have m4':aY MV=[[.int .i64 a]]:=(by rw[Z];rfl);simp[c8,ay,Y,hO,cut,V,m4',aD,aC,dG,fA,cr,ayi,q2,hs3.symm,P3,bu,AV.aB,AV.aH,lI,Iw,FC];exact⟨_,by exact m,by exact Q,wL⟩
   have B:jz fS s.k s.ref s.bd s.el l (R,f)=(R,f):=(by grind [jz]);rw[B];simp[c2,c3,c5,c7,c8,lI]
   grind
 rw[U ho]at R1;have hof:oB C r=false:=by grind
 rw[U (by grind)];rw[hof]at t1;refine⟨s1,I,?_,rfl,rfl,R1⟩;rw[Sm.aQ];refine aG (sf:=FK) rfl rfl rfl ?_;generalize bG s.es=ES,bZ s.bd=BD,bZ s.el=EL at *;simp[FK,e1,b1,l1,fZ.bM,AV.ai,c1,c6,t1]
end Ft
namespace Ft
open Ax Go aO V7 iQ iZ pX K9 S9
variable {T:Px}{C:Cx}{D:Dm}
theorem ajj(K:Prg T C D):∀n,Hy T C D n (ev C n).1 (ev C n).2
 |0=>by
  refine⟨(lW 0).1,(lW 0).2,(MD 0).1,(MD 0).2,ah2 0,?_,?_⟩;exact mS (fE:=λ_ _ r=>(0,stop r)) (fS:=λ_ x=>x) K (N:=0) (λ_ _ _ _=>rfl) (λ_ _ _ _ h=>au rfl h) (λn h=>by cases h);refine xE (fE:=λ_ _ r=>(0,stop r)) (fS:=λ_ x=>x) K (N:=0) (λs x=>?_) (λn h=>by cases h);show (if s.k=1 then x else if s.k=6 then cu C (λ_ _ r=>(0,stop r)) (λ_ x=>x) (jk s.es) s.bd 0 x else (stop x.1,x.2):Rs×Fm)=_;simp
 |n+1=>by
  have g:=ajj K n;refine⟨(lW (n+1)).1,(lW (n+1)).2,(MD (n+1)).1,(MD (n+1)).2,ah2 (n+1),?_,?_⟩;refine mS (fE:=(ev C n).1) (fS:=(ev C n).2) K (N:=n+1) (λe f r h=>?_) (λe f r h _=>?_) (λm h=>by cases h;exact g);show (if oB C r=true then jl C (ev C n).1 (ev C n).2 e f (bV r) else (0,stop r):Int×Rs)=_;rw[U (by rw[h];simp)];show (if oB C r=true then jl C (ev C n).1 (ev C n).2 e f (bV r) else (0,stop r):Int×Rs)=_;rw[af h];refine xE (fE:=(ev C n).1) (fS:=(ev C n).2) K (N:=n+1) (λs x=>?_) (λm h=>by cases h;exact g);show (if s.k=1 then x else if s.k=6 then cu C (ev C n).1 (ev C n).2 (jk s.es) s.bd (n+1) x
   else if oB C x.1=true then gq (ev C n).1 (ev C n).2 s (bV x.1,x.2) else (stop x.1,x.2):Rs×Fm)=_
  simp
end Ft
namespace Ft
open Ax Go aO V7 iQ iZ pX K9 S9
theorem pY{wl:Nat}:∀(l:List Int)(st:aj),jV wl (aP l) st=some (aP l,st)
 |[],st=>rfl|n::l,st=>by
  have g:=pY (wl:=wl) l st;simp only[aP,List.map_cons]at *;simp[jV,lB,mM,AV.aH,AV.ai,g]
def BQ(l:List Int):AV:=if l=[] then .aF else .dV 1 (aP l)
theorem O1{T:Px}{ah:Nat}{L:List Fm}{r:Rs}{I:uF}{st:aj}(h:dL T ah L r I st):∃st',qM 0 (oV r.out I.o I.ov) st=some (BQ r.out,st')/\st'[I.p]?=st[I.p]?/\st'.length=st.length:=by
 unfold BQ oV;by_cases q:r.out=[];rw[af q,af q];exact⟨st,rfl,rfl,rfl⟩;rw[U q,U q];have l:=h.O q;have M:(aP r.out).isEmpty=false:=by
  cases j:r.out with
  |nil=>grind|cons a b=>rfl
 have H:I.o≠I.p:=λe=>by
  have g:=h.lo q;rw[e,h.lp]at g;cases g
 refine⟨st.set I.o (.rows (I.ov+1) 1 []),?_,List.getElem?_set_ne H,by simp⟩;show jw 0 (.mu I.o I.ov) st=_
 grind [jw,pY]
theorem ML(l:List Int):(BQ l).aH=true:=by
 unfold BQ;split<;>rfl
def BK(r:Rs):AV:=.agg [.int .i64 r.e,.int .i64 r.code,BQ r.out,.int .i64 r.aK]
theorem Y6(r:Rs):(BK r).aH=true:=by simp only[BK,AV.aH,AV.aB,ML,Bool.and_self]
def Ay(H:Hd)(bs:List Bd)(fuel:Nat):Cx:=⟨fuel,H.bJ.map (·.2.length),bs,H.az.length⟩
def Fk:Rs:=⟨[],[],[],0,0,0,[],0⟩
def Az(p:Pg)(fm:List Int)(fuel:Nat):Rs:=match pM p with
 |some _=>Fk|none=>match qJ (aX p) (aX p).aW p.funcs with
  |.error _=>Fk|.ok bs=>run (Ay (aX p) bs fuel) (eu p) fm
def amQ(j:Nat):Lb:=if j=0 then .p else if j=1 then .g else .no
open N7 U7 in
theorem JU(p:Pg){fm:AV}(hi:mK fm=true)(ee:cJ fm=true)(fuel:Int)(hfu:fuel<1000000)
  (hg:(lG p).ok)(rE:GD.sm (lG p))(eO:∀f∈p.funcs,f.params.length+Sm.eD f.body<1000000000)
  (uz:∀bs,qJ (aX p) (aX p).aW p.funcs=.ok bs->∀b∈bs,Sm.eD b.code<1000000000/\b.vars.length<1000000000)
  (hK:∀bs,pM p=none->qJ (aX p) (aX p).aW p.funcs=.ok bs->Prg ⟨aX p,eu p,bs,fuel.toNat⟩ (Ay (aX p) bs fuel.toNat) (yQ (aX p))/\0<=eu p/\(eu p).toNat<bs.length)
  (wl li:Nat) (st:aj) :
  (aZ S).call wl li 13 [.agg p.aI,fm,.int .i64 fuel] st=some (BK (Az p (dI fm) fuel.toNat),st):=by
 have j:=λwl ah st=>R9.KA wl ah p st hg rE eO;have m:=λwl ah st=>S9.Rx wl ah p st hg rE eO uz;have hs:=eA hi;have hv:=bT ee hs;have hpi:=eC hs;refine bE (sf:=s13) rfl rfl (by simp[Pg.aI,AV.aB,AV.aH,hpi]) rfl (Y6 _) ?_;unfold um at j;unfold Az;have R:bf (aM 3 (p.aU.map Rc.aI))=true:=bL;have M:(aM 3 (p.aU.map Rc.aI)).ai=aM 3 (p.aU.map Rc.aI):=bU;have G:bf (aM 7 (p.funcs.map Fc.aI))=true:=bL;have J:(aM 7 (p.funcs.map Fc.aI)).ai=aM 7 (p.funcs.map Fc.aI):=bU;have V:bf (aM 4 (p.az.map PD.cells))=true:=bL;have W:(aM 4 (p.az.map PD.cells)).ai=aM 4 (p.az.map PD.cells):=bU;simp only[Pg.aI]at j m ⊢;generalize aM 3 (p.aU.map Rc.aI)=PR,aM 7 (p.funcs.map Fc.aI)=PF,aM 4 (p.az.map PD.cells)=PG at *;cases Y:ke (lG p) with
 |some a=>
  have o:pM p=some a:=by unfold pM;rw[Y]
  rw[Y]at j;rw[o];simp only[BK,Fk,BQ]at j ⊢;simp[s13,j,R,M,G,J,V,W,ay,AV.ai,bH,cut]
 |none=>
  rw[Y]at j;simp only at j ⊢;cases hR:qJ (aX p) (aX p).aW p.funcs with
  |error a=>
   have o:pM p=some a:=(by grind [pM]);rw[hR]at j;rw[o];simp only[BK,Fk,BQ,EF]at j ⊢;simp[s13,j,R,M,G,J,V,W,ay,AV.ai,bH,cut]
  |ok bs=>
   rw[hR]at j;simp only[EF,qa,List.cons_append,List.nil_append]at j ⊢;cases hO:pM p with
   |some a=>
    rw[hO]at m;simp only[BK,Fk,BQ,F4]at m ⊢;simp[s13,j,m,R,M,G,J,V,W,ay,AV.ai,bH,cut,cE,cX]
   |none=>
    rw[hO]at m;simp only[F4,cE,cX]at m;obtain⟨K,hm0,hmb⟩:=hK bs hO hR;have hrm:((aX p).az.length:Int)*8<=cZ:=(by have:=K.gl;grind [cZ,yQ]);have u1:bf (cG (aX p).az)=true:=iD;have u2:(cG (aX p).az).ai=cG (aX p).az:=lu;have u3:aY (cG (aX p).az)=(aX p).az.map Vd.aI:=bn;have a1:bf (aM 2 ((aX p).bJ.map fQ))=true:=bL;have a2:(aM 2 ((aX p).bJ.map fQ)).ai=aM 2 ((aX p).bJ.map fQ):=bU;have b1:bf (aM 6 ((aX p).aW.map Sg.aI))=true:=bL;have b2:(aM 6 ((aX p).aW.map Sg.aI)).ai=aM 6 ((aX p).aW.map Sg.aI):=bU;have z1:bf (aM 3 (bs.map Bd.aI))=true:=bL;have z2:(aM 3 (bs.map Bd.aI)).ai=aM 3 (bs.map Bd.aI):=bU;have hrc:∀n rows,(AV.raw n rows).cells=[.raw n rows]:=λ_ _=>rfl;obtain⟨n,hn⟩:∃n:Nat,fuel.toNat=n:=⟨_,rfl⟩;rw[hn]at K;rw[hn];have hmx:(if fuel<0 then 0 else fuel)=(n:Int):=(by grind);have hri:∀n rows,(AV.raw n rows).cM=true:=λ_ _=>rfl;have fG:acp (aX p).az.length [AV.int .i64 0]=aP (acp (aX p).az.length 0):=(by simp[aP]);generalize hHS:aM 2 ((aX p).bJ.map fQ)=HS at *;generalize hHG:aM 6 ((aX p).aW.map Sg.aI)=HG at *;generalize Z:cG (aX p).az=GL at *;generalize X:aM 3 (bs.map Bd.aI)=BV at *;simp[s13,j,m,R,M,G,J,V,W,ay,AV.ai,bH,cut,aD,aC,hs,u1,u2,u3,a1,a2,b1,b2,z1,z2,hrm,hrc,hri,hmx,fG,AV.aB,AV.aH,fZ.bM];rw[DE];refine⟨0,0,0,0,_,.mu 1 0,_,_,rfl,rfl,rfl,rfl,?_⟩;subst hHS hHG Z X;have R0:dL ⟨aX p,eu p,bs,n⟩ 0 [f0] (r0 (Ay (aX p) bs n) (dI fm)) ⟨0,0,0,1,0,0,[],[(0,0)],amQ,fm⟩ [.rows 0 17 [jD ⟨aX p,eu p,bs,n⟩ fm 0 0 .aF 0 .aF 1 0 .aF false 0],.rows 0 1 (aP (acp (aX p).az.length 0))]:=by
     refine⟨rfl,⟨hi,ee,rfl⟩,rfl,λe=>au rfl e,λk hk=>by simp at hk,rfl,⟨λe=>au rfl e,trivial⟩,λe=>au rfl e,rfl,rfl,λe=>au rfl e,λe=>au rfl e,by simp,λe=>au rfl e,by simp,by simp[kz,f0],by simp[kz,f0],λ_ _=>Nat.zero_le _⟩
    have H:=ajj K (Ay (aX p) bs n).fuel;have G0:Gd (Ay (aX p) bs n) 0 (r0 (Ay (aX p) bs n) (dI fm)):=⟨by simp[r0],by simp[r0],by simp[r0,Ay],by simp[r0],by simp[r0]⟩;obtain⟨s1,h,t,B,il,x⟩:=xm K H (eu p) [] (AL:=.aF) rfl rfl R0 hm0 hmb (by simp) G0 (by simp[r0]) rfl rfl;simp only at t B;unfold run;generalize dW (Ay (aX p) bs n) (ev (Ay (aX p) bs n) (Ay (aX p) bs n).fuel).2 (eu p) [] (r0 (Ay (aX p) bs n) (dI fm))=y at *;obtain⟨y1,R⟩:=y;simp only at x t ⊢;have Q:=λwl li=>s7 wl li x;rw[B]at Q;have O:=x.P;rw[B]at O;simp only[jD]at t;simp only[cI,jD]at O
    push_cast at t
    obtain⟨s2,w,R2⟩:∃s2,s2=(if R.e=0 then s1.set 0 (.rows 0 17 [cI ⟨aX p,eu p,bs,n⟩ [f0] { R with e:=1 } h]) else s1)/\dL ⟨aX p,eu p,bs,n⟩ 0 [f0] (qo R) h s2:=by
     unfold qo;by_cases l:R.e=0;rw[af l,af l];refine⟨_,rfl,?_⟩;have hq:∀q,q=h.p->dL ⟨aX p,eu p,bs,n⟩ 0 [f0] { R with e:=1 } h (s1.set q (.rows 0 17 [cI ⟨aX p,eu p,bs,n⟩ [f0] { R with e:=1 } h])):=λq hq=>by
      rw[hq];exact x.aI { R with e:=1 } f0 h.iv rfl rfl rfl rfl x.iv
     grind
     grind
    have N:=R2.P;rw[B]at N;obtain⟨s4,o1,o2,o3⟩:=O1 R2;rw[B]at o2;have l1:0<s4.length:=(by grind);have P4:=o2.trans N;have ov:=ML (qo R).out;have ow:(BQ (qo R).out).ai=BQ (qo R).out:=(by unfold BQ;split<;>rfl);have oc:(BQ (qo R).out).cM=true:=(by unfold BQ;split<;>rfl);obtain⟨s5,z⟩:∃s,s=s4.set 0 (.rows 0 17 [jD ⟨aX p,eu p,bs,n⟩ h.iv (qo R).e (qo R).code (BQ (qo R).out) (qo R).aK (lV (qo R).s h.q h.v) h.g (qo R).nf (vV (oX [f0]) (tL h)) (oX [f0]).done (oX [f0]).res]):=⟨_,rfl⟩;have F:=ad9 (a:=dJ.rows 0 17 [jD ⟨aX p,eu p,bs,n⟩ h.iv (qo R).e (qo R).code (BQ (qo R).out) (qo R).aK (lV (qo R).s h.q h.v) h.g (qo R).nf (vV (oX [f0]) (tL h)) (oX [f0]).done (oX [f0]).res]) l1;rw[<-z]at F;simp only[cI,jD]at w N P4 F z;by_cases l:R.e=0;rw[af l]at w;simp[ay,t,Q,l,O,cut,bu,AV.aB,AV.aH,<-w];rw[DE];refine⟨0,0,0,0,_,_,s4,s5,rfl,?_,o1,?_,?_⟩;simp[gm,N,cut];simp_all;simp[cut,F,ow,oc,AV.cC,bH,ay,BK];rw[U l]at w;subst w;simp[ay,t,Q,l];rw[DE];refine⟨0,0,0,0,_,_,s4,s5,rfl,?_,o1,?_,?_⟩;simp_all;simp_all;simp[cut,F,ow,oc,AV.cC,bH,ay,BK]
end Ft
