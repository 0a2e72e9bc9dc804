/- Part of a proof. -/
import Derived.Test.YtpnadocbfbbboaaGreatE

open List renaming replicate->aak,map_append->ac4,getElem?_set_ne->aap,getElem?_set_self->aay,mem_append->abw,mem_singleton->aem,getElem?_append_left->aal,getElem?_eq_none->adi,getElem?_eq_getElem->aag
open Bool renaming and_self->aet
set_option maxRecDepth 100000
set_option maxHeartbeats 8000000
namespace CL
open Ax Go bY V7 kN lZ tj K9 S9
variable {T:Px}{C:Cx}{D:Dm}{n:Nat}{fE:E->Fm->Rs->Int×Rs}{fS:Sm->Rs×Fm->Rs×Fm}{aa:Nat}{L:List Fm}{r:Rs}{I:rX}{st st':ay}{f:Fm}
def ev0:List AV:=[.int .i64 0,.int .i64 0,.str [],.str [],.int .i64 0,.af,.int .i64 0,.int .i64 0,.int .i64 0,.int .i64 0,.int .i64 0]
theorem YI(li:Nat)(n:Nat)(h0:0<n)(h1:n<1000000)(st:ay):(aZ S).call 0 li 155 [.af,.int .i64 n] st=some (.mu st.length 1,st++[.rows 1 11 []]):=by
 have h2:n*120<=cN:=by unfold cN;omega
 have Gi:¬(n:Int)<0:=by omega
 have h0':0<(n:Int):=by omega
 have hw:IntKind.i64.wrap (n:Int)=n:=by rw[eR]<;>omega
 have hw0:IntKind.i64.wrap (0:Int)=0:=by rw[eR]<;>omega
 have sl:ku false 11 .af 0 0 none=some .af:=rfl;have az:bn 0 li (.pQ 11 120 ev0) [.val .af,.val (.int .i64 n)] st []=some (.val (.mu st.length 0),st++[.rows 0 11 (aak n ev0)],[]):=by
  have fy:n≠0:=by omega
  have h3:(n:Int)*120<=cN:=by omega
  simp[bn,r9,cn,ev0,h2,h3,fy,AV.ax,AV.aB]
 unfold ev0 at az;refine aA (sf:=abJ) rfl rfl rfl ?_;simp[abJ,h0,Gi,hw,hw0,sl,az]
theorem YJ(a b:List E)(ha:a≠[]):aT (a++b)=.eE 11 (E.rows a++E.rows b):=by
 have e:∀l:List E,E.rows l=l.map E.aF:=λl=>by
  induction l with
  |nil=>rfl|cons x l ih=>simp[E.rows,ih]
 cases a with
 |nil=>exact aU rfl ha|cons x l=>
  have:E.rows (x::l++b)=E.rows (x::l)++E.rows b:=by rw[e,e,e,ac4]
  unfold aT;rw[this];simp[aJ,E.rows]
  rfl
theorem Lt{wl:Nat}(y:E){st:ay}:jL wl y.aF st=some (y.aF,st):=by
 have h4:kS wl (aT y.aG) st=some (aT y.aG,st):=by
  unfold aT aJ bK;cases hE:E.rows y.aG with
  |nil=>rfl|cons a b=>rfl
 rw[E.aE];generalize aT y.aG=v at *;have hi:∀n,kS wl (.int .i64 n) st=some (.int .i64 n,st):=λn=>rfl;have hs:∀n,kS wl (.str n) st=some (.str n,st):=λn=>rfl;simp[jL,h4,hi,hs]
theorem s8{wl:Nat}(st:ay):∀l:List E,jk wl (l.map E.aF) st=some (l.map E.aF,st)
 |[]=>rfl|e::l=>by
  show (match jL wl e.aF st with|some (r',st')=>(match jk wl (l.map E.aF) st' with|some (l',JG)=>some (r'::l',JG)|none=>none)|none=>none)=_;rw[Lt];simp only;rw[s8 st l]
  rfl
theorem QS(a b:List E)(ha:a≠[])(hn:a.length+b.length<1000000)(wl li:Nat)(st:ay) :
  (aZ S).call wl li 124 [.eE 1 [[aT a],[aT b]]] st=some (aT (a++b),st):=by
 have Di:0<a.length:=List.length_pos_iff.2 ha;have a1:aN (aT a)=true:=bz;have a2:(aT a).ai=aT a:=bu;have a3:bt (aT a)=E.rows a:=aW;have a4:cJ 11 (aT a)=true:=gn;have b1:aN (aT b)=true:=bz;have b2:(aT b).ai=aT b:=bu;have b3:bt (aT b)=E.rows b:=aW;have b4:cJ 11 (aT b)=true:=gn;have la:(E.rows a).length=a.length:=by simp
 have lb:(E.rows b).length=b.length:=by simp
 have gr:=λli=>YI li (a.length+b.length) (by omega) hn []
 push_cast at gr
 rw[YJ a b ha];have w1:IntKind.i64.wrap (a.length:Int)=a.length:=by rw[eR]<;>omega
 have w2:IntKind.i64.wrap ((a.length:Int)+b.length)=(a.length:Int)+b.length:=by rw[eR]<;>omega
 have n1:¬(a.length:Int)<0:=by omega
 have n2:¬(a.length:Int)+b.length<0:=by omega
 refine bT (sf:=abD) rfl rfl (by simp[*]) rfl (by simp[*]) ?_;generalize aT a=A,aT b=B at *;simp[abD];have u1:IntKind.i64.wrap (1:Int)=1:=by rw[eR]<;>omega
 have u2:IntKind.i64.wrap (2:Int)=2:=by rw[eR]<;>omega
 rw[zA];simp[OB,a1,a2,a3,w1,n1,u1];rw[Dr,zA];simp[b1,b2,b3,w2,n2,u2];rw[Dr,zA];simp[gr];rw[zA];have fa:cn 11 (E.rows a)=true:=by simp[cn,iC,E.aE]
 have fb:cn 11 (E.rows b)=true:=by simp[cn,iC,E.aE]
 have r1:a.length*120<=cN:=by unfold cN;omega
 have r2:(a.length+b.length)*120<=cN:=by unfold cN;omega
 simp[OC,a1,a2,a3,u1,fa,r1];rw[Dr,zA];simp[b1,b2,b3,u2,fb,r2];rw[Dr,zA];simp;rw[afE];have fy:E.rows a≠[]:=by
  intro q;have:=congrArg List.length q;simp at this;exact ha this
 have hfz:=s8 (wl:=0) [.rows 4 11 []] (a++b);rw[ac4,<-iC,<-iC]at hfz;refine⟨.mu 0 3,.eE 11 (E.rows a++E.rows b),[.rows 4 11 []],rfl,?_,?_⟩;simp[iy,fy,hfz];simp
theorem alZ{l:List Int}(h:l.length=3):l=[nF l,Gc l,at2 l]:=by
 match l,h with
 |[a,b,c],_=>rfl
theorem xh(K:LU T C D)(H:Hy T C D n fE fS)(s:Sm)(a b:E)(jj:s.es=[a,b])(rM:(a.k=5/\a.aG.length=1)\/(a.k=6/\a.aG.length=2))(h:eF T aa (f::L) r I st)(hw:WL D (a.aG++[b]))(hr:wm f.vs.length (a.aG++[b]))(dM:E.fY (a.aG++[b])<1000000000)
  (hG:Gd C 0 r)(hn:C.fuel<=r.cC+n)(he:r.e=0) :
  ∃st' I',(aZ S).call 0 aa 99 [.ptr I.p 0 0 0,.ptr (jS I) 0 0 0,.agg s.aF] st=some (.fK [],st')/\I'.p=I.p/\I'.fl=I.fl/\
   eF T aa (f::L) (match vals fE f (a.aG++[b]) r with|(none,r)=>(r,f)|(some l,r)=>tn (r,f) a.k a.ref l).1 I' st':=by
 have e1:aN (aT s.es)=true:=bz;have e2:(aT s.es).ai=aT s.es:=bu;have e3:bt (aT s.es)=E.rows s.es:=aW;have e4:cJ 11 (aT s.es)=true:=gn;have b1:aN (bp s.bd)=true:=bL;have b2:(bp s.bd).ai=bp s.bd:=bq;have l1:aN (bp s.el)=true:=bL;have l2:(bp s.el).ai=bp s.el:=bq;have er:E.rows s.es=[a.aF,b.aF]:=by rw[jj];simp[E.rows]
 have k1:aN (aT a.aG)=true:=bz;have k2:(aT a.aG).ai=aT a.aG:=bu;rw[er]at e3;have fy:a.aG≠[]:=by
  intro q;rw[q]at rM;simp at rM
 have GI:=λwl li st=>QS a.aG [b] fy (by simp;rcases rM with⟨_,q⟩|⟨_,q⟩<;>omega) wl li st;have hb1:aT [b]=.eE 11 [b.aF]:=rfl;rw[hb1]at GI;obtain⟨s2,I2,t2,ip,il,R2⟩:=Ji H (a.aG++[b]) h hw hr dM hG hn;have G2:=(p6 H.gE f (a.aG++[b]) 0 r hG).1;cases hv:vals fE f (a.aG++[b]) r with
 |mk o r2=>
 have hlen:∀l,o=some l->l.length=(a.aG++[b]).length:=λl hl=>oH (by rw[hv,hl]);have he0:∀l,o=some l->r2.e=0:=λl hl=>DH (fE:=fE) (f:=f) (a.aG++[b]) r he l r2 (by rw[hv,hl]);rw[hv]at t2 R2 G2;simp only at R2 G2;rw[E.aE a]at e3;rw[Sm.aE];have sb:(pz (aT s.es) 1 2).ai=.eE 11 [b.aF]:=by
  unfold aT aJ;rw[er]
  rfl
 have v1:aN (aT (a.aG++[b]))=true:=bz;have v2:(aT (a.aG++[b])).ai=aT (a.aG++[b]):=bu;cases o with
 |none=>
  refine⟨s2,I2,?_,ip,il,R2⟩;simp only[Bh]at t2;refine aA (sf:=s99) rfl rfl rfl ?_;generalize aT s.es=ES,bp s.bd=BD,bp s.el=EL,aT a.aG=KV at *;generalize aT (a.aG++[b])=CV at *;simp[s99,e1,e2,e3,e4,b1,l1,k1,k2,sb,GI,t2,gq.bV,AV.ai,aD,aC]
 |some l=>
  have hl:=hlen l rfl;have Q6:=he0 l rfl;have hP:=R2.P;have Pd:r2.s.length<1000000:=by have:=G2.s;have:=G2.st;have:=K.fuel;have:=K.fu;omega
  rw[ip]at hP;have m1:aN (bK 1 (aO l))=true:=ct;have m2:(bK 1 (aO l)).ai=aJ 1 (aO l):=rfl;have m3:aN (aJ 1 (aO l))=true:=bI;have m4:(aJ 1 (aO l)).ai=aJ 1 (aO l):=bU;have m5:bt (aJ 1 (aO l))=aO l:=aW;have m6:cJ 1 (aJ 1 (aO l))=true:=dQ (by simp[cn,aO]);simp only[Bh]at t2;rcases rM with⟨hk,fR⟩|⟨hk,fR⟩;have hx:=NA (l:=l) (by rw[hl];simp[fR]);generalize nF l=x,Gc l=y at *;subst hx;have ep:tn (r2,f) a.k a.ref [x,y]=(iU { r2 with s:=x0 r2.s x a.ref y } (m8 r2.s x a.ref),f):=by simp[tn,hk,nF,Gc]
  simp only[ep];obtain⟨s3,l3,t3,R3⟩:=Z4 R2 Pd x a.ref y;obtain⟨s4,l4,t4,R4⟩:=oG R3 (m8 r2.s x a.ref);rw[ip]at t4;refine⟨s4,I2,?_,ip,il,R4⟩;refine aA (sf:=s99) rfl rfl rfl ?_;generalize aT s.es=ES,bp s.bd=BD,bp s.el=EL,aT a.aG=KV at *;generalize aT (a.aG++[b])=CV,bK 1 (aO [x,y])=MV,aJ 1 (aO [x,y])=LV at *;simp[s99,e1,e2,e3,e4,b1,l1,k1,k2,sb,GI,t2,gq.bV,AV.ai,aD,aC,hk,hP,dW,cut,m2,m4,m5,m6,aO,t3,t4,au];have hx:=alZ (l:=l) (by rw[hl];simp[fR]);generalize nF l=x,Gc l=y,at2 l=z at *;subst hx;have ep:tn (r2,f) a.k a.ref [x,y,z]=(iU { r2 with s:=x0 r2.s x y z } (m8 r2.s x y),f):=by simp[tn,hk,nF,Gc,at2]
  simp only[ep];obtain⟨s3,l3,t3,R3⟩:=Z4 R2 Pd x y z;obtain⟨s4,l4,t4,R4⟩:=oG R3 (m8 r2.s x y);rw[ip]at t4;refine⟨s4,I2,?_,ip,il,R4⟩;refine aA (sf:=s99) rfl rfl rfl ?_;generalize aT s.es=ES,bp s.bd=BD,bp s.el=EL,aT a.aG=KV at *;generalize aT (a.aG++[b])=CV,bK 1 (aO [x,y,z])=MV,aJ 1 (aO [x,y,z])=LV at *;simp[s99,e1,e2,e3,e4,b1,l1,k1,k2,sb,GI,t2,gq.bV,AV.ai,aD,aC,hk,hP,dW,cut,m2,m4,m5,m6,aO,t3,t4,au]
theorem Jk(K:LU T C D){N:Nat}(HN:∀n,N=n+1->Hy T C D n fE fS)(s:Sm)(c:E)(jj:s.es=[c])(h:eF T aa (f::L) r I st)(hw:WE D c)(hwb:WB D s.bd)(hr:AN f.vs.length c)(hrb:pK f.vs.length s.bd)(dM:E.sz c<1000000000)(ac8:Sm.fY s.bd<1000000000)
  (hG:Gd C 0 r)(hn:C.fuel<=r.cC+N) :
  ∃st' I',(aZ S).call 0 aa 97 [.ptr I.p 0 0 0,.ptr (jS I) 0 0 0,.agg s.aF] st=some (.fK [],st')/\I'.p=I.p/\I'.fl=I.fl/\
   eF T aa ((eK C fE fS c s.bd N (r,f)).2::L) (eK C fE fS c s.bd N (r,f)).1 I' st':=by
 have e1:aN (aT s.es)=true:=bz;have e2:(aT s.es).ai=aT s.es:=bu;have e3:bt (aT s.es)=E.rows s.es:=aW;have e4:cJ 11 (aT s.es)=true:=gn;have b1:aN (bp s.bd)=true:=bL;have b2:(bp s.bd).ai=bp s.bd:=bq;have l1:aN (bp s.el)=true:=bL;have l2:(bp s.el).ai=bp s.el:=bq;have er:E.rows s.es=[c.aF]:=by rw[jj];simp[E.rows]
 have k1:aN (aT c.aG)=true:=bz;have k2:(aT c.aG).ai=aT c.aG:=bu;rw[er]at e3;rw[E.aE]at e3;rw[Sm.aE];obtain⟨v',st',h1,rfl,I',h2⟩:∃v' st',(aZ S).call 0 aa 97 [.ptr I.p 0 0 0,.ptr (jS I) 0 0 0,.agg [.int .i64 s.k,.str s.nm,.str s.on,.int .i64 s.od,aT s.es,bp s.bd,bp s.el,.int .i64 s.a,.int .i64 s.ref]] st=some (v',st')/\v'=.fK []/\∃I',I'.p=I.p/\I'.fl=I.fl/\eF T aa ((eK C fE fS c s.bd N (r,f)).2::L) (eK C fE fS c s.bd N (r,f)).1 I' st':=by
  refine fP (sf:=s97) rfl rfl rfl ?_;generalize aT s.es=ES at *;generalize hBD:bp s.bd=BD at *;generalize bp s.el=EL at *;simp[s97,e1,b1,l1,gq.bV];refine bH T1.eq_1 (λx:Nat×(Rs×Fm)×rX×ay=>⟨[(0,.val (.ptr I.p 0 0 0)),(1,.val (.ptr (jS I) 0 0 0)),(5,.fp 0 0)],[[.int .i64 s.k,.str s.nm,.str s.on,.int .i64 s.od,ES,BD,EL,.int .i64 s.a,.int .i64 s.ref]],x.2.2.2⟩)
   (λx=>eK C fE fS c s.bd x.1 x.2.1=eK C fE fS c s.bd N (r,f)/\x.2.2.1.p=I.p/\x.2.2.1.fl=I.fl/\eF T aa (x.2.1.2::L) x.2.1.1 x.2.2.1 x.2.2.2/\Gd C 0 x.2.1.1/\x.2.1.2.vs.length=f.vs.length/\C.fuel<=x.2.1.1.cC+x.1/\C.fuel<=x.2.1.1.cC+N) (λx=>x.1) (N,(r,f),I,st) rfl ⟨rfl,rfl,rfl,h,hG,rfl,hn,hn⟩ ?_
  rintro⟨k,⟨r1,f1⟩,I1,s1⟩ ⟨hp,ip,il,h1,g1,v1,n1,n2⟩ ih;simp only at hp ip il h1 g1 v1 n1 n2 ih;have et:jS I1=jS I:=by unfold jS;rw[il]
  obtain⟨c1,c2,hc,t1,t2,t3⟩:=h1.Ri;have tp:jS I=c1.1:=by rw[<-et];unfold jS;rw[hc]
  by_cases qd:f1.done=true;have ex:eK C fE fS c s.bd k (r1,f1)=(r1,f1):=by cases k<;>(unfold eK;rw[ah qd])
  rw[ex]at hp;rw[<-hp];simp[tp,t1,s6,cut,qd,eZ];exact⟨I1,ip,il,h1⟩;have qd':f1.done=false:=by cases hh:f1.done with|false=>rfl|true=>exact aU hh qd
  obtain⟨s2,l2,t4,R2⟩:=mH h1 (by have:=K.fu;omega) C K.fuel;rw[ip]at t4;by_cases ho:nU C r1=true;rw[ah ho]at R2;rw[ho]at t4;obtain⟨ho1,ho2⟩:=p7.1 ho;obtain⟨n,rfl⟩:∃n,N=n+1:=⟨N-1,by omega⟩;obtain⟨k,rfl⟩:∃k',k=k'+1:=⟨k-1,by omega⟩;have H:=HN n rfl;have G1:Gd C 0 (cG r1):=(g1.cG ho).qG (by omega);have yQ:(cG r1).cC=r1.cC+1:=rfl;obtain⟨s3,I3,t5,tg,wU,R3⟩:=H.E aa L (cG r1) I1 s2 f1 c R2 hw (by rw[v1];exact hr) dM G1 (by omega);rw[et,ip,tp]at t5;have zR:=H.oE c f1 (cG r1);have G2:=(H.gE 0 c f1 (cG r1) G1).1;have ex:eK C fE fS c s.bd (k+1) (r1,f1)=if (fE c f1 (cG r1)).2.e≠0\/(fE c f1 (cG r1)).1=0 then ((fE c f1 (cG r1)).2,f1) else eK C fE fS c s.bd k (jI fS s.bd ((fE c f1 (cG r1)).2,f1)):=by
   (conv=>lhs;unfold eK)<;>rw[U (by rw[qd'];simp),ah ho]
  rw[ex]at hp;have en:=λwl li=>vg wl li R3;rw[tg,ip]at en;rw[E.aE]at t5;have ja:=zR.st;by_cases q:(fE c f1 (cG r1)).2.e≠0\/(fE c f1 (cG r1)).1=0;rw[ah q]at hp;rw[<-hp];generalize fE c f1 (cG r1)=y at *;by_cases q1:y.2.e=0;have q2:y.1=0:=by rcases q with q|q;exact aU q1 q;exact q
  simp[tp,t1,s6,cut,qd',t4,e3,e4,k2,AV.ai,en,t5,q1,q2,ck];exact⟨I3,by rw[tg,ip],by rw[wU,il],R3⟩;simp[tp,t1,s6,cut,qd',t4,e3,e4,k2,AV.ai,en,t5,q1,ck];exact⟨I3,by rw[tg,ip],by rw[wU,il],R3⟩;rw[U q]at hp;have q1:(fE c f1 (cG r1)).2.e=0:=Decidable.byContradiction λc=>q (.inl c);have q2:¬(fE c f1 (cG r1)).1=0:=λc=>q (.inr c);obtain⟨s4,I4,t6,ip4,il4,R4⟩:=iL H s.bd R3 hwb (by rw[v1];exact hrb) ac8 G2 (by omega);have et3:jS I3=jS I:=by unfold jS;rw[wU,il]
  rw[et3,tg,ip,tp,hBD]at t6;obtain⟨g4,_,v4⟩:=tX H.gS s.bd 0 ((fE c f1 (cG r1)).2,f1) G2;have ada:=yH H.oS s.bd ((fE c f1 (cG r1)).2,f1);have YK:=ada.st;have fD:=ih (k,jI fS s.bd ((fE c f1 (cG r1)).2,f1),I4,s4) ⟨hp,by rw[ip4,tg,ip],by rw[il4,wU,il],R4,g4,by rw[v4];exact v1,by simp only at YK ⊢;omega,by simp only at YK ⊢;omega⟩ (by simp);simp only at fD;generalize fE c f1 (cG r1)=y at *;rw[tp]at fD;simp[tp,t1,s6,cut,qd',t4,e3,e4,k2,b2,AV.ai,en,t5,t6,q1,q2];exact fD;rw[U ho]at R2;have JK:nU C r1=false:=by cases hh:nU C r1 with|false=>rfl|true=>exact aU hh ho
  rw[JK]at t4;have ex:eK C fE fS c s.bd k (r1,f1)=(stop r1,f1):=by
   cases k with
   |zero=>unfold eK;rw[U qd]|succ k=>unfold eK;rw[U qd,U ho]
  rw[ex]at hp;rw[<-hp];simp[tp,t1,s6,cut,qd',t4,eZ];exact⟨I1,ip,il,R2⟩
 exact⟨st',I',h1,h2⟩
end CL
namespace CL
open Ax Go bY V7 kN lZ tj K9 S9
variable {T:Px}{C:Cx}{D:Dm}{n:Nat}{fE:E->Fm->Rs->Int×Rs}{fS:Sm->Rs×Fm->Rs×Fm}{aa:Nat}{L:List Fm}{r:Rs}{I:rX}{st st':ay}{f:Fm}
theorem x4(X:List Int)(k:Nat)(v:Int):(aO X).set k [.int .i64 v]=aO (X.set k v):=by simp[aO,List.map_set]
theorem Pe(h:eF T aa (f::L) r I st){ref:Int}(h1:ref<f.vs.length)(h2 : -1-ref<r.g.length)(hb:r.g.length<1000000) :
  ∃j k X,(∀wl li,(aZ S).call wl li 101 [.ptr I.p 0 0 0,.ptr (jS I) 0 0 0,.int .i64 ref] st=some (.ptr j 0 k 0,st))/\st[j]?=some (.rows 0 1 (aO X))/\k<X.length/\
   ∀v,eF T aa ((bf (r,f) ref v).2::L) (bf (r,f) ref v).1 I (st.set j (.rows 0 1 (aO (X.set k v)))):=by
 obtain⟨a,b,ha,t1,t2,t3,t4,t5,t6,t7⟩:=h.Ri;have et:jS I=a.1:=by unfold jS;rw[ha]
 rw[et];by_cases q:ref<0;obtain⟨k,rfl⟩:∃k:Nat,ref = -1-(k:Int):=⟨(-1-ref).toNat,by omega⟩;have hk:k<r.g.length:=by omega
 refine⟨I.g,k,r.g,λwl li=>Z0 wl li h _ hk hb,h.G,hk,λv=>?_⟩;have e:(-1-(-1-(k:Int))).toNat=k:=by omega
 unfold bf;rw[ah q,e];exact h.ac3 _;obtain⟨k,rfl⟩:∃k:Nat,ref=(k:Int):=⟨ref.toNat,by omega⟩;have hk:k<f.vs.length:=by omega
 refine⟨a.2,k,f.vs,λwl li=>Z1 wl li h ha hk,t2,hk,λv=>?_⟩;unfold bf;rw[U q];refine h.Lq ha (λi h1 h2=>aap λe=>h2 e.symm) ?_ ?_;rw[aap λe=>t4 e.symm];exact t1;rw[aay (fA t2)];rfl
theorem mO(K:LU T C D){N:Nat}{gS:Sm->Rs×Fm->Rs×Fm}(hgS:∀s x,gS s x=if s.k=1 then x else if s.k=6 then eK C fE fS (A9 s.es) s.bd N x else if nU C x.1=true/\N≠0 then ju fE fS s (cG x.1,x.2) else (stop x.1,x.2))
  (HN:∀n,N=n+1->Hy T C D n fE fS):PS T C D N gS:=by
 intro aa L r I st f s h hw hr dM hG hn;rw[hgS];have e1:aN (aT s.es)=true:=bz;have e2:(aT s.es).ai=aT s.es:=bu;have b1:aN (bp s.bd)=true:=bL;have b2:(bp s.bd).ai=bp s.bd:=bq;have l1:aN (bp s.el)=true:=bL;have l2:(bp s.el).ai=bp s.el:=bq;have hse:=Sm.mX s;rw[Lm]at hw;rw[rC]at hr;obtain⟨⟨⟨k1,k9⟩,kg,kl,kp,kr⟩,we,wb,wl⟩:=hw;obtain⟨re,rv,rg,rb,rl⟩:=hr;by_cases c1:s.k=1;rw[ah c1];refine⟨st,I,?_,rfl,rfl,h⟩;rw[Sm.aE];refine aA (sf:=Qh) rfl rfl rfl ?_;generalize aT s.es=ES,bp s.bd=BD,bp s.el=EL at *;simp[Qh,e1,b1,l1,gq.bV,AV.ai,c1];rw[U c1];by_cases c6:s.k=6;rw[ah c6];obtain⟨c,jj⟩:∃c,s.es=[c]:=by
  have:=kl (by omega);match hh:s.es,this with
  |[c],_=>exact⟨c,rfl⟩
 have hc:A9 s.es=c:=by rw[jj];rfl
 rw[hc];have LH:E.sz c<1000000000:=by have:=E.fZ (l:=s.es) (e:=c) (by rw[jj];simp);omega
 obtain⟨s1,I1,t1,ip,il,R1⟩:=Jk K HN s c jj h (by rw[jj]at we;exact we.1) wb (by rw[jj]at re;exact re.1) rb LH (by omega) hG hn;refine⟨s1,I1,?_,ip,il,R1⟩;rw[Sm.aE]at t1 ⊢;refine aA (sf:=Qh) rfl rfl rfl ?_;generalize aT s.es=ES,bp s.bd=BD,bp s.el=EL at *;simp only[c6]at t1;simp[Qh,e1,e2,b1,b2,l1,l2,gq.bV,AV.ai,c6,t1];rw[U c6];obtain⟨s1,ls1,t1,R1⟩:=mH h (by have:=K.fu;omega) C K.fuel;by_cases ho:nU C r=true
 ·rw[ah ho]at R1;rw[ho]at t1;obtain⟨n,rfl⟩:∃n,N=n+1:=⟨N-1,by have:=(p7.1 ho).2;omega⟩;have H:=HN n rfl;rw[ah ⟨ho,by omega⟩];have G1:Gd C 1 (cG r):=hG.cG ho;have G0:Gd C 0 (cG r):=G1.qG (by omega);have N0:C.fuel<=(cG r).cC+n:=by show C.fuel<=r.cC+1+n;omega
  have YH:(cG r).e=0:=(p7.1 ho).1;by_cases c4:s.k=4;obtain⟨a,b,jj,rM⟩:=kp c4;rw[jj]at we re;have adb:(a.k=5/\a.aG.length=1)\/(a.k=6/\a.aG.length=2):=by
   have:=(FF a).1 we.1;obtain⟨⟨_,_,q1,q2,_⟩,_⟩:=this;rcases rM with q|q;exact .inl ⟨q,q1 (.inl q)⟩;exact .inr ⟨q,q2 (.inl q)⟩
  have hwk:WL D (a.aG++[b]):=by
   rw[zQ];intro e he;rcases abw.1 he with he|he;exact(zQ _).1 ((FF a).1 we.1).2 e he;rw[aem.1 he];exact we.2.1
  have hrk:wm f.vs.length (a.aG++[b]):=by
   rw[jG];intro e he;rcases abw.1 he with he|he;exact(jG _ _).1 ((rB _ a).1 re.1).2 e he;rw[aem.1 he];exact re.2.1
  have hzk:E.fY (a.aG++[b])<1000000000:=by
   have q1:E.fY s.es=E.sz a+E.sz b:=(by rw[jj];simp[E.fY]);have q2:=E.ry a;have q3:E.fY (a.aG++[b])=E.fY a.aG+E.sz b:=by
    generalize a.aG=l;induction l with
    |nil=>simp[E.fY]|cons x l ih=>simp[E.fY,ih];omega
   omega
  obtain⟨s2,I2,t2,ip,il,R2⟩:=xh K H s a b jj adb R1 hwk hrk hzk G0 N0 YH;have ex:ju fE fS s (cG r,f)=match vals fE f (a.aG++[b]) (cG r) with|(none,r)=>(r,f)|(some l,r)=>tn (r,f) a.k a.ref l:=by
   unfold ju;rw[ah c4];have q1:A9 s.es=a:=(by rw[jj];rfl);have q2:s.es.drop 1=[b]:=(by rw[jj];rfl);rw[q1,q2]
   rfl
  have ex2:(ju fE fS s (cG r,f)).2=f:=by
   rw[ex];split
   rfl
   unfold tn;split<;>rfl
  rw[ex2];rw[ex];refine⟨s2,I2,?_,ip,il,R2⟩;rw[Sm.aE]at t2 ⊢;refine aA (sf:=Qh) rfl rfl rfl ?_;generalize aT s.es=ES,bp s.bd=BD,bp s.el=EL at *;simp only[c4]at t2;simp[Qh,e1,e2,b1,b2,l1,l2,gq.bV,AV.ai,c4,t1,t2];obtain⟨s2,I2,t2,ip,il,R2⟩:=Ji H s.es R1 we re (by omega) G0 N0;have zR:=rH H.oE f s.es (cG r);have G2:=(p6 H.gE f s.es 1 (cG r) G1).1;cases hv:vals fE f s.es (cG r) with
  |mk o r2=>
  have hlen:∀l,o=some l->l.length=s.es.length:=λl hl=>oH (by rw[hv,hl]);have he0:∀l,o=some l->r2.e=0:=λl hl=>DH (fE:=fE) (f:=f) s.es (cG r) YH l r2 (by rw[hv,hl]);rw[hv]at t2 R2 zR G2;simp only at R2 zR G2;cases o with
  |none=>
   have ex:ju fE fS s (cG r,f)=(r2,f):=by
    unfold ju;rw[U c4];simp only[hv]
   rw[ex];refine⟨s2,I2,?_,ip,il,R2⟩;rw[Sm.aE];simp only[Bh]at t2;refine aA (sf:=Qh) rfl rfl rfl ?_;generalize aT s.es=ES,bp s.bd=BD,bp s.el=EL at *;simp[Qh,e1,e2,b1,l1,gq.bV,AV.ai,c1,c4,c6,t1,t2]
  |some l=>
   have ex:ju fE fS s (cG r,f)=jR fS s.k s.ref s.bd s.el l (r2,f):=by
    unfold ju;rw[U c4];simp only[hv]
   rw[ex];have hl:=hlen l rfl;have Q6:=he0 l rfl;have ja:=zR.st;have hP:=R2.P;have Gu:=G2.g;have et:jS I2=jS I:=(by unfold jS;rw[il]);rw[ip]at hP;have m1:aN (bK 1 (aO l))=true:=ct;have m2:(bK 1 (aO l)).ai=aJ 1 (aO l):=rfl;have m3:aN (aJ 1 (aO l))=true:=bI;have m4:(aJ 1 (aO l)).ai=aJ 1 (aO l):=bU;have m5:bt (aJ 1 (aO l))=aO l:=aW;have m6:cJ 1 (aJ 1 (aO l))=true:=dQ (by simp[cn,aO]);have m7:(bK 1 (aO l)).aB=true:=by unfold bK;cases aO l<;>rfl
   suffices h:∃v' st',(aZ S).call 0 aa 78 [.ptr I.p 0 0 0,.ptr (jS I) 0 0 0,.agg s.aF] st=some (v',st')/\v'=.fK []/\∃I',I'.p=I.p/\I'.fl=I.fl/\eF T aa ((jR fS s.k s.ref s.bd s.el l (r2,f)).2::L) (jR fS s.k s.ref s.bd s.el l (r2,f)).1 I' st' by
    obtain⟨v',st',h1,rfl,I',h2⟩:=h;exact⟨st',I',h1,h2⟩
   rw[Sm.aE];refine fP (sf:=Qh) rfl rfl rfl ?_;simp only[Bh]at t2;generalize aT s.es=ES at *;generalize hBD:bp s.bd=BD at *;generalize hEL:bp s.el=EL at *;generalize bK 1 (aO l)=MV,aJ 1 (aO l)=LV at *;simp[Qh,e1,e2,b1,l1,gq.bV,AV.ai,c1,c4,c6,t1,t2,m2];by_cases c2:s.k=2;obtain⟨a,rfl⟩:∃a,l=[a]:=⟨_,wC (by rw[hl];exact kl (by omega))⟩;have ep:jR fS s.k s.ref s.bd s.el [a] (r2,f)=bf (r2,f) s.ref a:=(by simp[jR,c2,nF]);rw[ep];have GN:=K.gl;have rvv:=rv (by omega);obtain⟨j,k,X,v1,v2,v3,v4⟩:=Pe R2 (ref:=s.ref) rvv.2 (by omega) (by rw[Gu,K.ng];exact GN);rw[et,ip]at v1;have v5:=v4 a;rw[<-x4]at v5;have Z7:bt LV=[[.int .i64 a]]:=(by rw[m5];rfl);have hkX:k<(aO X).length:=(by simpa using v3);simp[c2];rw[ny];simp[eG,iG,dH,bO,gq.bV,au,cut,aV,AV.ax,AV.aB,v1,v2,v3,Z7,m6];refine⟨_,_,⟨rfl,rfl⟩,?_⟩;simp[cm,AV.cW,AV.ai,fL.gi,AV.gi,AV.uD,AV.rZ,Z7,m6,eZ];exact⟨I2,ip,il,v5⟩;by_cases c3:s.k=3;obtain⟨a,rfl⟩:∃a,l=[a]:=⟨_,wC (by rw[hl];exact kl (by omega))⟩;have ep:jR fS s.k s.ref s.bd s.el [a] (r2,f)=bf (r2,f) s.ref a:=(by simp[jR,c3,nF]);rw[ep];have GN:=K.gl;have rvv:=rg c3;obtain⟨j,k,X,v1,v2,v3,v4⟩:=Pe R2 (ref:=s.ref) rvv (by rw[Gu,K.ng];exact kg c3) (by rw[Gu,K.ng];exact GN);rw[et,ip]at v1;have v5:=v4 a;rw[<-x4]at v5;have Z7:bt LV=[[.int .i64 a]]:=(by rw[m5];rfl);have hkX:k<(aO X).length:=(by simpa using v3);simp[c3];rw[ny];simp[eG,iG,dH,bO,gq.bV,au,cut,aV,AV.ax,AV.aB,v1,v2,v3,Z7,m6];refine⟨_,_,⟨rfl,rfl⟩,?_⟩;simp[cm,AV.cW,AV.ai,fL.gi,AV.gi,AV.uD,AV.rZ,Z7,m6,eZ];exact⟨I2,ip,il,v5⟩;by_cases c5:s.k=5;obtain⟨a,rfl⟩:∃a,l=[a]:=⟨_,wC (by rw[hl];exact kl (by omega))⟩;by_cases a0:a=0;have ep:jR fS s.k s.ref s.bd s.el [a] (r2,f)=jI fS s.el (r2,f):=(by simp[jR,c5,nF,a0]);rw[ep];obtain⟨s3,I3,t3,tg,wU,R3⟩:=iL H s.el R2 wl rl (by omega) (G2.qG (by omega)) (by omega);rw[et,ip,hEL]at t3;simp[c5,eZ,m5,m6,aO,a0,l2,t3];exact⟨I3,by rw[tg,ip],by rw[wU,il],R3⟩;have ep:jR fS s.k s.ref s.bd s.el [a] (r2,f)=jI fS s.bd (r2,f):=(by simp[jR,c5,nF,a0]);rw[ep];obtain⟨s3,I3,t3,tg,wU,R3⟩:=iL H s.bd R2 wb rb (by omega) (G2.qG (by omega)) (by omega);rw[et,ip,hBD]at t3;simp[c5,ck,m5,m6,aO,a0,b2,t3];exact⟨I3,by rw[tg,ip],by rw[wU,il],R3⟩;by_cases c7:s.k=7;obtain⟨VS,c2',hc,g1,g2,g3,g4,g5,g6,g7⟩:=R2.Ri;have tp:jS I=VS.1:=(by rw[<-et];unfold jS;rw[hc]);have bC:=fA g1;have F1:=R2.Lq (f':={ f with done:=true }) (st':=s2.set VS.1 (.rows 0 3 [s6 { f with done:=true } VS.2])) hc (λi q1 q2=>aap λe=>q1 e.symm) (aay bC) (by rw[aap g4];exact g2);match l,hl with
   |[],hl=>
    have ep:jR fS s.k s.ref s.bd s.el [] (r2,f)=(r2,{ f with done:=true }):=(by simp[jR,c7]);rw[ep];simp[c7,au,eZ,tp,g1,s6,aV,AV.ax,AV.aB,m3,m4,m5];exact⟨I2,ip,il,F1⟩
   |a::l',hl=>
    have ep:jR fS s.k s.ref s.bd s.el (a::l') (r2,f)=(r2,{ f with done:=true,cH:=a }):=(by simp[jR,c7,nF]);rw[ep];have F2:=R2.Lq (f':={ f with done:=true,cH:=a }) (st':=s2.set VS.1 (.rows 0 3 [s6 { f with done:=true,cH:=a } VS.2])) hc (λi q1 q2=>aap λe=>q1 e.symm) (aay bC) (by rw[aap g4];exact g2);have Vc:∀y,(s2.set VS.1 y)[VS.1]?=some y:=λy=>aay bC;have oF:∀y z,(s2.set VS.1 y).set VS.1 z=s2.set VS.1 z:=λy z=>List.set_set ..
    simp[c7,au,eZ,tp,g1,s6,cut,aV,AV.ax,AV.aB,m3,m4,m5,m6,aO,Vc,oF];exact⟨I2,ip,il,F2⟩
   by_cases c8:s.k=8;obtain⟨a,rfl⟩:∃a,l=[a]:=⟨_,wC (by rw[hl];exact kl (by omega))⟩;have Z7:bt LV=[[.int .i64 a]]:=(by rw[m5];rfl);have ep:jR fS s.k s.ref s.bd s.el [a] (r2,f)=({ r2 with out:=r2.out++[a] },f):=(by simp[jR,c8,nF]);rw[ep];have al6:=fA hP;have fy:r2.out++[a]≠[]:=(by simp);have N2:r2.out.length<1000000:=(by have:=G2.o;have:=G2.st;have:=K.fuel;have:=K.fu;omega);by_cases h0:r2.out=[];have hpp:I2.p=I.p:=ip;obtain⟨s3,zT⟩:∃s,s=s2++[.rows 0 1 (aO [a])]:=⟨_,rfl⟩;have P3:s3[I.p]?=some (.rows 0 14 [dW T I2.s I2.iv I2.g r2.nf r2.e r2.code (tr r2 I2) r2.cC]):=(by rw[zT,aal al6];exact hP);have qN:eF T aa (f::L) { r2 with out:=r2.out++[a] } { I2 with o:=s2.length,ov:=0,jv:=λj=>if j=s2.length then .o else I2.jv j } (s3.set I.p (.rows 0 14 [dW T I2.s I2.iv I2.g r2.nf r2.e r2.code (.mu s2.length 0) r2.cC])):=by
    refine R2.Bf fy (.inr (Nat.le_refl _)) (λj hj hp _=>?_) ?_ ?_;rw[aap (by rw[<-ip];exact λe=>hp e.symm),zT,aal hj];rw[ip];exact aay (fA P3);rw[aap (by omega),zT,h0];simp
   have ho:tr r2 I2=.af:=(by unfold tr;rw[ah h0]);rw[ho]at hP P3;simp only[dW]at hP P3 qN;have q3:s2++[.rows 0 1 [[.int .i64 a]]]=s3:=zT.symm;have VT:(8:Nat)<=cN:=(by unfold cN;omega);simp[c8,au,hP,cut,Z7,m6,aD,aC,dx,ff,cn,VT,q3,P3,aV,AV.ax,AV.aB,eZ,h.s7];exact⟨_,by exact ip,by exact il,qN⟩;have hO:=R2.O h0;have hoo:=R2.lo h0;have YL:I.p≠I2.o:=(by rw[<-ip];exact Nw R2.lp hoo (by decide));have VG:=R2.low _ (show I2.jv I2.o≠.no by rw[hoo];decide);obtain⟨s3,zT⟩:∃s,s=s2.set I2.o (.rows (I2.ov+1) 1 (aO (r2.out++[a]))):=⟨_,rfl⟩;have P3:s3[I.p]?=some (.rows 0 14 [dW T I2.s I2.iv I2.g r2.nf r2.e r2.code (tr r2 I2) r2.cC]):=(by rw[zT,aap YL.symm];exact hP);have qN:eF T aa (f::L) { r2 with out:=r2.out++[a] } { I2 with o:=I2.o,ov:=I2.ov+1,jv:=λj=>if j=I2.o then .o else I2.jv j } (s3.set I.p (.rows 0 14 [dW T I2.s I2.iv I2.g r2.nf r2.e r2.code (.mu I2.o (I2.ov+1)) r2.cC])):=by
    refine R2.Bf fy (.inl ⟨h0,rfl⟩) (λj hj hp hq=>?_) ?_ ?_;rw[aap (by rw[<-ip];exact λe=>hp e.symm),zT,aap λe=>hq h0 e.symm];rw[ip];exact aay (fA P3);rw[aap YL,zT];exact aay (fA hO)
   have ho:tr r2 I2=.mu I2.o I2.ov:=(by unfold tr;rw[U h0]);rw[ho]at hP P3;simp only[dW]at hP P3 qN;have q2:aO r2.out++[[.int .i64 a]]=aO (r2.out++[a]):=(by simp[aO]);have VT:(r2.out.length+1)*8<=cN:=(by unfold cN;omega);simp[c8,au,hP,hO,cut,Z7,m6,aD,aC,dx,ff,cn,VT,q2,zT.symm,P3,aV,AV.ax,AV.aB,eZ,h.s7];exact⟨_,by exact ip,by exact il,qN⟩;have ep:jR fS s.k s.ref s.bd s.el l (r2,f)=(r2,f):=(by simp[jR,c2,c3,c5,c7,c8]);rw[ep];simp[c2,c3,c5,c7,c8,eZ];exact⟨I2,ip,il,R2⟩
 rw[U ho]at R1;have VR:nU C r=false:=by cases hh:nU C r with|false=>rfl|true=>exact aU hh ho
 rw[VR]at t1;rw[U (λq=>ho q.1)];refine⟨s1,I,?_,rfl,rfl,R1⟩;rw[Sm.aE];refine aA (sf:=Qh) rfl rfl rfl ?_;generalize aT s.es=ES,bp s.bd=BD,bp s.el=EL at *;simp[Qh,e1,b1,l1,gq.bV,AV.ai,c1,c6,t1]
end CL
namespace CL
open Ax Go bY V7 kN lZ tj K9 S9
variable {T:Px}{C:Cx}{D:Dm}
theorem Lu(K:LU T C D):∀n,Hy T C D n (ev C n).1 (ev C n).2
 |0=>by
  refine⟨(Bb 0).1,(Bb 0).2,(zj 0).1,(zj 0).2,?_,?_⟩;exact jq (fE:=λ_ _ r=>(0,stop r)) (fS:=λ_ x=>x) K (N:=0) (λ_ _ _ _=>rfl) (λ_ _ _ _ h=>aU rfl h) (λn h=>by cases h);refine mO (fE:=λ_ _ r=>(0,stop r)) (fS:=λ_ x=>x) K (N:=0) (λs x=>?_) (λn h=>by cases h);show (if s.k=1 then x else if s.k=6 then eK C (λ_ _ r=>(0,stop r)) (λ_ x=>x) (A9 s.es) s.bd 0 x else (stop x.1,x.2):Rs×Fm)=_;simp
 |n+1=>by
  have ih:=Lu K n;refine⟨(Bb (n+1)).1,(Bb (n+1)).2,(zj (n+1)).1,(zj (n+1)).2,?_,?_⟩;refine jq (fE:=(ev C n).1) (fS:=(ev C n).2) K (N:=n+1) (λe f r h=>?_) (λe f r h _=>?_) (λm h=>by cases h;exact ih);show (if nU C r=true then mB C (ev C n).1 (ev C n).2 e f (cG r) else (0,stop r):Int×Rs)=_;rw[U (by rw[h];simp)];show (if nU C r=true then mB C (ev C n).1 (ev C n).2 e f (cG r) else (0,stop r):Int×Rs)=_;rw[ah h];refine mO (fE:=(ev C n).1) (fS:=(ev C n).2) K (N:=n+1) (λs x=>?_) (λm h=>by cases h;exact ih);show (if s.k=1 then x else if s.k=6 then eK C (ev C n).1 (ev C n).2 (A9 s.es) s.bd (n+1) x
   else if nU C x.1=true then ju (ev C n).1 (ev C n).2 s (cG x.1,x.2) else (stop x.1,x.2):Rs×Fm)=_
  simp
end CL
namespace CL
open Ax Go bY V7 kN lZ tj K9 S9
theorem nj{wl:Nat}:∀(l:List Int)(st:ay),jk wl (aO l) st=some (aO l,st)
 |[],st=>rfl|n::l,st=>by
  have ih:=nj (wl:=wl) l st;simp only[aO,List.map_cons]at *;simp[jk,jL,kS,AV.aB,AV.ai,ih]
def jJ(l:List Int):AV:=if l=[] then .af else .eE 1 (aO l)
theorem Jl{T:Px}{aa:Nat}{L:List Fm}{r:Rs}{I:rX}{st:ay}(h:eF T aa L r I st):∃st',pS 0 (tr r I) st=some (jJ r.out,st')/\st'[I.p]?=st[I.p]?/\st'.length=st.length:=by
 unfold jJ tr;by_cases q:r.out=[];rw[ah q,ah q];exact⟨st,rfl,rfl,rfl⟩;rw[U q,U q];have hO:=h.O q;have fy:(aO r.out).isEmpty=false:=by
  cases hq:r.out with
  |nil=>exact aU hq q|cons a b=>rfl
 have YL:I.o≠I.p:=Nw (h.lo q) h.lp (by decide);refine⟨st.set I.o (.rows (I.ov+1) 1 []),?_,aap YL,by simp⟩;show iy 0 (.mu I.o I.ov) st=_;simp only[iy,hO,fy,nj];simp
theorem vh(l:List Int):(jJ l).aB=true:=by
 unfold jJ;split<;>rfl
def oU(r:Rs):AV:=.agg [.int .i64 r.e,.int .i64 r.code,jJ r.out,.int .i64 r.cC]
theorem B9(r:Rs):(oU r).aB=true:=by simp only[oU,AV.aB,AV.ax,vh,aet]
def rJ(H:Hd)(bs:List Bd)(fuel:Nat):Cx:=⟨fuel,H.bE.map (·.2.length),bs,H.aI.length⟩
def vk:Rs:=⟨[],[],[],0,0,0,[],0⟩
def Da(p:Pg)(mZ:List Int)(fuel:Nat):Rs:=match nQ p with
 |some _=>vk|none=>match sQ (aM p) (aM p).aY p.funcs with
  |.error _=>vk|.ok bs=>run (rJ (aM p) bs fuel) (dX p) mZ
def ade(j:Nat):Lb:=if j=0 then .st else if j=1 then .p else if j=2 then .g else .no
open N7 U7 in
theorem EW(p:Pg){mZ:AV}(hi:tP mZ=true)(iI:iQ mZ=true)(fuel:Int)(YD:fuel<1000000)
  (hg:(j7 p).ok)(zX:GD.sm (j7 p))(dM:∀f∈p.funcs,f.params.length+Sm.fY f.body<1000000000)
  (uS:∀bs,sQ (aM p) (aM p).aY p.funcs=.ok bs->∀b∈bs,Sm.fY b.code<1000000000/\b.vars.length<1000000000)
  (hK:∀bs,nQ p=none->sQ (aM p) (aM p).aY p.funcs=.ok bs->LU ⟨aM p,dX p,bs,fuel.toNat⟩ (rJ (aM p) bs fuel.toNat) (wS (aM p))/\0<=dX p/\(dX p).toNat<bs.length)
  (wl li:Nat) (st:ay) :
  (aZ S).call wl li 12 [.agg p.aF,mZ,.int .i64 fuel] st=some (oU (Da p (dI mZ) fuel.toNat),st):=by
 have ec:=λwl aa st=>K9.xX wl aa p st hg zX dM;have es:=λwl aa st=>Yo wl aa p st hg zX dM uS;have hs:=og hi;have hv:=jt iI hs;have hpi:=cI hs;have nw:=λwl li st=>tq.ac2 wl li st;refine bT (sf:=s12) rfl rfl (by simp[Pg.aF,AV.ax,AV.aB,hpi]) rfl (B9 _) ?_;unfold uB at ec;unfold Da;have r1:aN (aJ 3 (p.bJ.map Rc.aF))=true:=bI;have r2:(aJ 3 (p.bJ.map Rc.aF)).ai=aJ 3 (p.bJ.map Rc.aF):=bU;have f1:aN (aJ 7 (p.funcs.map Fc.aF))=true:=bI;have f2:(aJ 7 (p.funcs.map Fc.aF)).ai=aJ 7 (p.funcs.map Fc.aF):=bU;have g1:aN (aJ 4 (p.aI.map PD.cells))=true:=bI;have g2:(aJ 4 (p.aI.map PD.cells)).ai=aJ 4 (p.aI.map PD.cells):=bU;simp only[Pg.aF]at ec es ⊢;generalize aJ 3 (p.bJ.map Rc.aF)=PR,aJ 7 (p.funcs.map Fc.aF)=PF,aJ 4 (p.aI.map PD.cells)=PG at *;cases hF:jQ (j7 p) with
 |some a=>
  have VH:nQ p=some a:=by unfold nQ;rw[hF]
  rw[hF]at ec;rw[VH];simp only[oU,vk,jJ]at ec ⊢;simp[s12,ec,r1,r2,f1,f2,g1,g2,au,AV.ai,cm,cut]
 |none=>
  rw[hF]at ec;simp only at ec ⊢;cases hR:sQ (aM p) (aM p).aY p.funcs with
  |error a=>
   have VH:nQ p=some a:=(by unfold nQ;rw[hF];simp only[hR]);rw[hR]at ec;rw[VH];simp only[oU,vk,jJ,zO]at ec ⊢;simp[s12,ec,r1,r2,f1,f2,g1,g2,au,AV.ai,cm,cut]
  |ok bs=>
   rw[hR]at ec;simp only[zO,nC,List.cons_append,List.nil_append]at ec ⊢;cases hO:nQ p with
   |some a=>
    rw[hO]at es;simp only[oU,vk,jJ,yT]at es ⊢;simp[s12,ec,es,r1,r2,f1,f2,g1,g2,au,AV.ai,cm,cut,cE,cX]
   |none=>
    rw[hO]at es;simp only[yT,cE,cX]at es;obtain⟨K,Z8,hmb⟩:=hK bs hO hR;have VT:((aM p).aI.length:Int)*8<=cN:=(by have:=K.gl;unfold cN;show ((wS (aM p)).ng:Int)*8<=_;omega);have u1:aN (bP (aM p).aI)=true:=dn;have u2:(bP (aM p).aI).ai=bP (aM p).aI:=eA;have u3:bt (bP (aM p).aI)=(aM p).aI.map Vd.aF:=aW;have a1:aN (aJ 2 ((aM p).bE.map dz))=true:=bI;have a2:(aJ 2 ((aM p).bE.map dz)).ai=aJ 2 ((aM p).bE.map dz):=bU;have b1:aN (aJ 6 ((aM p).aY.map Sg.aF))=true:=bI;have b2:(aJ 6 ((aM p).aY.map Sg.aF)).ai=aJ 6 ((aM p).aY.map Sg.aF):=bU;have z1:aN (aJ 3 (bs.map Bd.aF))=true:=bI;have z2:(aJ 3 (bs.map Bd.aF)).ai=aJ 3 (bs.map Bd.aF):=bU;simp[s12,ec,es,r1,r2,f1,f2,g1,g2,au,AV.ai,cm,cut];rw[ny];have hrc:∀n rows,(AV.raw n rows).cells=[.raw n rows]:=λ_ _=>rfl;obtain⟨n,hn⟩:∃n:Nat,fuel.toNat=n:=⟨_,rfl⟩;rw[hn]at K;rw[hn];have hmx:(if fuel<0 then 0 else fuel)=(n:Int):=(by split<;>omega);have hri:∀n rows,(AV.raw n rows).dj=true:=λ_ _=>rfl;have fm:aak (aM p).aI.length [AV.int .i64 0]=aO (aak (aM p).aI.length 0):=(by simp[aO]);generalize hHS:aJ 2 ((aM p).bE.map dz)=HS at *;generalize hHG:aJ 6 ((aM p).aY.map Sg.aF)=HG at *;generalize Yk:bP (aM p).aI=GL at *;generalize hBV:aJ 3 (bs.map Bd.aF)=BV at *;simp[eG,iG,dH,bO,gq.bV,hs,u1,u2,u3,a1,a2,b1,b2,z1,z2,nw,VT,hrc,hri,hmx,fm,AV.ax,AV.aB,au];refine⟨_,_,⟨rfl,rfl⟩,?_⟩;simp[fL.gi,AV.gi,u1,u3];rw[zB];refine⟨1,0,0,0,_,.mu 2 0,_,_,rfl,rfl,rfl,rfl,?_⟩;subst hHS hHG Yk hBV;have R0:eF ⟨aM p,dX p,bs,n⟩ 0 [] (r0 (rJ (aM p) bs n) (dI mZ)) ⟨1,0,0,0,2,0,0,[],[],ade,mZ⟩ [.rows 0 1 [[.af]],.rows 0 14 [dW ⟨aM p,dX p,bs,n⟩ 0 mZ 2 0 0 0 .af 0],.rows 0 1 (aO (aak (aM p).aI.length 0))]:=by
     refine⟨rfl,⟨hi,iI,rfl⟩,?_,rfl,trivial,λe=>aU rfl e,rfl,rfl,λe=>aU rfl e,rfl,λe=>aU rfl e,by simp,by simp[jy],by simp[jy],λ_ _=>Nat.zero_le _⟩;exact⟨rfl,by simp[r0],λe=>aU rfl e,λk hk=>by simp at hk,λe=>aU rfl e,by simp,λe=>aU rfl e,by simp⟩
    have H:=Lu K (rJ (aM p) bs n).fuel;have G0:Gd (rJ (aM p) bs n) 0 (r0 (rJ (aM p) bs n) (dI mZ)):=⟨by simp[r0],by simp[r0],by simp[r0,rJ],by simp[r0],by simp[r0]⟩;obtain⟨s1,I1,t1,ip,il,R1⟩:=rf K H (dX p) [] R0 Z8 hmb (by simp) G0 (by simp[r0]);have LQ:aJ 1 (aO ([]:List Int))=.af:=rfl;rw[LQ]at t1;simp only at t1 ip;unfold run;generalize ee (rJ (aM p) bs n) (ev (rJ (aM p) bs n) (rJ (aM p) bs n).fuel).2 (dX p) [] (r0 (rJ (aM p) bs n) (dI mZ))=y at *;obtain⟨y1,r1⟩:=y;simp only at R1 t1 ⊢;have en:=λwl li=>vg wl li R1;rw[ip]at en;have P1:=R1.P;rw[ip]at P1;simp only[dW]at t1 P1
    push_cast at t1
    obtain⟨s2,xx,R2⟩:∃s2,s2=(if r1.e=0 then s1.set 1 (.rows 0 14 [dW ⟨aM p,dX p,bs,n⟩ I1.s I1.iv I1.g r1.nf 1 r1.code (tr r1 I1) r1.cC]) else s1)/\eF ⟨aM p,dX p,bs,n⟩ 0 [] (lE r1) I1 s2:=by
     unfold lE;by_cases e0:r1.e=0;rw[ah e0,ah e0];refine⟨_,rfl,?_⟩;rw[<-ip];exact R1.aF { r1 with e:=1 } I1.iv rfl rfl rfl R1.iv;rw[U e0,U e0];exact⟨_,rfl,R1⟩
    have P2:=R2.P;rw[ip]at P2;obtain⟨s4,o1,o2,o3⟩:=Jl R2;rw[ip]at o2;have l1:1<s4.length:=(by rw[o3];exact fA P2);have P4:=o2.trans P2;have ov:=vh (lE r1).out;have ow:(jJ (lE r1).out).ai=jJ (lE r1).out:=(by unfold jJ;split<;>rfl);have oc:(jJ (lE r1).out).dj=true:=(by unfold jJ;split<;>rfl);obtain⟨s5,Jj⟩:∃s,s=s4.set 1 (.rows 0 14 [dW ⟨aM p,dX p,bs,n⟩ I1.s I1.iv I1.g (lE r1).nf (lE r1).e (lE r1).code (jJ (lE r1).out) (lE r1).cC]):=⟨_,rfl⟩;have P5:=aay (a:=dA.rows 0 14 [dW ⟨aM p,dX p,bs,n⟩ I1.s I1.iv I1.g (lE r1).nf (lE r1).e (lE r1).code (jJ (lE r1).out) (lE r1).cC]) l1;rw[<-Jj]at P5;simp only[dW]at xx P2 P4 P5 Jj;by_cases e0:r1.e=0;rw[ah e0]at xx;simp[au,t1,en,e0,P1,cut,aV,AV.ax,AV.aB,<-xx];rw[zB];refine⟨1,0,0,0,_,_,s4,s5,rfl,?_,o1,?_,?_⟩;simp[iT,P2,cut];simp[fo,P4,aV,au,Jj];simp[cut,P5,ow,oc,AV.cW,cm,au,oU];rw[U e0]at xx;subst xx;simp[au,t1,en,e0];rw[zB];refine⟨1,0,0,0,_,_,s4,s5,rfl,?_,o1,?_,?_⟩;simp[iT,P2,cut];simp[fo,P4,aV,au,Jj];simp[cut,P5,ow,oc,AV.cW,cm,au,oU]
end CL
namespace CL
open Ax Go bY V7 kN lZ tj K9 S9 N7 U7
theorem Lv(s:List UInt8):∀f∈(qu s).1.funcs,Sm.fY f.body<=6001:=by
 unfold qu;split;rename_i hl;generalize htp:U2.Gt s=z;obtain⟨rows,e⟩:=z;cases e with
 |some e=>intro f hf;cases hf|none=>
  obtain⟨ko,hlen⟩:=I0 htp;obtain⟨x,hx⟩:=xN (sY rows);simp only;rw[hx,Option.getD_some];have hTl:(sY rows).length=rows.length:=by simp[sY]
  intro f hf;have:=QA hx f hf;omega
 intro f hf;cases hf
theorem adf(p:Pg)(hp:Pg.In 6000 p):∀s∈(aM p).aY,s.ps.length<=7:=by
 intro s hs;obtain⟨f,hf,rfl⟩:=List.mem_map.1 hs;have:=(hp.f.2 f hf).len;simpa [IU,ou] using this
structure QT (p:Pg):Prop where
 YM:Pg.In 6000 p
 G8:∀f∈p.funcs,Sm.fY f.body<=12010
theorem NB(s:List UInt8):QT (qu s).1:=⟨(UN s).1,λf hf=>by have:=Lv s f hf;omega⟩
variable{p:Pg}
theorem Pf(h:QT p):∀f∈p.funcs,f.params.length+Sm.fY f.body<1000000000:=λf hf=>by
 have:=h.G8 f hf;have:=(h.YM.f.2 f hf).len;omega
theorem zU(h:QT p):∀bs,sQ (aM p) (aM p).aY p.funcs=.ok bs->∀b∈bs,Sm.fY b.code<=12010/\b.vars.length<=24020:=λbs hR b hb=>by
 have lz:=HD hR h.G8 b hb;have CQ:=KX (n:=12010) (O3 p) hR (λs hs=>((O3 p).aY s hs).2) (λs hs=>by have:=adf p h.YM s hs;omega) h.G8 b hb;omega
theorem Vg{l:List FN}(h:¬oZ l<0):0<=oZ l/\(oZ l).toNat<l.length:=by
 unfold oZ at h ⊢;split;rename_i k hk;have:=List.findIdx?_eq_some_iff_getElem.1 hk;obtain⟨h1,_⟩:=this;exact⟨by omega,by simpa using h1⟩;rename_i hk;rw[hk]at h;simp at h
theorem Lw(h:QT p){fuel:Nat}(YD:fuel<1000000){bs:List Bd}(hS:nQ p=none)(hR:sQ (aM p) (aM p).aY p.funcs=.ok bs) :
  LU ⟨aM p,dX p,bs,fuel⟩ (rJ (aM p) bs fuel) (wS (aM p))/\0<=dX p/\(dX p).toNat<bs.length:=by
 have cT:(aM p).aY.length=p.funcs.length:=by simp[aM]
 have Rx:=S9.DG cT hR;have hrefs:=AP hR;have F4:=h.YM.f.1;have GN:=h.YM.g.1;have uS:=zU h bs hR;have hF:jQ (j7 p)=none:=by
  unfold nQ at hS;split at hS;cases hS
  assumption
 have hm:¬dX p<0:=by
  intro q;unfold jQ at hF;unfold dX at q;rw[ah q]at hF;unfold xJ at hF;split at hF<;>cases hF
 have Oj:=Vg hm;refine⟨⟨rfl,YD,rfl,rfl,rfl,?_,rfl,?_,?_,?_,?_,by show bs.length<_;omega⟩,Oj.1,?_⟩;show (aM p).aI.length<1000000;simp[aM,ou];omega;intro s hs;obtain⟨r,hr,rfl⟩:=List.mem_map.1 hs;have:=(h.YM.r.2 r hr).len;simp[ou];omega;show ((aM p).aY.map (·.ps.length)).length=bs.length;simp[cT,Rx];intro i h1 h2;have h1':i<(aM p).aY.length:=by simpa [wS] using h1
 have:=(hrefs i h1' h2).1;simpa [wS] using this;intro b hb;obtain⟨i,hi,rfl⟩:=List.getElem_of_mem hb;have hi:i<bs.length:=hi;have hw:=U8 (by simp[aM,dN]) hR _ hb;have hr:=(hrefs i (by rw[cT];omega) hi).2;have:=uS _ hb;exact⟨hw,hr,by omega,by omega⟩;have:=Oj.2;rw[show (eu (j7 p).funcs).length=p.funcs.length by rw[p0,List.length_map]]at this;show (oZ (eu (j7 p).funcs)).toNat<bs.length;omega
theorem Vh(h:QT p){mZ:AV}(hi:tP mZ=true)(iI:iQ mZ=true)(fuel:Int)(YD:fuel<1000000)(wl li:Nat)(st:ay) :
  (aZ S).call wl li 12 [.agg p.aF,mZ,.int .i64 fuel] st=some (oU (Da p (Ax.dI mZ) fuel.toNat),st):=
 EW p hi iI fuel YD (ZU h.YM) (ZV h.YM) (Pf h) (λbs hR b hb=>by have:=zU h bs hR b hb;omega) (λbs hS hR=>Lw h (by omega) hS hR) wl li st
def gi(a b:List Int)(k:Nat):Prop:=∀j,j<k->a[j]?=b[j]?
theorem Vi{a b:List Int}(h:a.length=b.length)(hs:gi a b a.length):a=b:=by
 apply List.ext_getElem?;intro j;by_cases hj:j<a.length;exact hs j hj;rw[adi (by omega),adi (by omega)]
theorem YN(wl li:Nat){a b:AV}(ha:tP a=true)(hb:tP b=true)(uJ:(dI a).length<1000000000)(st:ay):(aZ S).call wl li 17 [a,b] st=some (.bool (decide (dI a=dI b)),st):=by
 have sa:=og ha;have sb:=og hb;have za:=EJ ha;have zb:=EJ hb;have la:=Av ha;have lb:=Av hb;have pa:=cI sa;have pb:=cI sb;refine bT (sf:=s17) rfl rfl (by rw[AV.ax,pa,AV.ax,pb];rfl) rfl rfl ?_;by_cases hl:(dI a).length=(dI b).length;simp[s17,sa,sb,la,lb,hl];refine bH Td.eq_1 (λk:Nat=>⟨[(0,.val a),(1,.val b),(5,.val (.int .i64 k))],[],[]⟩)
  (λk=>k<=(dI a).length/\gi (dI a) (dI b) k) (λk=>(dI a).length-k) 0 (by simp) ⟨by omega,λ_ h=>by omega⟩ ?_
 intro k ⟨hk,hs⟩ ih;by_cases bC:k<(dI a).length;have uz:k<(dI b).length:=by omega
 have hw:=wk k (by omega);by_cases hq:(dI a)[k]=(dI b)[k];simp[sa,za,zb,la,lb,uz,hl,hq,hw,aD,aC];exact ih (k+1) ⟨by omega,λj hj=>by
  by_cases e:j=k;subst e;rw[aag bC,aag uz,hq];exact hs j (by omega)⟩ (by omega)
 have fy:¬dI a=dI b:=λe=>hq (by simp only[e]);simp[sa,za,zb,la,lb,uz,hl,hq,fy,aD,aC];have fR:k=(dI a).length:=by omega
 have he:dI a=dI b:=Vi hl (fR ▸ hs);rw[show decide (dI a=dI b)=true from bM he];simp[sa,la,bC];have fy:¬dI a=dI b:=λe=>hl (by rw[e]);simp[s17,sa,sb,la,lb,hl,fy]
theorem adg(l:List Int):tP (jJ l)=true/\dI (jJ l)=l:=by
 unfold jJ;by_cases h:l=[];rw[ah h,h];exact⟨rfl,rfl⟩;rw[U h];refine⟨?_,?_⟩;simp[tP,aO,cn];simp only[Ax.dI,bt];exact Ds l
theorem YO(wl li:Nat)(m m':Rs)(he:m'.e=m.e)(hc:m'.code=m.code)(ho:m'.out=m.out)(hs:m'.cC=m.cC)(hl:m.out.length<1000000000)(st:ay):(aZ S).call wl li 11 [oU m,oU m'] st=some (.bool true,st):=by
 have e:oU m'=oU m:=by unfold oU;rw[he,hc,ho,hs]
 rw[e];obtain⟨ia,da⟩:=adg m.out;have hi:=λwl li st=>YN wl li ia ia (by rw[da];exact hl) st;rw[show decide (dI (jJ m.out)=dI (jJ m.out))=true from bM rfl]at hi;have pa:=cI (og ia);have va:(jJ m.out).ai=jJ m.out:=by unfold jJ;split<;>rfl
 have ca:(jJ m.out).dj=true:=by unfold jJ;split<;>rfl
 have hp:(oU m).aB=true:=by simp only[oU,AV.aB,AV.ax,pa,aet]
 refine bT (sf:=s11) rfl rfl (by rw[AV.ax,hp,AV.ax,hp];rfl) rfl rfl ?_;unfold oU;generalize jJ m.out=A at *;simp[s11,va,ca,hi]
end CL
