/- Part of a proof. -/
import Derived.Test.YtpnadocbfbbboaaGreatE
import Derived.Test.YtpnadocbfbbboaaGreatS
import Derived.Test.YtpnadocbfbbboaaGreatP
import Derived.Test.YtpnadocbfbbboaaGreatN

set_option maxRecDepth 100000
set_option maxHeartbeats 8000000
namespace Bp
open Ax Go bX V7 lf mG zj K9 S9
variable {T:Px}{C:Cx}{D:Dm}{n:Nat}{fE:E->Fm->Rs->Int×Rs}{fS:Sm->Rs×Fm->Rs×Fm}{J:Nat}{L:List Fm}{r:Rs}{I:Hq}{st st':ai}{f:Fm}
def ev0:List AV:=[.int .i64 0,.int .i64 0,.str [],.str [],.int .i64 0,.U,.int .i64 0,.int .i64 0,.int .i64 0,.int .i64 0,.int .i64 0]
theorem Zs(li:Nat)(n:Nat)(h0:0<n)(h1:n<1000000)(st:ai):(aT S).call 0 li 155 [.U,.int .i64 n] st=some (.mu st.length 1,st++[.rows 1 11 []]):=by
 have h2:n*120<=dx:=by unfold dx;omega
 have FC:¬(n:Int)<0:=by omega
 have h0':0<(n:Int):=by omega
 have hw:IntKind.i64.wrap (n:Int)=n:=by rw[dn]<;>omega
 have hw0:IntKind.i64.wrap (0:Int)=0:=by rw[dn]<;>omega
 have sl:jJ false 11 .U 0 0 none=some .U:=rfl;have az:aP 0 li (.sC 11 120 ev0) [.val .U,.val (.int .i64 n)] st []=some (.val (.mu st.length 0),st++[.rows 0 11 (List.replicate n ev0)],[]):=by
  have iR:n≠0:=by omega
  have h3:(n:Int)*120<=dx:=by omega
  simp[aP,xY,bV,ev0,h2,h3,iR,AV.af,AV.au]
 unfold ev0 at az;refine an (sf:=acO) rfl rfl rfl ?_;simp[acO,h0,FC,hw,hw0,sl,az]
theorem Zt(a b:List E)(ha:a≠[]):bf (a++b)=.dc 11 (E.rows a++E.rows b):=by
 have e:∀l:List E,E.rows l=l.map E.aG:=λl=>by
  induction l with
  |nil=>rfl|cons x l ih=>simp[E.rows,ih]
 cases a with
 |nil=>exact absurd rfl ha|cons x l=>
  have:E.rows (x::l++b)=E.rows (x::l)++E.rows b:=by rw[e,e,e,List.map_append]
  unfold bf;rw[this];simp[aK,E.rows]
  rfl
theorem LO{wl:Nat}(y:E){st:ai}:ki wl y.aG st=some (y.aG,st):=by
 have h4:qo wl (bf y.ay) st=some (bf y.ay,st):=by
  unfold bf aK cC;cases hE:E.rows y.ay with
  |nil=>rfl|cons a b=>rfl
 rw[E.aB];generalize bf y.ay=v at *;have hi:∀n,qo wl (.int .i64 n) st=some (.int .i64 n,st):=λn=>rfl;have hs:∀n,qo wl (.str n) st=some (.str n,st):=λn=>rfl;simp[ki,h4,hi,hs]
theorem E5{wl:Nat}(st:ai):∀l:List E,kE wl (l.map E.aG) st=some (l.map E.aG,st)
 |[]=>rfl|e::l=>by
  show (match ki wl e.aG st with|some (r',st')=>(match kE wl (l.map E.aG) st' with|some (l',JW)=>some (r'::l',JW)|none=>none)|none=>none)=_;rw[LO];simp only;rw[E5 st l]
  rfl
theorem Ry(a b:List E)(ha:a≠[])(hn:a.length+b.length<1000000)(wl li:Nat)(st:ai) :
  (aT S).call wl li 124 [.dc 1 [[bf a],[bf b]]] st=some (bf (a++b),st):=by
 have CU:0<a.length:=List.length_pos_iff.2 ha;have a1:aR (bf a)=true:=bP;have a2:(bf a).aa=bf a:=bS;have a3:bg (bf a)=E.rows a:=aZ;have a4:dg 11 (bf a)=true:=mY;have b1:aR (bf b)=true:=bP;have b2:(bf b).aa=bf b:=bS;have b3:bg (bf b)=E.rows b:=aZ;have b4:dg 11 (bf b)=true:=mY;have la:(E.rows a).length=a.length:=by simp
 have lb:(E.rows b).length=b.length:=by simp
 have gr:=λli=>Zs li (a.length+b.length) (by omega) hn []
 push_cast at gr
 rw[Zt a b ha];have w1:IntKind.i64.wrap (a.length:Int)=a.length:=by rw[dn]<;>omega
 have w2:IntKind.i64.wrap ((a.length:Int)+b.length)=(a.length:Int)+b.length:=by rw[dn]<;>omega
 have n1:¬(a.length:Int)<0:=by omega
 have n2:¬(a.length:Int)+b.length<0:=by omega
 refine bn (sf:=acJ) rfl rfl (by simp[*]) rfl (by simp[*]) ?_;generalize bf a=A at *;generalize bf b=B at *;simp[acJ];have u1:IntKind.i64.wrap (1:Int)=1:=by rw[dn]<;>omega
 have u2:IntKind.i64.wrap (2:Int)=2:=by rw[dn]<;>omega
 rw[yS];simp[OG,a1,a2,a3,w1,n1,u1];rw[fC,yS];simp[b1,b2,b3,w2,n2,u2];rw[fC,yS];simp[gr];rw[yS];have fa:bV 11 (E.rows a)=true:=by simp[bV,gd,E.aB]
 have fb:bV 11 (E.rows b)=true:=by simp[bV,gd,E.aB]
 have r1:a.length*120<=dx:=by unfold dx;omega
 have r2:(a.length+b.length)*120<=dx:=by unfold dx;omega
 simp[OH,a1,a2,a3,u1,fa,r1];rw[fC,yS];simp[b1,b2,b3,u2,fb,r2];rw[fC,yS];simp;rw[agJ];have iR:E.rows a≠[]:=by
  intro q;have:=congrArg List.length q;simp at this;exact ha this
 have hfz:=E5 (wl:=0) [.rows 4 11 []] (a++b);rw[List.map_append,<-gd,<-gd]at hfz;refine⟨.mu 0 3,.dc 11 (E.rows a++E.rows b),[.rows 4 11 []],rfl,?_,?_⟩;simp[iI,iR,hfz];simp
theorem anr{l:List Int}(h:l.length=3):l=[r9 l,Mp l,at2 l]:=by
 match l,h with
 |[a,b,c],_=>rfl
theorem DO(K:Prg T C D)(H:Hy T C D n fE fS)(s:Sm)(a b:E)(mO:s.es=[a,b])(sH:(a.k=5/\a.ay.length=1)\/(a.k=6/\a.ay.length=2))(h:jm T J (f::L) r I st)(hw:WL D (a.ay++[b]))(hr:x9 f.vs.length (a.ay++[b]))(eI:E.ey (a.ay++[b])<1000000000)
  (hG:Gd C 0 r)(hn:C.eC<=r.cZ+n)(he:r.e=0) :
  ∃st' I',(aT S).call 0 J 99 [.ptr I.p 0 0 0,.ptr (ji I) 0 0 0,.agg s.aG] st=some (.fF [],st')/\I'.p=I.p/\I'.fl=I.fl/\
   jm T J (f::L) (match vals fE f (a.ay++[b]) r with|(none,r)=>(r,f)|(some l,r)=>Ak (r,f) a.k a.ref l).1 I' st':=by
 have e1:aR (bf s.es)=true:=bP;have e2:(bf s.es).aa=bf s.es:=bS;have e3:bg (bf s.es)=E.rows s.es:=aZ;have e4:dg 11 (bf s.es)=true:=mY;have b1:aR (bF s.bd)=true:=bN;have b2:(bF s.bd).aa=bF s.bd:=bQ;have l1:aR (bF s.el)=true:=bN;have l2:(bF s.el).aa=bF s.el:=bQ;have er:E.rows s.es=[a.aG,b.aG]:=by rw[mO];simp[E.rows]
 have k1:aR (bf a.ay)=true:=bP;have k2:(bf a.ay).aa=bf a.ay:=bS;rw[er]at e3;have iR:a.ay≠[]:=by
  intro q;rw[q]at sH;simp at sH
 have Mi:=λwl li st=>Ry a.ay [b] iR (by simp;rcases sH with⟨_,q⟩|⟨_,q⟩<;>omega) wl li st;have hb1:bf [b]=.dc 11 [b.aG]:=rfl;rw[hb1]at Mi;obtain⟨s2,I2,t2,ip,il,R2⟩:=Jn H (a.ay++[b]) h hw hr eI hG hn;have G2:=(vA H.gE f (a.ay++[b]) 0 r hG).1;cases hv:vals fE f (a.ay++[b]) r with
 |mk o r2=>
 have hlen:∀l,o=some l->l.length=(a.ay++[b]).length:=λl hl=>As (by rw[hv,hl]);have he0:∀l,o=some l->r2.e=0:=λl hl=>De (fE:=fE) (f:=f) (a.ay++[b]) r he l r2 (by rw[hv,hl]);rw[hv]at t2 R2 G2;simp only at R2 G2;rw[E.aB a]at e3;rw[Sm.aB];have sb:(uh (bf s.es) 1 2).aa=.dc 11 [b.aG]:=by
  unfold bf aK;rw[er]
  rfl
 have v1:aR (bf (a.ay++[b]))=true:=bP;have v2:(bf (a.ay++[b])).aa=bf (a.ay++[b]):=bS;cases o with
 |none=>
  refine⟨s2,I2,?_,ip,il,R2⟩;simp only[Ar]at t2;refine an (sf:=s99) rfl rfl rfl ?_;generalize bf s.es=ES at *;generalize bF s.bd=BD at *;generalize bF s.el=EL at *;generalize bf a.ay=KV at *;generalize bf (a.ay++[b])=CV at *;simp[s99,e1,e2,e3,e4,b1,l1,k1,k2,sb,Mi,t2,ir.b8,AV.aa,aF,aC]
 |some l=>
  have hl:=hlen l rfl;have Ww:=he0 l rfl;have hP:=R2.P;have hS2:r2.s.length<1000000:=by have:=G2.s;have:=G2.st;have:=K.eC;have:=K.fu;omega
  rw[ip]at hP;have m1:aR (cC 1 (bp l))=true:=dz;have m2:(cC 1 (bp l)).aa=aK 1 (bp l):=rfl;have m3:aR (aK 1 (bp l))=true:=bL;have m4:(aK 1 (bp l)).aa=aK 1 (bp l):=bO;have m5:bg (aK 1 (bp l))=bp l:=aZ;have m6:dg 1 (aK 1 (bp l))=true:=fZ (by simp[bV,bp]);simp only[Ar]at t2;rcases sH with⟨hk,j8⟩|⟨hk,j8⟩;have hx:=ad8 (l:=l) (by rw[hl];simp[j8]);generalize r9 l=x at *;generalize Mp l=y at *;subst hx;have ep:Ak (r2,f) a.k a.ref [x,y]=(kL { r2 with s:=F7 r2.s x a.ref y } (uv r2.s x a.ref),f):=by simp[Ak,hk,r9,Mp]
  simp only[ep];obtain⟨s3,l3,t3,R3⟩:=aa2 R2 hS2 x a.ref y;obtain⟨s4,l4,t4,R4⟩:=Aq R3 (uv r2.s x a.ref);rw[ip]at t4;refine⟨s4,I2,?_,ip,il,R4⟩;refine an (sf:=s99) rfl rfl rfl ?_;generalize bf s.es=ES at *;generalize bF s.bd=BD at *;generalize bF s.el=EL at *;generalize bf a.ay=KV at *;generalize bf (a.ay++[b])=CV at *;generalize cC 1 (bp [x,y])=MV at *;generalize aK 1 (bp [x,y])=LV at *;simp[s99,e1,e2,e3,e4,b1,l1,k1,k2,sb,Mi,t2,ir.b8,AV.aa,aF,aC,hk,hP,kN,cut,m2,m4,m5,m6,bp,t3,t4,ah];have hx:=anr (l:=l) (by rw[hl];simp[j8]);generalize r9 l=x at *;generalize Mp l=y at *;generalize at2 l=z at *;subst hx;have ep:Ak (r2,f) a.k a.ref [x,y,z]=(kL { r2 with s:=F7 r2.s x y z } (uv r2.s x y),f):=by simp[Ak,hk,r9,Mp,at2]
  simp only[ep];obtain⟨s3,l3,t3,R3⟩:=aa2 R2 hS2 x y z;obtain⟨s4,l4,t4,R4⟩:=Aq R3 (uv r2.s x y);rw[ip]at t4;refine⟨s4,I2,?_,ip,il,R4⟩;refine an (sf:=s99) rfl rfl rfl ?_;generalize bf s.es=ES at *;generalize bF s.bd=BD at *;generalize bF s.el=EL at *;generalize bf a.ay=KV at *;generalize bf (a.ay++[b])=CV at *;generalize cC 1 (bp [x,y,z])=MV at *;generalize aK 1 (bp [x,y,z])=LV at *;simp[s99,e1,e2,e3,e4,b1,l1,k1,k2,sb,Mi,t2,ir.b8,AV.aa,aF,aC,hk,hP,kN,cut,m2,m4,m5,m6,bp,t3,t4,ah]
theorem Zu(K:Prg T C D){N:Nat}(HN:∀n,N=n+1->Hy T C D n fE fS)(s:Sm)(c:E)(mO:s.es=[c])(h:jm T J (f::L) r I st)(hw:WE D c)(hwb:WB D s.bd)(hr:FX f.vs.length c)(hrb:rN f.vs.length s.bd)(eI:E.sz c<1000000000)(ans:Sm.ey s.bd<1000000000)
  (hG:Gd C 0 r)(hn:C.eC<=r.cZ+N) :
  ∃st' I',(aT S).call 0 J 97 [.ptr I.p 0 0 0,.ptr (ji I) 0 0 0,.agg s.aG] st=some (.fF [],st')/\I'.p=I.p/\I'.fl=I.fl/\
   jm T J ((fA C fE fS c s.bd N (r,f)).2::L) (fA C fE fS c s.bd N (r,f)).1 I' st':=by
 have e1:aR (bf s.es)=true:=bP;have e2:(bf s.es).aa=bf s.es:=bS;have e3:bg (bf s.es)=E.rows s.es:=aZ;have e4:dg 11 (bf s.es)=true:=mY;have b1:aR (bF s.bd)=true:=bN;have b2:(bF s.bd).aa=bF s.bd:=bQ;have l1:aR (bF s.el)=true:=bN;have l2:(bF s.el).aa=bF s.el:=bQ;have er:E.rows s.es=[c.aG]:=by rw[mO];simp[E.rows]
 have k1:aR (bf c.ay)=true:=bP;have k2:(bf c.ay).aa=bf c.ay:=bS;rw[er]at e3;rw[E.aB]at e3;rw[Sm.aB];obtain⟨v',st',h1,rfl,I',h2⟩:∃v' st',(aT S).call 0 J 97 [.ptr I.p 0 0 0,.ptr (ji I) 0 0 0,.agg [.int .i64 s.k,.str s.nm,.str s.on,.int .i64 s.od,bf s.es,bF s.bd,bF s.el,.int .i64 s.a,.int .i64 s.ref]] st=some (v',st')/\v'=.fF []/\∃I',I'.p=I.p/\I'.fl=I.fl/\jm T J ((fA C fE fS c s.bd N (r,f)).2::L) (fA C fE fS c s.bd N (r,f)).1 I' st':=by
  refine qE (sf:=s97) rfl rfl rfl ?_;generalize bf s.es=ES at *;generalize hBD:bF s.bd=BD at *;generalize bF s.el=EL at *;simp[s97,e1,b1,l1,ir.b8];refine bu Us.eq_1 (λx:Nat×(Rs×Fm)×Hq×ai=>⟨[(0,.val (.ptr I.p 0 0 0)),(1,.val (.ptr (ji I) 0 0 0)),(5,.fp 0 0)],[[.int .i64 s.k,.str s.nm,.str s.on,.int .i64 s.od,ES,BD,EL,.int .i64 s.a,.int .i64 s.ref]],x.2.2.2⟩)
   (λx=>fA C fE fS c s.bd x.1 x.2.1=fA C fE fS c s.bd N (r,f)/\x.2.2.1.p=I.p/\x.2.2.1.fl=I.fl/\jm T J (x.2.1.2::L) x.2.1.1 x.2.2.1 x.2.2.2/\Gd C 0 x.2.1.1/\x.2.1.2.vs.length=f.vs.length/\C.eC<=x.2.1.1.cZ+x.1/\C.eC<=x.2.1.1.cZ+N) (λx=>x.1) (N,(r,f),I,st) rfl ⟨rfl,rfl,rfl,h,hG,rfl,hn,hn⟩ ?_
  rintro⟨k,⟨r1,f1⟩,I1,s1⟩ ⟨hp,ip,il,h1,g1,v1,n1,n2⟩ ih;simp only at hp ip il h1 g1 v1 n1 n2 ih;have et:ji I1=ji I:=by unfold ji;rw[il]
  obtain⟨c1,c2,hc,t1,t2,t3⟩:=h1.top;have tp:ji I=c1.1:=by rw[<-et];unfold ji;rw[hc]
  by_cases qd:f1.done=true;have ex:fA C fE fS c s.bd k (r1,f1)=(r1,f1):=by cases k<;>(unfold fA;rw[if_pos qd])
  rw[ex]at hp;rw[<-hp];simp[tp,t1,rU,cut,qd,lR];exact⟨I1,ip,il,h1⟩;have qd':f1.done=false:=by cases hh:f1.done with|false=>rfl|true=>exact absurd hh qd
  obtain⟨s2,l2,t4,R2⟩:=zM h1 (by have:=K.fu;omega) C K.eC;rw[ip]at t4;by_cases ho:tg C r1=true;rw[if_pos ho]at R2;rw[ho]at t4;obtain⟨ho1,ho2⟩:=Ao.1 ho;obtain⟨n,rfl⟩:∃n,N=n+1:=⟨N-1,by omega⟩;obtain⟨k,rfl⟩:∃k',k=k'+1:=⟨k-1,by omega⟩;have H:=HN n rfl;have G1:Gd C 0 (dm r1):=(g1.dm ho).u0 (by omega);have xy:(dm r1).cZ=r1.cZ+1:=rfl;obtain⟨s3,I3,t5,Hr,LN,R3⟩:=H.E J L (dm r1) I1 s2 f1 c R2 hw (by rw[v1];exact hr) eI G1 (by omega);rw[et,ip,tp]at t5;have Rx:=H.oE c f1 (dm r1);have G2:=(H.gE 0 c f1 (dm r1) G1).1;have ex:fA C fE fS c s.bd (k+1) (r1,f1)=if (fE c f1 (dm r1)).2.e≠0\/(fE c f1 (dm r1)).1=0 then ((fE c f1 (dm r1)).2,f1) else fA C fE fS c s.bd k (m8 fS s.bd ((fE c f1 (dm r1)).2,f1)):=by
   (conv=>lhs;unfold fA)<;>rw[if_neg (by rw[qd'];simp),if_pos ho]
  rw[ex]at hp;have en:=λwl li=>ux wl li R3;rw[Hr,ip]at en;rw[E.aB]at t5;have gi:=Rx.st;by_cases q:(fE c f1 (dm r1)).2.e≠0\/(fE c f1 (dm r1)).1=0;rw[if_pos q]at hp;rw[<-hp];generalize fE c f1 (dm r1)=y at *;by_cases q1:y.2.e=0;have q2:y.1=0:=by rcases q with q|q;exact absurd q1 q;exact q
  simp[tp,t1,rU,cut,qd',t4,e3,e4,k2,AV.aa,en,t5,q1,q2,cP];exact⟨I3,by rw[Hr,ip],by rw[LN,il],R3⟩;simp[tp,t1,rU,cut,qd',t4,e3,e4,k2,AV.aa,en,t5,q1,cP];exact⟨I3,by rw[Hr,ip],by rw[LN,il],R3⟩;rw[if_neg q]at hp;have q1:(fE c f1 (dm r1)).2.e=0:=Decidable.byContradiction λc=>q (.inl c);have q2:¬(fE c f1 (dm r1)).1=0:=λc=>q (.inr c);obtain⟨s4,I4,t6,ip4,il4,R4⟩:=fM H s.bd R3 hwb (by rw[v1];exact hrb) ans G2 (by omega);have et3:ji I3=ji I:=by unfold ji;rw[LN,il]
  rw[et3,Hr,ip,tp,hBD]at t6;obtain⟨g4,_,v4⟩:=xT H.gS s.bd 0 ((fE c f1 (dm r1)).2,f1) G2;have anu:=Am H.oS s.bd ((fE c f1 (dm r1)).2,f1);have aiy:=anu.st;have iF:=ih (k,m8 fS s.bd ((fE c f1 (dm r1)).2,f1),I4,s4) ⟨hp,by rw[ip4,Hr,ip],by rw[il4,LN,il],R4,g4,by rw[v4];exact v1,by simp only at aiy ⊢;omega,by simp only at aiy ⊢;omega⟩ (by simp);simp only at iF;generalize fE c f1 (dm r1)=y at *;rw[tp]at iF;simp[tp,t1,rU,cut,qd',t4,e3,e4,k2,b2,AV.aa,en,t5,t6,q1,q2];exact iF;rw[if_neg ho]at R2;have So:tg C r1=false:=by cases hh:tg C r1 with|false=>rfl|true=>exact absurd hh ho
  rw[So]at t4;have ex:fA C fE fS c s.bd k (r1,f1)=(stop r1,f1):=by
   cases k with
   |zero=>unfold fA;rw[if_neg qd]|succ k=>unfold fA;rw[if_neg qd,if_neg ho]
  rw[ex]at hp;rw[<-hp];simp[tp,t1,rU,cut,qd',t4,lR];exact⟨I1,ip,il,R2⟩
 exact⟨st',I',h1,h2⟩
end Bp
namespace Bp
open Ax Go bX V7 lf mG zj K9 S9
variable {T:Px}{C:Cx}{D:Dm}{n:Nat}{fE:E->Fm->Rs->Int×Rs}{fS:Sm->Rs×Fm->Rs×Fm}{J:Nat}{L:List Fm}{r:Rs}{I:Hq}{st st':ai}{f:Fm}
theorem LP(X:List Int)(k:Nat)(v:Int):(bp X).set k [.int .i64 v]=bp (X.set k v):=by simp[bp,List.map_set]
theorem Pr(h:jm T J (f::L) r I st){ref:Int}(h1:ref<f.vs.length)(h2 : -1-ref<r.g.length)(hb:r.g.length<1000000) :
  ∃j k X,(∀wl li,(aT S).call wl li 101 [.ptr I.p 0 0 0,.ptr (ji I) 0 0 0,.int .i64 ref] st=some (.ptr j 0 k 0,st))/\st[j]?=some (.rows 0 1 (bp X))/\k<X.length/\
   ∀v,jm T J ((bt (r,f) ref v).2::L) (bt (r,f) ref v).1 I (st.set j (.rows 0 1 (bp (X.set k v)))):=by
 obtain⟨a,b,ha,t1,t2,t3,t4,t5,t6,t7⟩:=h.top;have et:ji I=a.1:=by unfold ji;rw[ha]
 rw[et];by_cases q:ref<0;obtain⟨k,rfl⟩:∃k:Nat,ref = -1-(k:Int):=⟨(-1-ref).toNat,by omega⟩;have hk:k<r.g.length:=by omega
 refine⟨I.g,k,r.g,λwl li=>aaY wl li h _ hk hb,h.G,hk,λv=>?_⟩;have e:(-1-(-1-(k:Int))).toNat=k:=by omega
 unfold bt;rw[if_pos q,e];exact h.anm _;obtain⟨k,rfl⟩:∃k:Nat,ref=(k:Int):=⟨ref.toNat,by omega⟩;have hk:k<f.vs.length:=by omega
 refine⟨a.2,k,f.vs,λwl li=>aaZ wl li h ha hk,t2,hk,λv=>?_⟩;unfold bt;rw[if_neg q];refine h.VL ha (λi h1 h2=>List.getElem?_set_ne λe=>h2 e.symm) ?_ ?_;rw[List.getElem?_set_ne λe=>t4 e.symm];exact t1;rw[List.getElem?_set_self (lS t2)];rfl
theorem ta(K:Prg T C D){N:Nat}{gS:Sm->Rs×Fm->Rs×Fm}(hgS:∀s x,gS s x=if s.k=1 then x else if s.k=6 then fA C fE fS (zk s.es) s.bd N x else if tg C x.1=true/\N≠0 then kM fE fS s (dm x.1,x.2) else (stop x.1,x.2))
  (HN:∀n,N=n+1->Hy T C D n fE fS):PS T C D N gS:=by
 intro J L r I st f s h hw hr eI hG hn;rw[hgS];have e1:aR (bf s.es)=true:=bP;have e2:(bf s.es).aa=bf s.es:=bS;have b1:aR (bF s.bd)=true:=bN;have b2:(bF s.bd).aa=bF s.bd:=bQ;have l1:aR (bF s.el)=true:=bN;have l2:(bF s.el).aa=bF s.el:=bQ;have hse:=Sm.sY s;rw[Pj]at hw;rw[vr]at hr;obtain⟨⟨⟨k1,k9⟩,kg,kl,kp,kr⟩,we,wb,wl⟩:=hw;obtain⟨re,rv,rg,rb,rl⟩:=hr;by_cases c1:s.k=1;rw[if_pos c1];refine⟨st,I,?_,rfl,rfl,h⟩;rw[Sm.aB];refine an (sf:=QX) rfl rfl rfl ?_;generalize bf s.es=ES at *;generalize bF s.bd=BD at *;generalize bF s.el=EL at *;simp[QX,e1,b1,l1,ir.b8,AV.aa,c1];rw[if_neg c1];by_cases c6:s.k=6;rw[if_pos c6];obtain⟨c,mO⟩:∃c,s.es=[c]:=by
  have:=kl (by omega);match hh:s.es,this with
  |[c],_=>exact⟨c,rfl⟩
 have hc:zk s.es=c:=by rw[mO];rfl
 rw[hc];have N5:E.sz c<1000000000:=by have:=E.cR (l:=s.es) (e:=c) (by rw[mO];simp);omega
 obtain⟨s1,I1,t1,ip,il,R1⟩:=Zu K HN s c mO h (by rw[mO]at we;exact we.1) wb (by rw[mO]at re;exact re.1) rb N5 (by omega) hG hn;refine⟨s1,I1,?_,ip,il,R1⟩;rw[Sm.aB]at t1 ⊢;refine an (sf:=QX) rfl rfl rfl ?_;generalize bf s.es=ES at *;generalize bF s.bd=BD at *;generalize bF s.el=EL at *;simp only[c6]at t1;simp[QX,e1,e2,b1,b2,l1,l2,ir.b8,AV.aa,c6,t1];rw[if_neg c6];obtain⟨s1,ls1,t1,R1⟩:=zM h (by have:=K.fu;omega) C K.eC;by_cases ho:tg C r=true
 ·rw[if_pos ho]at R1;rw[ho]at t1;obtain⟨n,rfl⟩:∃n,N=n+1:=⟨N-1,by have:=(Ao.1 ho).2;omega⟩;have H:=HN n rfl;rw[if_pos ⟨ho,by omega⟩];have G1:Gd C 1 (dm r):=hG.dm ho;have G0:Gd C 0 (dm r):=G1.u0 (by omega);have hn1:C.eC<=(dm r).cZ+n:=by show C.eC<=r.cZ+1+n;omega
  have hte:(dm r).e=0:=(Ao.1 ho).1;by_cases c4:s.k=4;obtain⟨a,b,mO,sH⟩:=kp c4;rw[mO]at we re;have anv:(a.k=5/\a.ay.length=1)\/(a.k=6/\a.ay.length=2):=by
   have:=(Ph a).1 we.1;obtain⟨⟨_,_,q1,q2,_⟩,_⟩:=this;rcases sH with q|q;exact .inl ⟨q,q1 (.inl q)⟩;exact .inr ⟨q,q2 (.inl q)⟩
  have hwk:WL D (a.ay++[b]):=by
   rw[Bo];intro e he;rcases List.mem_append.1 he with he|he;exact(Bo _).1 ((Ph a).1 we.1).2 e he;rw[List.mem_singleton.1 he];exact we.2.1
  have yc:x9 f.vs.length (a.ay++[b]):=by
   rw[kJ];intro e he;rcases List.mem_append.1 he with he|he;exact(kJ _ _).1 ((xO _ a).1 re.1).2 e he;rw[List.mem_singleton.1 he];exact re.2.1
  have hzk:E.ey (a.ay++[b])<1000000000:=by
   have q1:E.ey s.es=E.sz a+E.sz b:=(by rw[mO];simp[E.ey]);have q2:=E.vp a;have q3:E.ey (a.ay++[b])=E.ey a.ay+E.sz b:=by
    generalize a.ay=l;induction l with
    |nil=>simp[E.ey]|cons x l ih=>simp[E.ey,ih];omega
   omega
  obtain⟨s2,I2,t2,ip,il,R2⟩:=DO K H s a b mO anv R1 hwk yc hzk G0 hn1 hte;have ex:kM fE fS s (dm r,f)=match vals fE f (a.ay++[b]) (dm r) with|(none,r)=>(r,f)|(some l,r)=>Ak (r,f) a.k a.ref l:=by
   unfold kM;rw[if_pos c4];have q1:zk s.es=a:=(by rw[mO];rfl);have q2:s.es.drop 1=[b]:=(by rw[mO];rfl);rw[q1,q2]
   rfl
  have ex2:(kM fE fS s (dm r,f)).2=f:=by
   rw[ex];split
   rfl
   unfold Ak;split<;>rfl
  rw[ex2];rw[ex];refine⟨s2,I2,?_,ip,il,R2⟩;rw[Sm.aB]at t2 ⊢;refine an (sf:=QX) rfl rfl rfl ?_;generalize bf s.es=ES at *;generalize bF s.bd=BD at *;generalize bF s.el=EL at *;simp only[c4]at t2;simp[QX,e1,e2,b1,b2,l1,l2,ir.b8,AV.aa,c4,t1,t2];obtain⟨s2,I2,t2,ip,il,R2⟩:=Jn H s.es R1 we re (by omega) G0 hn1;have Rx:=xS H.oE f s.es (dm r);have G2:=(vA H.gE f s.es 1 (dm r) G1).1;cases hv:vals fE f s.es (dm r) with
  |mk o r2=>
  have hlen:∀l,o=some l->l.length=s.es.length:=λl hl=>As (by rw[hv,hl]);have he0:∀l,o=some l->r2.e=0:=λl hl=>De (fE:=fE) (f:=f) s.es (dm r) hte l r2 (by rw[hv,hl]);rw[hv]at t2 R2 Rx G2;simp only at R2 Rx G2;cases o with
  |none=>
   have ex:kM fE fS s (dm r,f)=(r2,f):=by
    unfold kM;rw[if_neg c4];simp only[hv]
   rw[ex];refine⟨s2,I2,?_,ip,il,R2⟩;rw[Sm.aB];simp only[Ar]at t2;refine an (sf:=QX) rfl rfl rfl ?_;generalize bf s.es=ES at *;generalize bF s.bd=BD at *;generalize bF s.el=EL at *;simp[QX,e1,e2,b1,l1,ir.b8,AV.aa,c1,c4,c6,t1,t2]
  |some l=>
   have ex:kM fE fS s (dm r,f)=nW fS s.k s.ref s.bd s.el l (r2,f):=by
    unfold kM;rw[if_neg c4];simp only[hv]
   rw[ex];have hl:=hlen l rfl;have Ww:=he0 l rfl;have gi:=Rx.st;have hP:=R2.P;have Pa:=G2.g;have et:ji I2=ji I:=(by unfold ji;rw[il]);rw[ip]at hP;have m1:aR (cC 1 (bp l))=true:=dz;have m2:(cC 1 (bp l)).aa=aK 1 (bp l):=rfl;have m3:aR (aK 1 (bp l))=true:=bL;have m4:(aK 1 (bp l)).aa=aK 1 (bp l):=bO;have m5:bg (aK 1 (bp l))=bp l:=aZ;have m6:dg 1 (aK 1 (bp l))=true:=fZ (by simp[bV,bp]);have m7:(cC 1 (bp l)).au=true:=by unfold cC;cases bp l<;>rfl
   suffices h:∃v' st',(aT S).call 0 J 78 [.ptr I.p 0 0 0,.ptr (ji I) 0 0 0,.agg s.aG] st=some (v',st')/\v'=.fF []/\∃I',I'.p=I.p/\I'.fl=I.fl/\jm T J ((nW fS s.k s.ref s.bd s.el l (r2,f)).2::L) (nW fS s.k s.ref s.bd s.el l (r2,f)).1 I' st' by
    obtain⟨v',st',h1,rfl,I',h2⟩:=h;exact⟨st',I',h1,h2⟩
   rw[Sm.aB];refine qE (sf:=QX) rfl rfl rfl ?_;simp only[Ar]at t2;generalize bf s.es=ES at *;generalize hBD:bF s.bd=BD at *;generalize hEL:bF s.el=EL at *;generalize cC 1 (bp l)=MV at *;generalize aK 1 (bp l)=LV at *;simp[QX,e1,e2,b1,l1,ir.b8,AV.aa,c1,c4,c6,t1,t2,m2];by_cases c2:s.k=2;obtain⟨a,rfl⟩:∃a,l=[a]:=⟨_,Jo (by rw[hl];exact kl (by omega))⟩;have ep:nW fS s.k s.ref s.bd s.el [a] (r2,f)=bt (r2,f) s.ref a:=(by simp[nW,c2,r9]);rw[ep];have Od:=K.gl;have rvv:=rv (by omega);obtain⟨j,k,X,v1,v2,v3,v4⟩:=Pr R2 (ref:=s.ref) rvv.2 (by omega) (by rw[Pa,K.ng];exact Od);rw[et,ip]at v1;have v5:=v4 a;rw[<-LP]at v5;have m5':bg LV=[[.int .i64 a]]:=(by rw[m5];rfl);have hkX:k<(bp X).length:=(by simpa using v3);simp[c2];rw[zO];simp[eH,jx,dV,bD,ir.b8,ah,cut,bq,AV.af,AV.au,v1,v2,v3,m5',m6];refine⟨_,_,⟨rfl,rfl⟩,?_⟩;simp[ck,AV.cJ,AV.aa,eO.jF,AV.jF,AV.vY,AV.uF,m5',m6,lR];exact⟨I2,ip,il,v5⟩;by_cases c3:s.k=3;obtain⟨a,rfl⟩:∃a,l=[a]:=⟨_,Jo (by rw[hl];exact kl (by omega))⟩;have ep:nW fS s.k s.ref s.bd s.el [a] (r2,f)=bt (r2,f) s.ref a:=(by simp[nW,c3,r9]);rw[ep];have Od:=K.gl;have rvv:=rg c3;obtain⟨j,k,X,v1,v2,v3,v4⟩:=Pr R2 (ref:=s.ref) rvv (by rw[Pa,K.ng];exact kg c3) (by rw[Pa,K.ng];exact Od);rw[et,ip]at v1;have v5:=v4 a;rw[<-LP]at v5;have m5':bg LV=[[.int .i64 a]]:=(by rw[m5];rfl);have hkX:k<(bp X).length:=(by simpa using v3);simp[c3];rw[zO];simp[eH,jx,dV,bD,ir.b8,ah,cut,bq,AV.af,AV.au,v1,v2,v3,m5',m6];refine⟨_,_,⟨rfl,rfl⟩,?_⟩;simp[ck,AV.cJ,AV.aa,eO.jF,AV.jF,AV.vY,AV.uF,m5',m6,lR];exact⟨I2,ip,il,v5⟩;by_cases c5:s.k=5;obtain⟨a,rfl⟩:∃a,l=[a]:=⟨_,Jo (by rw[hl];exact kl (by omega))⟩;by_cases a0:a=0;have ep:nW fS s.k s.ref s.bd s.el [a] (r2,f)=m8 fS s.el (r2,f):=(by simp[nW,c5,r9,a0]);rw[ep];obtain⟨s3,I3,t3,Hr,LN,R3⟩:=fM H s.el R2 wl rl (by omega) (G2.u0 (by omega)) (by omega);rw[et,ip,hEL]at t3;simp[c5,lR,m5,m6,bp,a0,l2,t3];exact⟨I3,by rw[Hr,ip],by rw[LN,il],R3⟩;have ep:nW fS s.k s.ref s.bd s.el [a] (r2,f)=m8 fS s.bd (r2,f):=(by simp[nW,c5,r9,a0]);rw[ep];obtain⟨s3,I3,t3,Hr,LN,R3⟩:=fM H s.bd R2 wb rb (by omega) (G2.u0 (by omega)) (by omega);rw[et,ip,hBD]at t3;simp[c5,cP,m5,m6,bp,a0,b2,t3];exact⟨I3,by rw[Hr,ip],by rw[LN,il],R3⟩;by_cases c7:s.k=7;obtain⟨WR,c2',hc,g1,g2,g3,g4,g5,g6,g7⟩:=R2.top;have tp:ji I=WR.1:=(by rw[<-et];unfold ji;rw[hc]);have bw:=lS g1;have F1:=R2.VL (f':={ f with done:=true }) (st':=s2.set WR.1 (.rows 0 3 [rU { f with done:=true } WR.2])) hc (λi q1 q2=>List.getElem?_set_ne λe=>q1 e.symm) (List.getElem?_set_self bw) (by rw[List.getElem?_set_ne g4];exact g2);match l,hl with
   |[],hl=>
    have ep:nW fS s.k s.ref s.bd s.el [] (r2,f)=(r2,{ f with done:=true }):=(by simp[nW,c7]);rw[ep];simp[c7,ah,lR,tp,g1,rU,bq,AV.af,AV.au,m3,m4,m5];exact⟨I2,ip,il,F1⟩
   |a::l',hl=>
    have ep:nW fS s.k s.ref s.bd s.el (a::l') (r2,f)=(r2,{ f with done:=true,res:=a }):=(by simp[nW,c7,r9]);rw[ep];have F2:=R2.VL (f':={ f with done:=true,res:=a }) (st':=s2.set WR.1 (.rows 0 3 [rU { f with done:=true,res:=a } WR.2])) hc (λi q1 q2=>List.getElem?_set_ne λe=>q1 e.symm) (List.getElem?_set_self bw) (by rw[List.getElem?_set_ne g4];exact g2);have hgs:∀y,(s2.set WR.1 y)[WR.1]?=some y:=λy=>List.getElem?_set_self bw;have zi:∀y z,(s2.set WR.1 y).set WR.1 z=s2.set WR.1 z:=λy z=>List.set_set ..
    simp[c7,ah,lR,tp,g1,rU,cut,bq,AV.af,AV.au,m3,m4,m5,m6,bp,hgs,zi];exact⟨I2,ip,il,F2⟩
   by_cases c8:s.k=8;obtain⟨a,rfl⟩:∃a,l=[a]:=⟨_,Jo (by rw[hl];exact kl (by omega))⟩;have m5':bg LV=[[.int .i64 a]]:=(by rw[m5];rfl);have ep:nW fS s.k s.ref s.bd s.el [a] (r2,f)=({ r2 with out:=r2.out++[a] },f):=(by simp[nW,c8,r9]);rw[ep];have anx:=lS hP;have iR:r2.out++[a]≠[]:=(by simp);have Qp:r2.out.length<1000000:=(by have:=G2.o;have:=G2.st;have:=K.eC;have:=K.fu;omega);by_cases h0:r2.out=[];have hpp:I2.p=I.p:=ip;obtain⟨s3,Pq⟩:∃s,s=s2++[.rows 0 1 (bp [a])]:=⟨_,rfl⟩;have P3:s3[I.p]?=some (.rows 0 14 [kN T I2.s I2.iv I2.g r2.nf r2.e r2.code (sv r2 I2) r2.cZ]):=(by rw[Pq,List.getElem?_append_left anx];exact hP);have Bn:jm T J (f::L) { r2 with out:=r2.out++[a] } { I2 with o:=s2.length,ov:=0,qH:=λj=>if j=s2.length then .o else I2.qH j } (s3.set I.p (.rows 0 14 [kN T I2.s I2.iv I2.g r2.nf r2.e r2.code (.mu s2.length 0) r2.cZ])):=by
    refine R2.Po iR (.inr (Nat.le_refl _)) (λj hj hp _=>?_) ?_ ?_;rw[List.getElem?_set_ne (by rw[<-ip];exact λe=>hp e.symm),Pq,List.getElem?_append_left hj];rw[ip];exact List.getElem?_set_self (lS P3);rw[List.getElem?_set_ne (by omega),Pq,h0];simp
   have ho:sv r2 I2=.U:=(by unfold sv;rw[if_pos h0]);rw[ho]at hP P3;simp only[kN]at hP P3 Bn;have q3:s2++[.rows 0 1 [[.int .i64 a]]]=s3:=Pq.symm;have hrm:(8:Nat)<=dx:=(by unfold dx;omega);simp[c8,ah,hP,cut,m5',m6,aF,aC,cV,dD,bV,hrm,q3,P3,bq,AV.af,AV.au,lR,h.Jl];exact⟨_,by exact ip,by exact il,Bn⟩;have hO:=R2.O h0;have hoo:=R2.lo h0;have hpo:I.p≠I2.o:=(by rw[<-ip];exact NL R2.lp hoo (by decide));have hlo:=R2.low _ (show I2.qH I2.o≠.no by rw[hoo];decide);obtain⟨s3,Pq⟩:∃s,s=s2.set I2.o (.rows (I2.ov+1) 1 (bp (r2.out++[a]))):=⟨_,rfl⟩;have P3:s3[I.p]?=some (.rows 0 14 [kN T I2.s I2.iv I2.g r2.nf r2.e r2.code (sv r2 I2) r2.cZ]):=(by rw[Pq,List.getElem?_set_ne hpo.symm];exact hP);have Bn:jm T J (f::L) { r2 with out:=r2.out++[a] } { I2 with o:=I2.o,ov:=I2.ov+1,qH:=λj=>if j=I2.o then .o else I2.qH j } (s3.set I.p (.rows 0 14 [kN T I2.s I2.iv I2.g r2.nf r2.e r2.code (.mu I2.o (I2.ov+1)) r2.cZ])):=by
    refine R2.Po iR (.inl ⟨h0,rfl⟩) (λj hj hp hq=>?_) ?_ ?_;rw[List.getElem?_set_ne (by rw[<-ip];exact λe=>hp e.symm),Pq,List.getElem?_set_ne λe=>hq h0 e.symm];rw[ip];exact List.getElem?_set_self (lS P3);rw[List.getElem?_set_ne hpo,Pq];exact List.getElem?_set_self (lS hO)
   have ho:sv r2 I2=.mu I2.o I2.ov:=(by unfold sv;rw[if_neg h0]);rw[ho]at hP P3;simp only[kN]at hP P3 Bn;have q2:bp r2.out++[[.int .i64 a]]=bp (r2.out++[a]):=(by simp[bp]);have hrm:(r2.out.length+1)*8<=dx:=(by unfold dx;omega);simp[c8,ah,hP,hO,cut,m5',m6,aF,aC,cV,dD,bV,hrm,q2,Pq.symm,P3,bq,AV.af,AV.au,lR,h.Jl];exact⟨_,by exact ip,by exact il,Bn⟩;have ep:nW fS s.k s.ref s.bd s.el l (r2,f)=(r2,f):=(by simp[nW,c2,c3,c5,c7,c8]);rw[ep];simp[c2,c3,c5,c7,c8,lR];exact⟨I2,ip,il,R2⟩
 rw[if_neg ho]at R1;have hof:tg C r=false:=by cases hh:tg C r with|false=>rfl|true=>exact absurd hh ho
 rw[hof]at t1;rw[if_neg (λq=>ho q.1)];refine⟨s1,I,?_,rfl,rfl,R1⟩;rw[Sm.aB];refine an (sf:=QX) rfl rfl rfl ?_;generalize bf s.es=ES at *;generalize bF s.bd=BD at *;generalize bF s.el=EL at *;simp[QX,e1,b1,l1,ir.b8,AV.aa,c1,c6,t1]
end Bp
namespace Bp
open Ax Go bX V7 lf mG zj K9 S9
variable {T:Px}{C:Cx}{D:Dm}
theorem aa7(K:Prg T C D):∀n,Hy T C D n (ev C n).1 (ev C n).2
 |0=>by
  refine⟨(LJ 0).1,(LJ 0).2,(Ho 0).1,(Ho 0).2,?_,?_⟩;exact jH (fE:=λ_ _ r=>(0,stop r)) (fS:=λ_ x=>x) K (N:=0) (λ_ _ _ _=>rfl) (λ_ _ _ _ h=>absurd rfl h) (λn h=>by cases h);refine ta (fE:=λ_ _ r=>(0,stop r)) (fS:=λ_ x=>x) K (N:=0) (λs x=>?_) (λn h=>by cases h);show (if s.k=1 then x else if s.k=6 then fA C (λ_ _ r=>(0,stop r)) (λ_ x=>x) (zk s.es) s.bd 0 x else (stop x.1,x.2):Rs×Fm)=_;simp
 |n+1=>by
  have ih:=aa7 K n;refine⟨(LJ (n+1)).1,(LJ (n+1)).2,(Ho (n+1)).1,(Ho (n+1)).2,?_,?_⟩;refine jH (fE:=(ev C n).1) (fS:=(ev C n).2) K (N:=n+1) (λe f r h=>?_) (λe f r h _=>?_) (λm h=>by cases h;exact ih);show (if tg C r=true then mK C (ev C n).1 (ev C n).2 e f (dm r) else (0,stop r):Int×Rs)=_;rw[if_neg (by rw[h];simp)];show (if tg C r=true then mK C (ev C n).1 (ev C n).2 e f (dm r) else (0,stop r):Int×Rs)=_;rw[if_pos h];refine ta (fE:=(ev C n).1) (fS:=(ev C n).2) K (N:=n+1) (λs x=>?_) (λm h=>by cases h;exact ih);show (if s.k=1 then x else if s.k=6 then fA C (ev C n).1 (ev C n).2 (zk s.es) s.bd (n+1) x
   else if tg C x.1=true then kM (ev C n).1 (ev C n).2 s (dm x.1,x.2) else (stop x.1,x.2):Rs×Fm)=_
  simp
end Bp
namespace Bp
open Ax Go bX V7 lf mG zj K9 S9
theorem yz{wl:Nat}:∀(l:List Int)(st:ai),kE wl (bp l) st=some (bp l,st)
 |[],st=>rfl|n::l,st=>by
  have ih:=yz (wl:=wl) l st;simp only[bp,List.map_cons]at *;simp[kE,ki,qo,AV.au,AV.aa,ih]
def nc(l:List Int):AV:=if l=[] then .U else .dc 1 (bp l)
theorem Zv{T:Px}{J:Nat}{L:List Fm}{r:Rs}{I:Hq}{st:ai}(h:jm T J L r I st):∃st',qp 0 (sv r I) st=some (nc r.out,st')/\st'[I.p]?=st[I.p]?/\st'.length=st.length:=by
 unfold nc sv;by_cases q:r.out=[];rw[if_pos q,if_pos q];exact⟨st,rfl,rfl,rfl⟩;rw[if_neg q,if_neg q];have hO:=h.O q;have iR:(bp r.out).isEmpty=false:=by
  cases hq:r.out with
  |nil=>exact absurd hq q|cons a b=>rfl
 have hpo:I.o≠I.p:=NL (h.lo q) h.lp (by decide);refine⟨st.set I.o (.rows (I.ov+1) 1 []),?_,List.getElem?_set_ne hpo,by simp⟩;show iI 0 (.mu I.o I.ov) st=_;simp only[iI,hO,iR,yz];simp
theorem Hs(l:List Int):(nc l).au=true:=by
 unfold nc;split<;>rfl
def vW(r:Rs):AV:=.agg [.int .i64 r.e,.int .i64 r.code,nc r.out,.int .i64 r.cZ]
theorem Rz(r:Rs):(vW r).au=true:=by simp only[vW,AV.au,AV.af,Hs,Bool.and_self]
def Au(H:Hd)(bs:List Bd)(eC:Nat):Cx:=⟨eC,H.bZ.map (·.2.length),bs,H.aH.length⟩
def E6:Rs:=⟨[],[],[],0,0,0,[],0⟩
def E7(p:Pg)(qG:List Int)(eC:Nat):Rs:=match tf p with
 |some _=>E6|none=>match pM (aU p) (aU p).cu p.funcs with
  |.error _=>E6|.ok bs=>run (Au (aU p) bs eC) (eP p) qG
def anz(j:Nat):Lb:=if j=0 then .st else if j=1 then .p else if j=2 then .g else .no
open N7 U7 in
theorem Nh(p:Pg){qG:AV}(hi:u7 qG=true)(iz:jy qG=true)(eC:Int)(hfu:eC<1000000)
  (hg:(jX p).ok)(HZ:GD.sm (jX p))(eI:∀f∈p.funcs,f.params.length+Sm.ey f.body<1000000000)
  (B4:∀bs,pM (aU p) (aU p).cu p.funcs=.ok bs->∀b∈bs,Sm.ey b.code<1000000000/\b.vars.length<1000000000)
  (hK:∀bs,tf p=none->pM (aU p) (aU p).cu p.funcs=.ok bs->Prg ⟨aU p,eP p,bs,eC.toNat⟩ (Au (aU p) bs eC.toNat) (yb (aU p))/\0<=eP p/\(eP p).toNat<bs.length)
  (wl li:Nat) (st:ai) :
  (aT S).call wl li 12 [.agg p.aG,qG,.int .i64 eC] st=some (vW (E7 p (dI qG) eC.toNat),st):=by
 have ec:=λwl J st=>K9.LF wl J p st hg HZ eI;have es:=λwl J st=>Y8 wl J p st hg HZ eI B4;have hs:=tL hi;have hv:=nq iz hs;have hpi:=cm hs;have nw:=λwl li st=>Df.ad5 wl li st;refine bn (sf:=s12) rfl rfl (by simp[Pg.aG,AV.af,AV.au,hpi]) rfl (Rz _) ?_;unfold Bm at ec;unfold E7;have r1:aR (aK 3 (p.bz.map Rc.aG))=true:=bL;have r2:(aK 3 (p.bz.map Rc.aG)).aa=aK 3 (p.bz.map Rc.aG):=bO;have f1:aR (aK 7 (p.funcs.map Fc.aG))=true:=bL;have f2:(aK 7 (p.funcs.map Fc.aG)).aa=aK 7 (p.funcs.map Fc.aG):=bO;have g1:aR (aK 4 (p.aH.map PD.cells))=true:=bL;have g2:(aK 4 (p.aH.map PD.cells)).aa=aK 4 (p.aH.map PD.cells):=bO;simp only[Pg.aG]at ec es ⊢;generalize aK 3 (p.bz.map Rc.aG)=PR at *;generalize aK 7 (p.funcs.map Fc.aG)=PF at *;generalize aK 4 (p.aH.map PD.cells)=PG at *;cases hF:lO (jX p) with
 |some a=>
  have hso:tf p=some a:=by unfold tf;rw[hF]
  rw[hF]at ec;rw[hso];simp only[vW,E6,nc]at ec ⊢;simp[s12,ec,r1,r2,f1,f2,g1,g2,ah,AV.aa,ck,cut]
 |none=>
  rw[hF]at ec;simp only at ec ⊢;cases hR:pM (aU p) (aU p).cu p.funcs with
  |error a=>
   have hso:tf p=some a:=(by unfold tf;rw[hF];simp only[hR]);rw[hR]at ec;rw[hso];simp only[vW,E6,nc,Je]at ec ⊢;simp[s12,ec,r1,r2,f1,f2,g1,g2,ah,AV.aa,ck,cut]
  |ok bs=>
   rw[hR]at ec;simp only[Je,td,List.cons_append,List.nil_append]at ec ⊢;cases hO:tf p with
   |some a=>
    rw[hO]at es;simp only[vW,E6,nc,LI]at es ⊢;simp[s12,ec,es,r1,r2,f1,f2,g1,g2,ah,AV.aa,ck,cut,cE,cX]
   |none=>
    rw[hO]at es;simp only[LI,cE,cX]at es;obtain⟨K,hm0,hmb⟩:=hK bs hO hR;have hrm:((aU p).aH.length:Int)*8<=dx:=(by have:=K.gl;unfold dx;show ((yb (aU p)).ng:Int)*8<=_;omega);have u1:aR (cM (aU p).aH)=true:=ig;have u2:(cM (aU p).aH).aa=cM (aU p).aH:=iQ;have u3:bg (cM (aU p).aH)=(aU p).aH.map Vd.aG:=aZ;have a1:aR (aK 2 ((aU p).bZ.map gV))=true:=bL;have a2:(aK 2 ((aU p).bZ.map gV)).aa=aK 2 ((aU p).bZ.map gV):=bO;have b1:aR (aK 6 ((aU p).cu.map Sg.aG))=true:=bL;have b2:(aK 6 ((aU p).cu.map Sg.aG)).aa=aK 6 ((aU p).cu.map Sg.aG):=bO;have z1:aR (aK 3 (bs.map Bd.aG))=true:=bL;have z2:(aK 3 (bs.map Bd.aG)).aa=aK 3 (bs.map Bd.aG):=bO;simp[s12,ec,es,r1,r2,f1,f2,g1,g2,ah,AV.aa,ck,cut];rw[zO];have hrc:∀n rows,(AV.raw n rows).cells=[.raw n rows]:=λ_ _=>rfl;obtain⟨n,hn⟩:∃n:Nat,eC.toNat=n:=⟨_,rfl⟩;rw[hn]at K;rw[hn];have hmx:(if eC<0 then 0 else eC)=(n:Int):=(by split<;>omega);have hri:∀n rows,(AV.raw n rows).cL=true:=λ_ _=>rfl;have dG:List.replicate (aU p).aH.length [AV.int .i64 0]=bp (List.replicate (aU p).aH.length 0):=(by simp[bp]);generalize hHS:aK 2 ((aU p).bZ.map gV)=HS at *;generalize hHG:aK 6 ((aU p).cu.map Sg.aG)=HG at *;generalize hGL:cM (aU p).aH=GL at *;generalize hBV:aK 3 (bs.map Bd.aG)=BV at *;simp[eH,jx,dV,bD,ir.b8,hs,u1,u2,u3,a1,a2,b1,b2,z1,z2,nw,hrm,hrc,hri,hmx,dG,AV.af,AV.au,ah];refine⟨_,_,⟨rfl,rfl⟩,?_⟩;simp[eO.jF,AV.jF,u1,u3];rw[M5];refine⟨1,0,0,0,_,.mu 2 0,_,_,rfl,rfl,rfl,rfl,?_⟩;subst hHS hHG hGL hBV;have R0:jm ⟨aU p,eP p,bs,n⟩ 0 [] (r0 (Au (aU p) bs n) (dI qG)) ⟨1,0,0,0,2,0,0,[],[],anz,qG⟩ [.rows 0 1 [[.U]],.rows 0 14 [kN ⟨aU p,eP p,bs,n⟩ 0 qG 2 0 0 0 .U 0],.rows 0 1 (bp (List.replicate (aU p).aH.length 0))]:=by
     refine⟨rfl,⟨hi,iz,rfl⟩,?_,rfl,trivial,λe=>absurd rfl e,rfl,rfl,λe=>absurd rfl e,rfl,λe=>absurd rfl e,by simp,by simp[sw],by simp[sw],λ_ _=>Nat.zero_le _⟩;exact⟨rfl,by simp[r0],λe=>absurd rfl e,λk hk=>by simp at hk,λe=>absurd rfl e,by simp,λe=>absurd rfl e,by simp⟩
    have H:=aa7 K (Au (aU p) bs n).eC;have G0:Gd (Au (aU p) bs n) 0 (r0 (Au (aU p) bs n) (dI qG)):=⟨by simp[r0],by simp[r0],by simp[r0,Au],by simp[r0],by simp[r0]⟩;obtain⟨s1,I1,t1,ip,il,R1⟩:=xD K H (eP p) [] R0 hm0 hmb (by simp) G0 (by simp[r0]);have WN:aK 1 (bp ([]:List Int))=.U:=rfl;rw[WN]at t1;simp only at t1 ip;unfold run;generalize fQ (Au (aU p) bs n) (ev (Au (aU p) bs n) (Au (aU p) bs n).eC).2 (eP p) [] (r0 (Au (aU p) bs n) (dI qG))=y at *;obtain⟨y1,r1⟩:=y;simp only at R1 t1 ⊢;have en:=λwl li=>ux wl li R1;rw[ip]at en;have P1:=R1.P;rw[ip]at P1;simp only[kN]at t1 P1
    push_cast at t1
    obtain⟨s2,AY,R2⟩:∃s2,s2=(if r1.e=0 then s1.set 1 (.rows 0 14 [kN ⟨aU p,eP p,bs,n⟩ I1.s I1.iv I1.g r1.nf 1 r1.code (sv r1 I1) r1.cZ]) else s1)/\jm ⟨aU p,eP p,bs,n⟩ 0 [] (uw r1) I1 s2:=by
     unfold uw;by_cases e0:r1.e=0;rw[if_pos e0,if_pos e0];refine⟨_,rfl,?_⟩;rw[<-ip];exact R1.aG { r1 with e:=1 } I1.iv rfl rfl rfl R1.iv;rw[if_neg e0,if_neg e0];exact⟨_,rfl,R1⟩
    have P2:=R2.P;rw[ip]at P2;obtain⟨s4,o1,o2,o3⟩:=Zv R2;rw[ip]at o2;have l1:1<s4.length:=(by rw[o3];exact lS P2);have P4:=o2.trans P2;have ov:=Hs (uw r1).out;have ow:(nc (uw r1).out).aa=nc (uw r1).out:=(by unfold nc;split<;>rfl);have oc:(nc (uw r1).out).cL=true:=(by unfold nc;split<;>rfl);obtain⟨s5,Zr⟩:∃s,s=s4.set 1 (.rows 0 14 [kN ⟨aU p,eP p,bs,n⟩ I1.s I1.iv I1.g (uw r1).nf (uw r1).e (uw r1).code (nc (uw r1).out) (uw r1).cZ]):=⟨_,rfl⟩;have P5:=List.getElem?_set_self (a:=fq.rows 0 14 [kN ⟨aU p,eP p,bs,n⟩ I1.s I1.iv I1.g (uw r1).nf (uw r1).e (uw r1).code (nc (uw r1).out) (uw r1).cZ]) l1;rw[<-Zr]at P5;simp only[kN]at AY P2 P4 P5 Zr;by_cases e0:r1.e=0;rw[if_pos e0]at AY;simp[ah,t1,en,e0,P1,cut,bq,AV.af,AV.au,<-AY];rw[M5];refine⟨1,0,0,0,_,_,s4,s5,rfl,?_,o1,?_,?_⟩;simp[jD,P2,cut];simp[fV,P4,bq,ah,Zr];simp[cut,P5,ow,oc,AV.cJ,ck,ah,vW];rw[if_neg e0]at AY;subst AY;simp[ah,t1,en,e0];rw[M5];refine⟨1,0,0,0,_,_,s4,s5,rfl,?_,o1,?_,?_⟩;simp[jD,P2,cut];simp[fV,P4,bq,ah,Zr];simp[cut,P5,ow,oc,AV.cJ,ck,ah,vW]
end Bp
namespace Bp
open Ax Go bX V7 lf mG zj K9 S9 N7 U7
theorem Ch(s:List UInt8):∀f∈(lQ s).1.funcs,Sm.ey f.body<=6001:=by
 unfold lQ;split;rename_i hl;generalize htp:U2.CE s=z;obtain⟨rows,e⟩:=z;cases e with
 |some e=>intro f hf;cases hf|none=>
  obtain⟨jG,hlen⟩:=I7 htp;obtain⟨x,hx⟩:=pK (mI rows);simp only;rw[hx,Option.getD_some];have hTl:(mI rows).length=rows.length:=by simp[mI]
  intro f hf;have:=Rb hx f hf;omega
 intro f hf;cases hf
theorem aea(p:Pg)(hp:Pg.In 6000 p):∀s∈(aU p).cu,s.ps.length<=7:=by
 intro s hs;obtain⟨f,hf,rfl⟩:=List.mem_map.1 hs;have:=(hp.f.2 f hf).len;simpa [FU,mq] using this
structure VO (p:Pg):Prop where
 inn:Pg.In 6000 p
 GB:∀f∈p.funcs,Sm.ey f.body<=12010
theorem E8(s:List UInt8):VO (lQ s).1:=⟨(Vj s).1,λf hf=>by have:=Ch s f hf;omega⟩
theorem Zw{p:Pg}(h:VO p):∀f∈p.funcs,f.params.length+Sm.ey f.body<1000000000:=λf hf=>by
 have:=h.GB f hf;have:=(h.inn.f.2 f hf).len;omega
theorem E9{p:Pg}(h:VO p):∀bs,pM (aU p) (aU p).cu p.funcs=.ok bs->∀b∈bs,Sm.ey b.code<=12010/\b.vars.length<=24020:=λbs hR b hb=>by
 have qv:=Hf hR h.GB b hb;have Fs:=Lg (n:=12010) (Vu p) hR (λs hs=>((Vu p).cu s hs).2) (λs hs=>by have:=aea p h.inn s hs;omega) h.GB b hb;omega
theorem VP{l:List FN}(h:¬rP l<0):0<=rP l/\(rP l).toNat<l.length:=by
 unfold rP at h ⊢;split;rename_i k hk;have:=List.findIdx?_eq_some_iff_getElem.1 hk;obtain⟨h1,_⟩:=this;exact⟨by omega,by simpa using h1⟩;rename_i hk;rw[hk]at h;simp at h
theorem VQ{p:Pg}(h:VO p){eC:Nat}(hfu:eC<1000000){bs:List Bd}(hS:tf p=none)(hR:pM (aU p) (aU p).cu p.funcs=.ok bs) :
  Prg ⟨aU p,eP p,bs,eC⟩ (Au (aU p) bs eC) (yb (aU p))/\0<=eP p/\(eP p).toNat<bs.length:=by
 have dw:(aU p).cu.length=p.funcs.length:=by simp[aU]
 have Wt:=S9.Jf dw hR;have hrefs:=EK hR;have Gl:=h.inn.f.1;have Od:=h.inn.g.1;have B4:=E9 h bs hR;have hF:lO (jX p)=none:=by
  unfold tf at hS;split at hS;cases hS
  assumption
 have hm:¬eP p<0:=by
  intro q;unfold lO at hF;unfold eP at q;rw[if_pos q]at hF;unfold x8 at hF;split at hF<;>cases hF
 have Oy:=VP hm;refine⟨⟨rfl,hfu,rfl,rfl,rfl,?_,rfl,?_,?_,?_,?_,by show bs.length<_;omega⟩,Oy.1,?_⟩;show (aU p).aH.length<1000000;simp[aU,mq];omega;intro s hs;obtain⟨r,hr,rfl⟩:=List.mem_map.1 hs;have:=(h.inn.r.2 r hr).len;simp[mq];omega;show ((aU p).cu.map (·.ps.length)).length=bs.length;simp[dw,Wt];intro i h1 h2;have h1':i<(aU p).cu.length:=by simpa [yb] using h1
 have:=(hrefs i h1' h2).1;simpa [yb] using this;intro b hb;obtain⟨i,hi,rfl⟩:=List.getElem_of_mem hb;have hi:i<bs.length:=hi;have hw:=VH (by simp[aU,cz]) hR _ hb;have hr:=(hrefs i (by rw[dw];omega) hi).2;have:=B4 _ hb;exact⟨hw,hr,by omega,by omega⟩;have:=Oy.2;rw[show (jz (jX p).funcs).length=p.funcs.length by rw[nV,List.length_map]]at this;show (rP (jz (jX p).funcs)).toNat<bs.length;omega
theorem LQ{p:Pg}(h:VO p){qG:AV}(hi:u7 qG=true)(iz:jy qG=true)(eC:Int)(hfu:eC<1000000)(wl li:Nat)(st:ai) :
  (aT S).call wl li 12 [.agg p.aG,qG,.int .i64 eC] st=some (vW (E7 p (Ax.dI qG) eC.toNat),st):=
 Nh p hi iz eC hfu (ahZ h.inn) (ah0 h.inn) (Zw h) (λbs hR b hb=>by have:=E9 h bs hR b hb;omega) (λbs hS hR=>VQ h (by omega) hS hR) wl li st
def jF(a b:List Int)(k:Nat):Prop:=∀j,j<k->a[j]?=b[j]?
theorem VR{a b:List Int}(h:a.length=b.length)(hs:jF a b a.length):a=b:=by
 apply List.ext_getElem?;intro j;by_cases hj:j<a.length;exact hs j hj;rw[List.getElem?_eq_none (by omega),List.getElem?_eq_none (by omega)]
theorem Zx(wl li:Nat){a b:AV}(ha:u7 a=true)(hb:u7 b=true)(sd:(dI a).length<1000000000)(st:ai):(aT S).call wl li 17 [a,b] st=some (.bool (decide (dI a=dI b)),st):=by
 have sa:=tL ha;have sb:=tL hb;have za:=Ir ha;have zb:=Ir hb;have la:=C3 ha;have lb:=C3 hb;have pa:=cm sa;have pb:=cm sb;refine bn (sf:=s17) rfl rfl (by rw[AV.af,pa,AV.af,pb];rfl) rfl rfl ?_;by_cases hl:(dI a).length=(dI b).length;simp[s17,sa,sb,la,lb,hl];refine bu TR.eq_1 (λk:Nat=>⟨[(0,.val a),(1,.val b),(5,.val (.int .i64 k))],[],[]⟩)
  (λk=>k<=(dI a).length/\jF (dI a) (dI b) k) (λk=>(dI a).length-k) 0 (by simp) ⟨by omega,λ_ h=>by omega⟩ ?_
 intro k ⟨hk,hs⟩ ih;by_cases bw:k<(dI a).length;have ya:k<(dI b).length:=by omega
 have hw:=wk k (by omega);by_cases hq:(dI a)[k]=(dI b)[k];simp[sa,za,zb,la,lb,ya,hl,hq,hw,aF,aC];exact ih (k+1) ⟨by omega,λj hj=>by
  by_cases e:j=k;subst e;rw[List.getElem?_eq_getElem bw,List.getElem?_eq_getElem ya,hq];exact hs j (by omega)⟩ (by omega)
 have iR:¬dI a=dI b:=λe=>hq (by simp only[e]);simp[sa,za,zb,la,lb,ya,hl,hq,iR,aF,aC];have j8:k=(dI a).length:=by omega
 have he:dI a=dI b:=VR hl (j8 ▸ hs);rw[show decide (dI a=dI b)=true from decide_eq_true he];simp[sa,la,bw];have iR:¬dI a=dI b:=λe=>hl (by rw[e]);simp[s17,sa,sb,la,lb,hl,iR]
theorem aec(l:List Int):u7 (nc l)=true/\dI (nc l)=l:=by
 unfold nc;by_cases h:l=[];rw[if_pos h,h];exact⟨rfl,rfl⟩;rw[if_neg h];refine⟨?_,?_⟩;simp[u7,bp,bV];simp only[Ax.dI,bg];exact C2 l
theorem Zy(wl li:Nat)(m m':Rs)(he:m'.e=m.e)(hc:m'.code=m.code)(ho:m'.out=m.out)(hs:m'.cZ=m.cZ)(hl:m.out.length<1000000000)(st:ai):(aT S).call wl li 11 [vW m,vW m'] st=some (.bool true,st):=by
 have e:vW m'=vW m:=by unfold vW;rw[he,hc,ho,hs]
 rw[e];obtain⟨ia,da⟩:=aec m.out;have hi:=λwl li st=>Zx wl li ia ia (by rw[da];exact hl) st;rw[show decide (dI (nc m.out)=dI (nc m.out))=true from decide_eq_true rfl]at hi;have pa:=cm (tL ia);have va:(nc m.out).aa=nc m.out:=by unfold nc;split<;>rfl
 have ca:(nc m.out).cL=true:=by unfold nc;split<;>rfl
 have hp:(vW m).au=true:=by simp only[vW,AV.au,AV.af,pa,Bool.and_self]
 refine bn (sf:=s11) rfl rfl (by rw[AV.af,hp,AV.af,hp];rfl) rfl rfl ?_;unfold vW;generalize nc m.out=A at *;simp[s11,va,ca,hi]
end Bp
