/- Part of a proof. -/
import Derived.Test.YtgblgbgjmgjfkaaGreatM

open List renaming length->Q
open Option renaming some->Z,none->K
open Bool renaming true->Y,false->X
open List renaming take_succ_eq_append_getElem->adB,map_append->afn,map_cons->aaZ,map_nil->afL,any_eq_true->aiG,getElem_take->aoN,getElem_mem->aah
open Int renaming natCast_add->af9,natCast_one->ajP
open Bool renaming false_eq_true->aai
set_option maxRecDepth 100000
set_option maxHeartbeats 4000000
namespace U7
open Ax Go aM V7
theorem Le(C o l s d st)(H:D1 l=Y)(y:Q (pT l)<1000000000):
  (bh S).call C o 133 [l,.agg [.str s,.int .i64 d]] st=Z (.fC [.agg (dz (pT l) s d).1.cells,.bool (dz (pT l) s d).2],st):=by
 have q:=WN H;have h:=Rx H;have g:=ac7 H;refine bu (sf:=Uk) rfl rfl (by simp[dV q]) rfl (by simp[AV.aH,AV.aD]) ?_;by_cases d0:d<0;rw[W4 (.inl d0)];simp[Uk,d0];by_cases D:3<d;rw[W4 (.inr D)];simp[Uk,d0,D];have r:¬(d<0\/3<d):=by omega
 unfold dz;rw[U r];by_cases I:s=[105,110,116];simp[Uk,d0,D,I];by_cases n:s=[98,111,111,108];simp[Uk,d0,D,n];rw[U I,U n];simp[Uk,d0,D,I,n];refine bM Ww.eq_1 (λk:Nat=>⟨[(0,.val l),(3,.fp 0 0),(4,.fp 1 0),(6,.val (.int .i64 k))],[[.str s,.int .i64 d],[.int .i64 0,.int .i64 0,.int .i64 0]],[]⟩)
  (λk=>k<=Q (pT l)/\GQ (λx=>decide (x=s)) (pT l) k) (λk=>Q (pT l)-k) 0 (by simp) ⟨by simp,C2⟩ ?_
 rintro k ⟨w,m⟩ v;by_cases R:k<Q (pT l);have t:=wk k (by omega);by_cases e:(pT l)[k]=s;have j:=aht m R e;have B:¬((k:Int)<0):=by omega
 simp[H,h,g,R,e,j,B,aA,ay];simp[H,h,g,R,e,t,aA,ay];exact v (k+1) ⟨by omega,C3 m R (by simpa using e)⟩ (by omega);have p:k=Q (pT l):=by omega
 have j:=YU (p ▸ m);simp[H,h,g,R,j]
theorem AO(wl ai t st):(bh S).call wl ai 44 [.agg t.cells] st=Z (.bool (lS t),st):=by
 refine bu (sf:=s44) rfl rfl (by simp) rfl (by simp) ?_;unfold lS;by_cases b:t.b=3;simp[s44,b];simp[s44,b]
theorem FL(C g a st):(bh S).call C g 131 [.int .i64 a] st=Z (.agg [.int .i64 3,.int .i64 a],st):=by
 refine bu (sf:=al4) rfl rfl (by simp) rfl (by simp) ?_;simp[al4]
theorem Sr(wl ai)(p:GD)(st)(j:p.ok)(q:Q (eW p.aR)<1000000000):(bh S).call wl ai 87 [.agg p.cells] st=Z (cw 1 (mQ (tj (eW p.aR))),st):=by
 have P:=WU j.aR;have g:=Rz j.aR;have l:=Ry j.aR;have y:=KI j.ax;have z:=Fo j.ax;have F:=WW j.funcs;have n:=RA j.funcs;have h:=j.aR;refine bu (sf:=s87) rfl rfl (by simp[GD.cells,AV.aD,AV.aH,P,y,F]) rfl (by simp) ?_;simp[s87,GD.cells,P,y,F];refine bM acJ.eq_1 (λk:Nat=>⟨[(1,.fp 0 0),(3,.val (cw 1 (mQ (tj ((eW p.aR).take k))))),(4,.val (.int .i64 k))],[[p.aR,p.ax,p.funcs]],[]⟩)
  (λk=>k<=Q (eW p.aR)) (λk=>Q (eW p.aR)-k) 0 (by simp[tj,mQ,xX]) (by simp) ?_
 intro k o I;by_cases R:k<Q (eW p.aR);have m:=wk k (by omega);have H:wS 1 16 (cw 1 (mQ (tj ((eW p.aR).take k)))) [[.str (eW p.aR)[k].name]]=Z (cw 1 (mQ (tj ((eW p.aR).take (k+1))))):=by
  rw[iw (by rfl) (by simp[mQ,tj,dj];omega)];simp only[tj,mQ,adB R,afn,aaZ,afL]
 simp[g,l,h,R,CR.cells,m,H];exact I (k+1) (by omega) (by omega);have D:k=Q (eW p.aR):=by omega
 subst D;simp[P,g,l]
def okJ(o:Bool)(l:List PD)(s:List UInt8)(j:Nat):Bool:=o && !((l.take j).any λq=>decide (q.name=s))
theorem adS{o l s j}(h):okJ o l s (j+1)=(okJ o l s j && !decide (l[j].name=s)):=by
 unfold okJ;rw[adB h,List.any_append];simp[Bool.and_assoc]
def rfV(rs:List (List UInt8))(l:List PD):AV:=.fC [match fF (zo rs) l (Q l) with|some _=>.aF|none=>cw 4 (iy rs l),.agg (D2 (fF (zo rs) l (Q l)))]
theorem rz{g iO}{l:List g}{k y}(h:fF iO l k=Z y):∀m,k<=m->fF iO l m=Z y:=by
 intro m H;induction m with
 |zero=>
  have:k=0:=by omega
  subst this;exact h
 |succ m I=>
  by_cases e:k=m+1;subst e;exact h;show Uv (fF iO l m) _=Z y;rw[I (by omega)];rfl
theorem EA(C m l r st)(B:D1 r=Y)(hn:Q (pT r)<1000000000)(g:IC l=Y)(hpn:Q (o8 l)<1000000000):
  (bh S).call C m 132 [r,l] st=Z (rfV (pT r) (o8 l),st):=by
 have h1:=WN B;have h2:=Rx B;have N:=KI g;have w:=Fo g;have P:=ahu g;have G:=λC m s d st=>Le C m r s d st B hn;have W:=λC m a st=>FL C m a st;simp only[T3.cells]at G;refine bu (sf:=alY) rfl rfl (by simp[dV h1,dV N]) rfl (by cases h:fF (zo (pT r)) (o8 l) (Q (o8 l))<;>simp[rfV,h,D2,AV.aH,AV.aD]) ?_;simp[alY];refine bM Wf.eq_1 (λq:Nat×List AV=>⟨[(0,.val r),(1,.val l),(5,.fp 0 0),(6,.val (cw 4 (iy (pT r) ((o8 l).take q.1)))),(7,.val (.int .i64 q.1))],[[.int .i64 0,.int .i64 0],q.2],[]⟩)
  (λq=>q.1<=Q (o8 l)/\fF (zo (pT r)) (o8 l) q.1=K) (λq=>Q (o8 l)-q.1) ((0,[]):Nat×List AV) (by simp[iy,xX]) ⟨by simp,rfl⟩ ?_
 rintro⟨k,bb⟩ ⟨hk,z⟩ M;simp only at hk z M;by_cases R:k<Q (o8 l);have hw:=wk k (by omega);have n:=yf (iO:=zo (pT r)) R;rw[z]at n;have hr:=OU (rs:=pT r) R;have t:Q (iy (pT r) ((o8 l).take k))=k:=by simp[iy];omega
 have L:wS 4 40 (cw 4 (iy (pT r) ((o8 l).take k))) [OJ (pT r) (o8 l)[k]]=Z (cw 4 (iy (pT r) ((o8 l).take (k+1)))):=by
  rw[iw (by rfl) (by rw[t];simp[dj];omega),hr]
 generalize v:(o8 l)[k]=p at *;simp only[OJ,T3.cells]at L;obtain⟨o,D⟩:∃o,o=(dz (pT r) p.on p.od).2:=⟨_,rfl⟩;simp[h2,w,P,g,R,PD.cells,v,G];refine bM We.eq_1 (λj:Nat=>⟨[(0,.val r),(1,.val l),(5,.fp 0 0),(6,.val (cw 4 (iy (pT r) ((o8 l).take k)))),(7,.val (.int .i64 k)),(8,.fp 1 0),(9,.val (.bool (okJ o (o8 l) p.name j))),(10,.val (.int .i64 j))],
   [[.int .i64 0,.int .i64 0],(dz (pT r) p.on p.od).1.cells],[]⟩)
  (λj=>j<=k) (λj=>k-j) 0 (by simp[okJ,D]) (by simp) ?_
 intro j hj uC;by_cases I:j<k;have F:=wk j (by omega);have E:j<Q (o8 l):=by omega
 have hs:=adS (o:=o) (s:=p.name) E;have J:=uC (j+1) (by omega) (by omega);rw[hs]at J;cases H:okJ o (o8 l) p.name j with
 |false=>
  rw[H]at J;simp[I,F,aA,ay];simp only[Bool.false_and]at J;exact J
 |true=>
  rw[H]at J;by_cases x:(o8 l)[j].name=p.name;simp[w,P,g,I,E,R,PD.cells,F,v,x,aA,ay];simp only[x,decide_true,Bool.not_true,Bool.and_false]at J;exact J;simp[w,P,g,I,E,R,PD.cells,F,v,x,aA,ay];simp only[eX x,Bool.not_false,Bool.and_true]at J;exact J
 have T:j=k:=by omega
 subst T;simp;cases H:okJ o (o8 l) p.name j with
 |true=>
  have y:zo (pT r) ((o8 l).take j) p=K:=by
   simp only[okJ,Bool.and_eq_true,Bool.not_eq_true',D]at H;unfold zo;rw[H.2,H.1];rfl
  rw[y]at n;simp[w,P,g,R,PD.cells,hw,v,L,aA,ay];exact M (j+1,_) ⟨by simp;omega,n⟩ (by simp;omega)
 |false=>
  have y:zo (pT r) ((o8 l).take j) p=Z p.at_:=by
   unfold zo;rw[af];simp only[okJ,Bool.and_eq_false_iff,Bool.not_eq_false',D]at H;rcases H with h|h;rw[h];simp;rw[h];rfl
  rw[y]at n;have O:=rz (show fF (zo (pT r)) (o8 l) (j+1)=Z p.at_ from n) (Q (o8 l)) (by omega);simp[P,g,R,PD.cells,v,W,rfV,O,D2]
 have U:k=Q (o8 l):=by omega
 subst U;simp[N,w,P,rfV,z,D2]
def Bh(l:List FN):Nat->Int
 |0=>-1|k+1=>match l[k]? with
  |some x=>if iU x then (k:Int) else Bh l k
  |none=>Bh l k
theorem UL{a b}(h:Uv a b=K):a=K/\b=K:=by
 cases a with
 |none=>trivial|some x=>cases h
theorem Lf{n iO}{l:List n}:∀{m:Nat},fF iO l m=K->∀k h,k<m->iO (l.take k) l[k]=K
 |0,_,k,_,H=>au H|m+1,h,k,j,H=>by
  have ⟨g,o⟩:=UL h;by_cases e:k=m
  grind
  exact Lf g k j (by omega)
theorem Ss{x}(h:iU x=Y):x.name=W5:=by
 simp_all [iU]
theorem EB{l}(h:∀k (g:k<Q l),iU l[k]=X):∀m,Bh l m = -1
 |0=>rfl|m+1=>by
  unfold Bh;by_cases H:m<Q l;rw[List.getElem?_eq_getElem H];simp[h,EB];rw[List.getElem?_eq_none (by omega)];exact EB h m
theorem Lg{l j}(g)(o:iU l[j]=Y)(h:∀k n,k<j->iU l[k]=X)(H:∀k n,j<k->iU l[k]=X):∀m,Bh l m=if j<m then (j:Int) else -1
 |0=>by rfl|m+1=>by
  have I:=Lg g o h H m;unfold Bh
  grind
theorem main_eq{l}(h:∀k m,Y8 (l.take k) l[k]=K):Bh l (Q l)=Be l:=by
 unfold Be;cases e:l.findIdx? iU with
 |none=>
  grind [EB]
 |some j=>
  have ⟨H,g,o⟩:=List.findIdx?_eq_some_iff_getElem.1 e;rw[Lg H g (λk m n=>by grind) (λk m I=>?_),af H];cases p:iU _ with
  |false=>rfl|true=>
   have:=h k m;unfold Y8 at this;rw[af]at *;cases this;rw[aiG];refine⟨l[j],?_,?_⟩;exact List.mem_take_iff_getElem.2 ⟨j,by omega,rfl⟩
   grind [Ss]
theorem Su{j p}{l:List j}{k}(h:GQ p (l.take k) k):(l.take k).any p=X:=by
 rw[List.any_eq_false];intro q g;obtain⟨i,H,rfl⟩:=List.mem_iff_getElem.1 g;have:=h i H (by grind)
 grind
theorem fH{p y}(h:tE p=Z y):Md p=.fC [Bf,.agg [.int .i64 3,.int .i64 y]]:=by
 have:kR p=Z y:=by unfold kR;rw[h];split<;>rfl
 unfold Md;rw[this];rfl
theorem f3A{p y}(h:fF AG (eW p.aR) (Q (eW p.aR))=Z y):tE p=Z y:=by unfold tE;rw[h];rfl
theorem f3B{p y}(a:fF AG (eW p.aR) (Q (eW p.aR))=K)(h:fF (Mc (tj (eW p.aR))) (eW p.aR) (Q (eW p.aR))=Z y):tE p=Z y:=by unfold tE;rw[a,h];rfl
theorem f3C{p y}(a:fF AG (eW p.aR) (Q (eW p.aR))=K)(b:fF (Mc (tj (eW p.aR))) (eW p.aR) (Q (eW p.aR))=K)(h:fF (zo (tj (eW p.aR))) (o8 p.ax) (Q (o8 p.ax))=Z y):tE p=Z y:=by unfold tE;rw[a,b,h];rfl
theorem f3D{p y}(a:fF AG (eW p.aR) (Q (eW p.aR))=K)(b:fF (Mc (tj (eW p.aR))) (eW p.aR) (Q (eW p.aR))=K)(c:fF (zo (tj (eW p.aR))) (o8 p.ax) (Q (o8 p.ax))=K)(h:fF (IF (tj (eW p.aR))) (iN p.funcs) (Q (iN p.funcs))=y):tE p=y:=by unfold tE;rw[a,b,c,h];rfl
theorem adT(wl ai p st)(m:p.ok)(hs:GD.sm p):(bh S).call wl ai 86 [.agg p.cells] st=Z (Md p,st):=by
 have p1:=WU m.aR;have p2:=Rz m.aR;have p3:=Ry m.aR;have pr:=m.aR;have g1:=KI m.ax;have g2:=Fo m.ax;have f1:=WW m.funcs;have f2:=RA m.funcs;have f3:=adb m.funcs;have fr:=m.funcs;have en:=λwl ai st=>Sr wl ai p st m hs.aR;have e2:=λwl ai a st=>FL wl ai a st;simp[GD.cells]at en;obtain⟨rs,n⟩:∃rs,rs=tj (eW p.aR):=⟨_,rfl⟩;have hrn:Q rs=Q (eW p.aR):=by rw[n];simp[tj]
 have P:∀k h (h2:k<Q (eW p.aR)),rs[k]=(eW p.aR)[k].name:=by grind [tj]
 have n1:bn (cw 1 (mQ rs))=Y:=ey;have n2:=adp rs;have n3:bf (cw 1 (mQ rs))=rs.map λs=>[.str s]:=oZ;have n4:=ahI rs;have n5:cU 1 (cw 1 (mQ rs))=Y:=by simpa using WM n2
 rw[<-n]at en;generalize cw 1 _=z at *;have aAK:=hs.aR;have ax1:=hs.funcs;refine bu rfl rfl (by simp[GD.cells,AV.aD,AV.aH,p1,g1,f1]) rfl (by cases h:kR p<;>simp[Md,h,Bf,GZ,AV.aH,AV.aD]) ?_;simp[s86,GD.cells,p1,p2,g1,g2,f1,f2,en];refine bM ab2.eq_1 (λk:Nat=>⟨[(1,.fp 0 0),(2,.fp 1 0),(3,.fp 2 0),(4,.val z),(5,.val (.int .i64 k))],
   [[p.aR,p.ax,p.funcs],[.aF,.aF,.aF,.int .i64 0],[.int .i64 0,.int .i64 0],[],[],[],[],[],[],[]],[]⟩)
  (λk=>k<=Q (eW p.aR)/\fF AG (eW p.aR) k=K) (λk=>Q (eW p.aR)-k) 0 (by simp) ⟨by simp,rfl⟩ ?_
 intro k ⟨O,M⟩ I;by_cases R:k<Q (eW p.aR);have w:IntKind.i64.wrap (k+1)=((k+1:Nat)):=by rw[dg]<;>omega
 have l:=yf (iO:=AG) R;rw[M]at l;have W:k<Q rs:=by omega
 simp[n1,n3,hrn,R];refine bM ab1.eq_1 (λj:Nat=>⟨[(1,.fp 0 0),(2,.fp 1 0),(3,.fp 2 0),(4,.val z),(5,.val (.int .i64 k)),(6,.val (.int .i64 j))],
   [[p.aR,p.ax,p.funcs],[.aF,.aF,.aF,.int .i64 0],[.int .i64 0,.int .i64 0],[],[],[],[],[],[],[]],[]⟩)
  (λj=>j<=k/\GQ (λq:CR=>decide (q.name=(eW p.aR)[k].name)) ((eW p.aR).take k) j) (λj=>k-j) 0 (by simp) ⟨by simp,C2⟩ ?_
 intro j ⟨hj,hn⟩ uC;by_cases tU:j<k;have rJ:IntKind.i64.wrap (j+1)=((j+1:Nat)):=by rw[dg]<;>omega
 have L:j<Q rs:=by omega
 have p9:j<Q (eW p.aR):=by omega
 have e1:=P j L p9;have E:=P k W R;have Yt:j<Q ((eW p.aR).take k):=by simp;omega
 have J:((eW p.aR).take k)[j]=(eW p.aR)[j]:=aoN;by_cases B:(eW p.aR)[j].name=(eW p.aR)[k].name;have Ph:AG ((eW p.aR).take k) (eW p.aR)[k]=Z (eW p.aR)[k].at_:=by
  unfold AG;rw[af];exact aiG.2 ⟨_,aah Yt,by grind⟩
 rw[Ph]at l;have g:=fH (f3A (rz ((l)) _ (by omega)));rw[g];simp[n3,n5,L,W,tU,e1,E,B,p2,p3,pr,R,CR.cells,e2,Bf,aA,ay];simp[n3,n5,L,W,tU,e1,E,B,rJ,aA,ay];exact uC (j+1) ⟨by omega,C3 hn Yt (by grind)⟩ (by omega);have OF:j=k:=by omega
 subst OF;have Ph:AG ((eW p.aR).take j) (eW p.aR)[j]=K:=by
  simp_all [AG,Su]
 rw[Ph]at l;simp[w];exact I (j+1) ⟨by omega,l⟩ (by omega);have dQ:k=Q (eW p.aR):=by omega
 subst dQ;simp[n1,n3,hrn];refine bM ab3.eq_1 (λq:Nat×List AV=>⟨[(1,.fp 0 0),(2,.fp 1 0),(3,.fp 2 0),(4,.val z),(7,.fp 3 0),(8,.val (.int .i64 q.1))],
   [[p.aR,p.ax,p.funcs],[.aF,.aF,.aF,.int .i64 0],[.int .i64 0,.int .i64 0],[cw 2 (vP rs ((eW p.aR).take q.1)),.aF,.aF,.int .i64 (-1)],q.2,[],[],[],[],[]],[]⟩)
  (λq=>q.1<=Q (eW p.aR)/\fF (Mc rs) (eW p.aR) q.1=K) (λq=>Q (eW p.aR)-q.1) ((0,[])) (by rfl) ⟨by simp,rfl⟩ ?_
 rintro⟨k,bb⟩ ⟨O,C⟩ I;simp only at O C I;by_cases R:k<Q (eW p.aR);have w:IntKind.i64.wrap (k+1)=((k+1:Nat)):=by rw[dg]<;>omega
 have l:=yf (iO:=Mc rs) R;rw[C]at l;have W:k<Q rs:=by omega
 have e1:=P k W R;have hF:=YW m.aR _ (aah R);have hFs:=KI hF;have U:=Fo hF;have F:=hs.cr _ (aah R);have E:=λwl ai st=>EA wl ai _ z.aj st n2 (by simp_all) hF F;simp[zn,n4,rfV]at E;have t:wS 2 40 (cw 2 (vP rs ((eW p.aR).take k))) [OW rs (eW p.aR)[k]]=Z (cw 2 (vP rs ((eW p.aR).take (k+1)))):=by
  rw[iw (by rfl) (by simp[vP,dj];omega)];simp only[vP,adB R,afn,aaZ,afL]
 simp[OW]at t;cases hf:Mc rs _ _ with
 |some y=>
  rw[hf]at l;have g:=fH (f3B M (n ▸ rz ((l)) _ (by omega)));rw[g];simp[Mc]at hf;simp[hf,D2]at E;simp[p2,p3,pr,R,CR.cells,U,E,Bf,bF,bP,eu.aX,fP]
 |none=>
  rw[hf]at l;simp[Mc]at hf;simp[hf,D2]at E;simp[p2,p3,pr,R,CR.cells,U,n3,n5,W,e1,E,w,t,bF,bP,eu.aX,fP];exact I (k+1,_) ⟨by simp;omega,l⟩ (by simp;omega)
 have dQ:k=Q (eW p.aR):=by omega
 subst dQ;have eg:=λwl ai st=>EA wl ai p.ax z.aj st n2 (by simp_all) m.ax hs.ax;simp[zn,n4,rfV]at eg;cases D:fF (zo rs) (o8 p.ax) (Q (o8 p.ax)) with
 |some y=>
  have g:=fH (f3C M (n ▸ C) (n ▸ D));rw[g];simp[D,D2]at eg;simp[p1,p2,p3,g2,eg,Bf,bF,bP,eu.aX,fP]
 |none=>
  simp[D,D2]at eg;simp[p1,p2,p3,g2,eg,eu.aX,fP];obtain⟨RR,hRR⟩:∃v,v=cw 2 (vP rs (eW p.aR)):=⟨_,rfl⟩;obtain⟨GG,hGG⟩:∃v,v=(cw 4 (iy rs (o8 p.ax))).aj:=⟨_,rfl⟩;rw[<-hRR,<-hGG];have hGs:bn GG=Y:=by simp_all
  have hGv:GG.aj=GG:=by simp_all
  have hRs:bn RR=Y:=by simp_all
  refine bM ab5.eq_1 (λq:Nat×List AV×List AV×List AV×List AV=>⟨[(1,.fp 0 0),(2,.fp 1 0),(3,.fp 2 0),(4,.val z),(7,.fp 3 0),(13,.val (.int .i64 q.1))],
    [[p.aR,p.ax,p.funcs],[.aF,.aF,.aF,.int .i64 0],[.int .i64 0,.int .i64 0],[RR,GG,cw 6 (tW rs ((iN p.funcs).take q.1)),.int .i64 (Bh (iN p.funcs) q.1)],bb,[.int .i64 0,.int .i64 0],q.2.1,q.2.2.1,q.2.2.2.1,q.2.2.2.2],[]⟩)
   (λq=>q.1<=Q (iN p.funcs)/\fF (IF rs) (iN p.funcs) q.1=K) (λq=>Q (iN p.funcs)-q.1) ((0,[],[],[],[])) (by rfl) ⟨by simp,rfl⟩ ?_
  rintro⟨k,b6,b7,b8,b9⟩ ⟨O,hD⟩ I;simp only at O hD I;by_cases R:k<Q (iN p.funcs);have w:IntKind.i64.wrap (k+1)=((k+1:Nat)):=by rw[dg]<;>omega
  have l:=yf (iO:=IF rs) R;rw[hD]at l;have G:=YX m.funcs _ (aah R);have hG1:=G.1;have hFs:=KI G.1;have U:=Fo G.1;have hBs:=G.2.2;have hBv:=bQ G.2.1 G.2.2;have F:=hs.params _ (aah R);have E:=λwl ai st=>EA wl ai _ z.aj st n2 (by rw[zn,n4];omega) G.1 F;have et:=λwl ai st=>Le wl ai z.aj (iN p.funcs)[k].on (iN p.funcs)[k].od st n2 (by rw[zn,n4];omega);simp[zn,n4,rfV,T3.cells]at E et;have t:wS 6 72 (cw 6 (tW rs ((iN p.funcs).take k))) [KZ rs (iN p.funcs)[k]]=Z (cw 6 (tW rs ((iN p.funcs).take (k+1)))):=by
   rw[iw (by rfl) (by simp[tW,dj];omega)];simp only[tW,adB R,afn,aaZ,afL]
  have Xg:Bh (iN p.funcs) (k+1)=if iU (iN p.funcs)[k] then (k:Int) else Bh (iN p.funcs) k:=by simp[Bh,R]
  have aDl:bn (cw 6 (tW rs ((iN p.funcs).take k)))=Y:=ey;simp[f2,f3,fr,R,FN.cells,hG1,hBs,hBv,U];refine bM ab4.eq_1 (λj:Nat=>⟨[(1,.fp 0 0),(2,.fp 1 0),(3,.fp 2 0),(4,.val z),(7,.fp 3 0),(13,.val (.int .i64 k)),(14,.fp 6 0),(15,.val (.int .i64 j))],
    [[p.aR,p.ax,p.funcs],[.aF,.aF,.aF,.int .i64 0],[.int .i64 0,.int .i64 0],[RR,GG,cw 6 (tW rs ((iN p.funcs).take k)),.int .i64 (Bh (iN p.funcs) k)],bb,[.int .i64 0,.int .i64 0],(iN p.funcs)[k].cells,b7,b8,b9],[]⟩)
   (λj=>j<=k/\GQ (λq:FN=>decide (q.name=(iN p.funcs)[k].name)) ((iN p.funcs).take k) j) (λj=>k-j) 0 (by rfl) ⟨by simp,C2⟩ ?_
  intro j ⟨hj,hn⟩ uC;by_cases tU:j<k;have rJ:IntKind.i64.wrap (j+1)=((j+1:Nat)):=by rw[dg]<;>omega
  have p9:j<Q (iN p.funcs):=by omega
  have Yt:j<Q ((iN p.funcs).take k):=by simp;omega
  have J:((iN p.funcs).take k)[j]=(iN p.funcs)[j]:=aoN;by_cases B:(iN p.funcs)[j].name=(iN p.funcs)[k].name;have Ph:IF rs ((iN p.funcs).take k) (iN p.funcs)[k]=Z (iN p.funcs)[k].at_:=by
   unfold IF Y8;rw[af]
   rfl
   exact aiG.2 ⟨_,aah Yt,by rw[J];simpa using B⟩
  rw[Ph]at l;have g:=fH (f3D M (n ▸ C) (n ▸ D) (n ▸ rz (show fF (IF rs) (iN p.funcs) (k+1)=Z _ from l) _ (by omega)));rw[g];simp[f2,f3,fr,tU,p9,FN.cells,B,e2,Bf,aA,ay];simp[f2,f3,fr,tU,p9,FN.cells,B,rJ,aA,ay];exact uC (j+1) ⟨by omega,C3 hn Yt (by rw[J];simpa using B)⟩ (by omega);have OF:j=k:=by omega
  subst OF;have hDn:Y8 ((iN p.funcs).take j) (iN p.funcs)[j]=K:=by
   unfold Y8;rw[Su hn];rfl
  have hS:IF rs ((iN p.funcs).take j) (iN p.funcs)[j]=Uv (fF (zo rs) (o8 (iN p.funcs)[j].params) (Q (o8 (iN p.funcs)[j].params))) (OX rs (iN p.funcs)[j]):=by
   unfold IF;rw[hDn];rfl
  rw[hS]at l;generalize hq:(iN p.funcs)[j]=f at *;cases hP:fF (zo rs) (o8 f.params) (Q (o8 f.params)) with
  |some y=>
   rw[hP]at l;have g:=fH (f3D M (n ▸ C) (n ▸ D) (n ▸ rz (show fF (IF rs) (iN p.funcs) (j+1)=Z y from l) _ (by omega)));rw[g];simp[hP,D2]at E;simp[FN.cells,U,E,Bf,bF,bP,eu.aX,fP]
  |none=>
   rw[hP]at l;simp[hP,D2]at E;simp[FN.cells,U,E,eu.aX,fP];have DT:Q (iy rs (o8 f.params))=Q (o8 f.params):=(by simp[iy]);cases N:f.bY with
   |false=>
    have hT:OX rs f=K:=(by grind [OX]);rw[hT]at l;simp[KZ,Bm,N,aai]at t;by_cases a:f.name=W5;have x:(f.name=[109,97,105,110])=True:=eq_true a;by_cases b:o8 f.params=[];have T:Q (o8 f.params)=0:=(by rw[b];rfl);have o:iU f=Y:=(by simp[iU,a,b,N]);have H:=I (j+1,f.cells,[.int .i64 0,.int .i64 0],[.str f.name,(cw 4 (iy rs (o8 f.params))).aj,.bool f.bY,.int .i64 0,.int .i64 0,.int .i64 0],b9) ⟨by simp;omega,l⟩ (by simp;omega);simp only[Xg,o,bz,FN.cells,N]at H;simp[w,DT,t,x,T,eu.aX];simp[af9]at H;exact H;have T:¬Q (o8 f.params)=0:=(by grind);have l1:=eq_false T;have o:iU f=X:=(by simp[iU,a,b,N]);have H:=I (j+1,f.cells,[.int .i64 0,.int .i64 0],[.str f.name,(cw 4 (iy rs (o8 f.params))).aj,.bool f.bY,.int .i64 0,.int .i64 0,.int .i64 0],b9) ⟨by simp;omega,l⟩ (by simp;omega);simp only[Xg,o,bC,aai,FN.cells,N]at H;simp[w,DT,t,x,l1,eu.aX];simp[af9]at H;exact H;have x:(f.name=[109,97,105,110])=False:=eq_false a;have o:iU f=X:=(by simp[iU,a,N]);have H:=I (j+1,f.cells,[.int .i64 0,.int .i64 0],[.str f.name,(cw 4 (iy rs (o8 f.params))).aj,.bool f.bY,.int .i64 0,.int .i64 0,.int .i64 0],b9) ⟨by simp;omega,l⟩ (by simp;omega);simp only[Xg,o,bC,aai,FN.cells,N]at H;simp[w,t,x,eu.aX];simp[af9]at H;exact H
   |true=>
    cases ho:(dz rs f.on f.od).2 with
    |false=>
     have hT:OX rs f=Z f.at_:=(by grind [OX]);rw[hT]at l;have g:=fH (f3D M (n ▸ C) (n ▸ D) (n ▸ rz (show fF (IF rs) (iN p.funcs) (j+1)=Z f.at_ from l) _ (by omega)));rw[g];simp[et,ho,e2,Bf]
    |true=>
     have hT:OX rs f=K:=(by grind [OX]);rw[hT]at l;simp[KZ,Bm,N]at t;by_cases a:f.name=W5;have x:(f.name=[109,97,105,110])=True:=eq_true a;by_cases b:o8 f.params=[];have T:Q (o8 f.params)=0:=(by rw[b];rfl);have o:iU f=X:=(by simp[iU,a,b,N]);have H:=I (j+1,f.cells,[.int .i64 0,.int .i64 0],[.str f.name,(cw 4 (iy rs (o8 f.params))).aj,.bool f.bY,.int .i64 (dz rs f.on f.od).1.b,.int .i64 (dz rs f.on f.od).1.r,.int .i64 (dz rs f.on f.od).1.d],(dz rs f.on f.od).1.cells) ⟨by simp;omega,l⟩ (by simp;omega);simp only[Xg,o,bC,aai,FN.cells,N]at H;simp[w,DT,et,t,ho,x,T,eu.aX,fP];simp only[af9,ajP]at H;exact H;have T:¬Q (o8 f.params)=0:=(by grind);have l1:=eq_false T;have o:iU f=X:=(by simp[iU,a,b,N]);have H:=I (j+1,f.cells,[.int .i64 0,.int .i64 0],[.str f.name,(cw 4 (iy rs (o8 f.params))).aj,.bool f.bY,.int .i64 (dz rs f.on f.od).1.b,.int .i64 (dz rs f.on f.od).1.r,.int .i64 (dz rs f.on f.od).1.d],(dz rs f.on f.od).1.cells) ⟨by simp;omega,l⟩ (by simp;omega);simp only[Xg,o,bC,aai,FN.cells,N]at H;simp[w,DT,et,t,ho,x,l1,eu.aX,fP];simp only[af9,ajP]at H;exact H;have x:(f.name=[109,97,105,110])=False:=eq_false a;have o:iU f=X:=(by simp[iU,a,N]);have H:=I (j+1,f.cells,[.int .i64 0,.int .i64 0],[.str f.name,(cw 4 (iy rs (o8 f.params))).aj,.bool f.bY,.int .i64 (dz rs f.on f.od).1.b,.int .i64 (dz rs f.on f.od).1.r,.int .i64 (dz rs f.on f.od).1.d],(dz rs f.on f.od).1.cells) ⟨by simp;omega,l⟩ (by simp;omega);simp only[Xg,o,bC,aai,FN.cells,N]at H;simp[w,et,t,ho,x,eu.aX,fP];simp only[af9,ajP]at H;exact H
  have dQ:k=Q (iN p.funcs):=by omega
  subst dQ;have Ij:=main_eq λk O=>by
   have:=Lf hD k O O;exact(UL (UL this).1).1
  have h3:=f3D M (n ▸ C) (n ▸ D) (n ▸ hD);by_cases hm:Be (iN p.funcs)<0;have g:Md p=.fC [Bf,.agg [.int .i64 3,.int .i64 0]]:=by
   have:kR p=Z 0:=by unfold kR;rw[af hm,h3];rfl
   unfold Md;rw[this];rfl
  rw[g];simp[f1,f2,f3,Ij,hm,e2,Bf];have g:Md p=.fC [GZ p,.agg [.int .i64 0,.int .i64 0]]:=by
   have:kR p=K:=by unfold kR;grind
   unfold Md;rw[this];rfl
  rw[g];simp[f1,f2,f3,Ij,hm,GZ,<-n,<-hGG,hGv,<-hRR,hGs,hRs]
end U7
