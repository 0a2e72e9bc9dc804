/- Part of a proof. -/
import Derived.Test.YtgblgbgjmgjfkaaGreatM

open List renaming take_succ_eq_append_getElem->aew,map_append->ae6,map_cons->aei,map_nil->ais,getElem?_eq_getElem->aas,getElem?_eq_none->aeQ,getElem_mem->acH,any_eq_true->ajC,getElem_take->aox
open Int renaming natCast_add->aiH,natCast_one->akR
open Bool renaming and_eq_true->Ee,false_eq_true->acC
set_option maxRecDepth 100000
set_option maxHeartbeats 4000000
namespace U7
open Ax Go aO V7
theorem Kv(w n:Nat)(l:AV)(s:List UInt8)(d:Int)(st:aj)(H:Dc l=true)(y:(oh l).length<1000000000) :
  (aZ S).call w n 133 [l,.agg [.str s,.int .i64 d]] st=some (.eY [.agg (dw (oh l) s d).1.cells,.bool (dw (oh l) s d).2],st):=by
 have o:=VO H;have h:=QJ H;have j:=abS H;refine bE (sf:=Tm) rfl rfl (by simp[eC o]) rfl (by simp[AV.aH,AV.aB]) ?_;by_cases d0:d<0;rw[V1 (.inl d0)];simp[Tm,d0];by_cases D:3<d;rw[V1 (.inr D)];simp[Tm,d0,D];have p:¬(d<0\/3<d):=by omega
 unfold dw;rw[U p];by_cases C:s=[105,110,116];simp[Tm,d0,D,C];by_cases I:s=[98,111,111,108];simp[Tm,d0,D,I];rw[U C,U I];simp[Tm,d0,D,C,I];refine bN Vo.eq_1 (λk:Nat=>⟨[(0,.val l),(3,.fp 0 0),(4,.fp 1 0),(6,.val (.int .i64 k))],[[.str s,.int .i64 d],[.int .i64 0,.int .i64 0,.int .i64 0]],[]⟩)
  (λk=>k<=(oh l).length/\FO (λx=>decide (x=s)) (oh l) k) (λk=>(oh l).length-k) 0 (by simp) ⟨by simp,B9⟩ ?_
 rintro k ⟨v,m⟩ t;by_cases F:k<(oh l).length;have q:=wk k (by omega);by_cases e:(oh l)[k]=s;have g:=agf m F e;have r:¬((k:Int)<0):=by omega
 simp[H,h,j,F,e,g,r,aD,aC];simp[H,h,j,F,e,q,aD,aC];exact t (k+1) ⟨by omega,Ca m F (by simpa using e)⟩ (by omega);have G:k=(oh l).length:=by omega
 have g:=XW (G ▸ m);simp[H,h,j,F,g]
theorem Iq(wl ah:Nat)(t:T3)(st:aj):(aZ S).call wl ah 44 [.agg t.cells] st=some (.bool (mh t),st):=by
 refine bE (sf:=s44) rfl rfl (by simp) rfl (by simp) ?_;unfold mh;by_cases b:t.b=3;simp[s44,b];simp[s44,b]
end U7
namespace U7
open Ax Go aO V7
theorem EK(w k:Nat)(a:Int)(st:aj):(aZ S).call w k 131 [.int .i64 a] st=some (.agg [.int .i64 3,.int .i64 a],st):=by
 refine bE (sf:=akJ) rfl rfl (by simp) rfl (by simp) ?_;simp[akJ]
theorem Rm(wl ah:Nat)(p:GD)(st:aj)(j:p.ok)(q:(eE p.aU).length<1000000000):(aZ S).call wl ah 87 [.agg p.cells] st=some (cq 1 (lX (rW (eE p.aU))),st):=by
 have Y:=VR j.aU;have P:=QL j.aU;have l:=QK j.aU;have V:=JZ j.az;have W:=Et j.az;have g:=VS j.funcs;have n:=QM j.funcs;have h:=j.aU;refine bE (sf:=s87) rfl rfl (by simp[GD.cells,AV.aB,AV.aH,Y,V,g]) rfl (by simp) ?_;simp[s87,GD.cells,Y,V,g];refine bN aa7.eq_1 (λk:Nat=>⟨[(1,.fp 0 0),(3,.val (cq 1 (lX (rW ((eE p.aU).take k))))),(4,.val (.int .i64 k))],[[p.aU,p.az,p.funcs]],[]⟩)
  (λk=>k<=(eE p.aU).length) (λk=>(eE p.aU).length-k) 0 (by simp[rW,lX,sQ]) (by simp) ?_
 intro k o I;by_cases F:k<(eE p.aU).length;have m:=wk k (by omega);have H:v8 1 16 (cq 1 (lX (rW ((eE p.aU).take k)))) [[.str (eE p.aU)[k].name]]=some (cq 1 (lX (rW ((eE p.aU).take (k+1))))):=by
  rw[gP (by rfl) (by simp[lX,rW,cZ];omega)];simp only[rW,lX,aew F,ae6,aei,ais]
 simp[P,l,h,F,CR.cells,m,H];exact I (k+1) (by omega) (by omega);have G:k=(eE p.aU).length:=by omega
 subst G;simp[Y,P,l]
def okJ(o:Bool)(l:List PD)(s:List UInt8)(j:Nat):Bool:=o && !((l.take j).any λq=>decide (q.name=s))
theorem acK{o:Bool}{l:List PD}{s:List UInt8}{j:Nat}(h:j<l.length):okJ o l s (j+1)=(okJ o l s j && !decide (l[j].name=s)):=by
 unfold okJ;rw[aew h,List.any_append];simp[Bool.and_assoc]
def rfV(rs:List (List UInt8))(l:List PD):AV:=.eY [match eL (yE rs) l l.length with|some _=>.aF|none=>cq 4 (gQ rs l),.agg (Dd (eL (yE rs) l l.length))]
theorem qA{g:Type}{iy:List g->g->Option Int}{l:List g}{k:Nat}{y:Int}(h:eL iy l k=some y):∀m,k<=m->eL iy l m=some y:=by
 intro m H;induction m with
 |zero=>
  have:k=0:=by omega
  subst this;exact h
 |succ m I=>
  by_cases e:k=m+1;subst e;exact h;show TF (eL iy l m) _=some y;rw[I (by omega)];rfl
theorem DO(W m:Nat)(l r:AV)(st:aj)(y:Dc r=true)(R:(oh r).length<1000000000)(H:HJ l=true)(T:(nK l).length<1000000000) :
  (aZ S).call W m 132 [r,l] st=some (rfV (oh r) (nK l),st):=by
 have J:=VO y;have K:=QJ y;have C:=JZ H;have w:=Et H;have g:=agh H;have E:=λW m s d st=>Kv W m r s d st y R;have D:=λW m a st=>EK W m a st;simp only[T3.cells]at E;refine bE (sf:=akG) rfl rfl (by simp[eC J,eC C]) rfl (by cases h:eL (yE (oh r)) (nK l) (nK l).length<;>simp[rfV,h,Dd,AV.aH,AV.aB]) ?_;simp[akG];refine bN Vs.eq_1 (λq:Nat×List AV=>⟨[(0,.val r),(1,.val l),(5,.fp 0 0),(6,.val (cq 4 (gQ (oh r) ((nK l).take q.1)))),(7,.val (.int .i64 q.1))],[[.int .i64 0,.int .i64 0],q.2],[]⟩)
  (λq=>q.1<=(nK l).length/\eL (yE (oh r)) (nK l) q.1=none) (λq=>(nK l).length-q.1) ((0,[]):Nat×List AV) (by simp[gQ,sQ]) ⟨by simp,rfl⟩ ?_
 rintro⟨k,bb⟩ ⟨L,x⟩ I;simp only at L x I;by_cases F:k<(nK l).length;have hw:=wk k (by omega);have n:=xD (iy:=yE (oh r)) F;rw[x]at n;have V:=NY (rs:=oh r) F;have t:(gQ (oh r) ((nK l).take k)).length=k:=by simp[gQ];omega
 have B:v8 4 40 (cq 4 (gQ (oh r) ((nK l).take k))) [NN (oh r) (nK l)[k]]=some (cq 4 (gQ (oh r) ((nK l).take (k+1)))):=by
  rw[gP (by rfl) (by rw[t];simp[cZ];omega),V]
 generalize v:(nK l)[k]=p at *;simp only[NN,T3.cells]at B;obtain⟨o,z⟩:∃o,o=(dw (oh r) p.on p.od).2:=⟨_,rfl⟩;simp[K,w,g,H,F,PD.cells,v,E];refine bN Vr.eq_1 (λj:Nat=>⟨[(0,.val r),(1,.val l),(5,.fp 0 0),(6,.val (cq 4 (gQ (oh r) ((nK l).take k)))),(7,.val (.int .i64 k)),(8,.fp 1 0),(9,.val (.bool (okJ o (nK l) p.name j))),(10,.val (.int .i64 j))],
   [[.int .i64 0,.int .i64 0],(dw (oh r) p.on p.od).1.cells],[]⟩)
  (λj=>j<=k) (λj=>k-j) 0 (by simp[okJ,z]) (by simp) ?_
 intro j hj tE;by_cases U:j<k;have X:=wk j (by omega);have Y:j<(nK l).length:=by omega
 have hs:=acK (o:=o) (s:=p.name) Y;have P:=tE (j+1) (by omega) (by omega);rw[hs]at P;cases Z:okJ o (nK l) p.name j with
 |false=>
  rw[Z]at P;simp[U,X,aD,aC];simp only[Bool.false_and]at P;exact P
 |true=>
  rw[Z]at P;by_cases M:(nK l)[j].name=p.name;simp[w,g,H,U,Y,F,PD.cells,X,v,M,aD,aC];simp only[M,decide_true,Bool.not_true,Bool.and_false]at P;exact P;simp[w,g,H,U,Y,F,PD.cells,X,v,M,aD,aC];simp only[eX M,Bool.not_false,Bool.and_true]at P;exact P
 have N:j=k:=by omega
 subst N;simp;cases Z:okJ o (nK l) p.name j with
 |true=>
  have O:yE (oh r) ((nK l).take j) p=none:=by
   simp only[okJ,Ee,Bool.not_eq_true',z]at Z;unfold yE;rw[Z.2,Z.1];rfl
  rw[O]at n;simp[w,g,H,F,PD.cells,hw,v,B,aD,aC];exact I (j+1,_) ⟨by simp;omega,n⟩ (by simp;omega)
 |false=>
  have O:yE (oh r) ((nK l).take j) p=some p.at_:=by
   unfold yE;rw[af];simp only[okJ,Bool.and_eq_false_iff,Bool.not_eq_false',z]at Z;rcases Z with h|h;rw[h];simp;rw[h];rfl
  rw[O]at n;have Q:=qA (show eL (yE (oh r)) (nK l) (j+1)=some p.at_ from n) (nK l).length (by omega);simp[g,H,F,PD.cells,v,D,rfV,Q,Dd]
 have G:k=(nK l).length:=by omega
 subst G;simp[C,w,g,rfV,x,Dd]
end U7
namespace U7
open Ax Go aO V7
def wJ(l:List FN):Nat->Int
 |0=>-1|k+1=>match l[k]? with
  |some x=>if ij x then (k:Int) else wJ l k
  |none=>wJ l k
theorem TY{a b:Option Int}(h:TF a b=none):a=none/\b=none:=by
 cases a with
 |none=>exact⟨rfl,h⟩|some x=>cases h
theorem Kw{g:Type}{iy:List g->g->Option Int}{l:List g}:∀{m:Nat},eL iy l m=none->∀k (h:k<l.length),k<m->iy (l.take k) l[k]=none
 |0,_,k,_,j=>au j (by omega)|m+1,h,k,n,j=>by
  obtain⟨o,H⟩:=TY h;by_cases e:k=m;subst e;rw[aas n]at H;exact H;exact Kw o k n (by omega)
theorem Hl{x:FN}(h:ij x=true):x.name=V2:=by
 simp only[ij,Ee,aA]at h;exact h.1.1
theorem DP{l:List FN}(h:∀k (j:k<l.length),ij l[k]=false):∀m,wJ l m = -1
 |0=>rfl|m+1=>by
  unfold wJ;by_cases H:m<l.length;rw[aas H];simp[h m H,DP h m];rw[aeQ (by omega)];exact DP h m
theorem Kx{l:List FN}{j:Nat}(X:j<l.length)(o:ij l[j]=true)(g:∀k (q:k<l.length),k<j->ij l[k]=false)(n:∀k (q:k<l.length),j<k->ij l[k]=false):∀m,wJ l m=if j<m then (j:Int) else -1
 |0=>by simp[wJ]|m+1=>by
  have I:=Kx X o g n m;unfold wJ;by_cases M:m<l.length;rw[aas M];dsimp only;by_cases e:m=j;subst e;rw[af o,af (by omega)];have p:ij l[m]=false:=by
   rcases Nat.lt_or_gt_of_ne e with h|h;exact g m M h;exact n m M h
  rw[U (by rw[p];simp),I];by_cases H:j<m;rw[af H,af (by omega)];rw[U H,U (by omega)];rw[aeQ (by omega)];dsimp only;rw[I,af (by omega),af (by omega)]
theorem main_eq{l:List FN}(h:∀k (H:k<l.length),Ye (l.take k) l[k]=none):wJ l l.length=yI l:=by
 unfold yI;cases e:l.findIdx? ij with
 |none=>
  rw[List.findIdx?_eq_none_iff]at e;exact DP (λk H=>e _ (acH H)) _
 |some j=>
  obtain⟨X,m,n⟩:=List.findIdx?_eq_some_iff_getElem.1 e;rw[Kx X m (λk H g=>by simpa using n k g) (λk H U=>?_),af X];cases o:ij l[k] with
  |false=>rfl|true=>
   have:=h k H;unfold Ye at this;rw[af]at this;cases this;rw[ajC];refine⟨l[j],?_,?_⟩;exact List.mem_take_iff_getElem.2 ⟨j,by omega,rfl⟩;rw[Hl m,Hl o];simp
theorem Ro{g:Type}{p:g->Bool}{l:List g}{k:Nat}(h:FO p (l.take k) k):(l.take k).any p=false:=by
 rw[List.any_eq_false];intro q j;obtain⟨i,H,rfl⟩:=List.mem_iff_getElem.1 j;have:=h i H (by simp at H;omega);rw[this];simp
variable{p:GD}{y:Int}
theorem fH(h:sy p=some y):Lr p=.eY [Ah,.agg [.int .i64 3,.int .i64 y]]:=by
 have:ke p=some y:=by unfold ke;rw[h];split<;>rfl
 unfold Lr;rw[this];rfl
theorem f3A(h:eL yH (eE p.aU) (eE p.aU).length=some y):sy p=some y:=by unfold sy;rw[h];rfl
theorem f3B(a:eL yH (eE p.aU) (eE p.aU).length=none)(h:eL (Kh (rW (eE p.aU))) (eE p.aU) (eE p.aU).length=some y):sy p=some y:=by unfold sy;rw[a,h];rfl
theorem f3C(a:eL yH (eE p.aU) (eE p.aU).length=none)(b:eL (Kh (rW (eE p.aU))) (eE p.aU) (eE p.aU).length=none)
  (h:eL (yE (rW (eE p.aU))) (nK p.az) (nK p.az).length=some y):sy p=some y:=by unfold sy;rw[a,b,h];rfl
theorem f3D{y:Option Int}(a:eL yH (eE p.aU) (eE p.aU).length=none)(b:eL (Kh (rW (eE p.aU))) (eE p.aU) (eE p.aU).length=none)
  (c:eL (yE (rW (eE p.aU))) (nK p.az) (nK p.az).length=none)(h:eL (HL (rW (eE p.aU))) (gT p.funcs) (gT p.funcs).length=y):sy p=y:=by unfold sy;rw[a,b,c,h];rfl
theorem acL(wl ah:Nat)(p:GD)(st:aj)(m:p.ok)(hs:GD.sm p):(aZ S).call wl ah 86 [.agg p.cells] st=some (Lr p,st):=by
 have p1:=VR m.aU;have p2:=QL m.aU;have p3:=QK m.aU;have pr:=m.aU;have g1:=JZ m.az;have g2:=Et m.az;have f1:=VS m.funcs;have Z:=QM m.funcs;have f3:=abW m.funcs;have fr:=m.funcs;have en:=λwl ah st=>Rm wl ah p st m hs.aU;have e2:=λwl ah a st=>EK wl ah a st;simp only[GD.cells]at en;obtain⟨rs,L⟩:∃rs,rs=rW (eE p.aU):=⟨_,rfl⟩;have hrn:rs.length=(eE p.aU).length:=by rw[L];simp[rW]
 have T:∀k (h:k<rs.length) (h2:k<(eE p.aU).length),rs[k]=(eE p.aU)[k].name:=by intro k h h2;subst L;simp[rW]
 have n1:bf (cq 1 (lX rs))=true:=dM;have n2:=ab8 rs;have n3:aY (cq 1 (lX rs))=rs.map λs=>[.str s]:=oe;have W:oh (cq 1 (lX rs))=rs:=agv rs;have n5:cN 1 (cq 1 (lX rs))=true:=by simpa using VN n2
 rw[<-L]at en;generalize cq 1 (lX rs)=N at *;have ay5:=hs.aU;have awl:=hs.funcs;refine bE (sf:=s86) rfl rfl (by simp[GD.cells,AV.aB,AV.aH,p1,g1,f1]) rfl (by cases h:ke p<;>simp[Lr,h,Ah,FZ,AV.aH,AV.aB]) ?_;simp[s86,GD.cells,p1,p2,g1,g2,f1,Z,en];refine bN aaY.eq_1 (λk:Nat=>⟨[(1,.fp 0 0),(2,.fp 1 0),(3,.fp 2 0),(4,.val N),(5,.val (.int .i64 k))],
   [[p.aU,p.az,p.funcs],[.aF,.aF,.aF,.int .i64 0],[.int .i64 0,.int .i64 0],[],[],[],[],[],[],[]],[]⟩)
  (λk=>k<=(eE p.aU).length/\eL yH (eE p.aU) k=none) (λk=>(eE p.aU).length-k) 0 (by simp) ⟨by simp,rfl⟩ ?_
 intro k ⟨R,D⟩ I;by_cases F:k<(eE p.aU).length;have x:=wk k (by omega);have l:=xD (iy:=yH) F;rw[D]at l;have X:k<rs.length:=by omega
 simp[n1,n3,hrn,F];refine bN aaX.eq_1 (λj:Nat=>⟨[(1,.fp 0 0),(2,.fp 1 0),(3,.fp 2 0),(4,.val N),(5,.val (.int .i64 k)),(6,.val (.int .i64 j))],
   [[p.aU,p.az,p.funcs],[.aF,.aF,.aF,.int .i64 0],[.int .i64 0,.int .i64 0],[],[],[],[],[],[],[]],[]⟩)
  (λj=>j<=k/\FO (λq:CR=>decide (q.name=(eE p.aU)[k].name)) ((eE p.aU).take k) j) (λj=>k-j) 0 (by simp) ⟨by simp,B9⟩ ?_
 intro j ⟨hj,hn⟩ tE;by_cases uy:j<k;have xx:=wk j (by omega);have Q:j<rs.length:=by omega
 have vm:j<(eE p.aU).length:=by omega
 have e1:=T j Q vm;have E:=T k X F;have Xs:j<((eE p.aU).take k).length:=by simp;omega
 have w:((eE p.aU).take k)[j]=(eE p.aU)[j]:=aox;by_cases z:(eE p.aU)[j].name=(eE p.aU)[k].name;have Ov:yH ((eE p.aU).take k) (eE p.aU)[k]=some (eE p.aU)[k].at_:=by
  unfold yH;rw[af];exact ajC.2 ⟨_,acH Xs,by rw[w];simpa using z⟩
 rw[Ov]at l;have g:=fH (f3A (qA (show eL yH (eE p.aU) (k+1)=some _ from l) _ (by omega)));rw[g];simp[n3,n5,Q,X,uy,e1,E,z,p2,p3,pr,F,CR.cells,e2,Ah,aD,aC];simp[n3,n5,Q,X,uy,e1,E,z,xx,aD,aC];exact tE (j+1) ⟨by omega,Ca hn Xs (by rw[w];simpa using z)⟩ (by omega);have NI:j=k:=by omega
 subst NI;have Ov:yH ((eE p.aU).take j) (eE p.aU)[j]=none:=by
  unfold yH;rw[Ro hn];rfl
 rw[Ov]at l;simp[x];exact I (j+1) ⟨by omega,l⟩ (by omega);have gW:k=(eE p.aU).length:=by omega
 subst gW;simp[n1,n3,hrn];refine bN aaZ.eq_1 (λq:Nat×List AV=>⟨[(1,.fp 0 0),(2,.fp 1 0),(3,.fp 2 0),(4,.val N),(7,.fp 3 0),(8,.val (.int .i64 q.1))],
   [[p.aU,p.az,p.funcs],[.aF,.aF,.aF,.int .i64 0],[.int .i64 0,.int .i64 0],[cq 2 (sU rs ((eE p.aU).take q.1)),.aF,.aF,.int .i64 (-1)],q.2,[],[],[],[],[]],[]⟩)
  (λq=>q.1<=(eE p.aU).length/\eL (Kh rs) (eE p.aU) q.1=none) (λq=>(eE p.aU).length-q.1) ((0,[]):Nat×List AV) (by simp[sU,sQ]) ⟨by simp,rfl⟩ ?_
 rintro⟨k,bb⟩ ⟨R,G⟩ I;simp only at R G I;by_cases F:k<(eE p.aU).length;have x:=wk k (by omega);have l:=xD (iy:=Kh rs) F;rw[G]at l;have X:k<rs.length:=by omega
 have e1:=T k X F;have hF:=XX m.aU _ (acH F);have hFs:=JZ hF;have Y:=Et hF;have K:=hs.cF _ (acH F);have E:=λwl ah st=>DO wl ah (eE p.aU)[k].cF N.ai st n2 (by rw[rV,W];omega) hF K;simp only[rV,W,rfV]at E;have t:v8 2 40 (cq 2 (sU rs ((eE p.aU).take k))) [NZ rs (eE p.aU)[k]]=some (cq 2 (sU rs ((eE p.aU).take (k+1)))):=by
  rw[gP (by rfl) (by simp[sU,cZ];omega)];simp only[sU,aew F,ae6,aei,ais]
 simp only[NZ]at t;cases hf:Kh rs ((eE p.aU).take k) (eE p.aU)[k] with
 |some y=>
  rw[hf]at l;have g:=fH (f3B D (L ▸ qA (show eL (Kh rs) (eE p.aU) (k+1)=some _ from l) _ (by omega)));rw[g];simp only[Kh]at hf;simp only[hf,Dd]at E;simp[p2,p3,pr,F,CR.cells,Y,E,Ah,dX,di,fZ.bM,AI]
 |none=>
  rw[hf]at l;simp only[Kh]at hf;simp only[hf,Dd]at E;simp[p2,p3,pr,F,CR.cells,Y,n3,n5,X,e1,E,x,t,dX,di,fZ.bM,AI];exact I (k+1,_) ⟨by simp;omega,l⟩ (by simp;omega)
 have gW:k=(eE p.aU).length:=by omega
 subst gW;have eg:=λwl ah st=>DO wl ah p.az N.ai st n2 (by rw[rV,W];omega) m.az hs.az;simp only[rV,W,rfV]at eg;cases J:eL (yE rs) (nK p.az) (nK p.az).length with
 |some y=>
  have g:=fH (f3C D (L ▸ G) (L ▸ J));rw[g];simp only[J,Dd]at eg;simp[p1,p2,p3,g2,eg,Ah,dX,di,fZ.bM,AI]
 |none=>
  simp only[J,Dd]at eg;simp[p1,p2,p3,g2,eg,fZ.bM,AI];obtain⟨RR,P⟩:∃v,v=cq 2 (sU rs (eE p.aU)):=⟨_,rfl⟩;obtain⟨GG,C⟩:∃v,v=(cq 4 (gQ rs (nK p.az))).ai:=⟨_,rfl⟩;rw[<-P,<-C];have hGs:bf GG=true:=by rw[C];simp
  have hGv:GG.ai=GG:=by rw[C];exact vr _
  have hRs:bf RR=true:=by rw[P];simp
  refine bN aa1.eq_1 (λq:Nat×List AV×List AV×List AV×List AV=>⟨[(1,.fp 0 0),(2,.fp 1 0),(3,.fp 2 0),(4,.val N),(7,.fp 3 0),(13,.val (.int .i64 q.1))],
    [[p.aU,p.az,p.funcs],[.aF,.aF,.aF,.int .i64 0],[.int .i64 0,.int .i64 0],[RR,GG,cq 6 (ru rs ((gT p.funcs).take q.1)),.int .i64 (wJ (gT p.funcs) q.1)],bb,[.int .i64 0,.int .i64 0],q.2.1,q.2.2.1,q.2.2.2.1,q.2.2.2.2],[]⟩)
   (λq=>q.1<=(gT p.funcs).length/\eL (HL rs) (gT p.funcs) q.1=none) (λq=>(gT p.funcs).length-q.1) ((0,[],[],[],[]):Nat×List AV×List AV×List AV×List AV) (by simp[ru,sQ,wJ]) ⟨by simp,rfl⟩ ?_
  rintro⟨k,b6,b7,b8,b9⟩ ⟨R,hD⟩ I;simp only at R hD I;by_cases F:k<(gT p.funcs).length;have x:=wk k (by omega);have l:=xD (iy:=HL rs) F;rw[hD]at l;have O:=XY m.funcs _ (acH F);have hG1:=O.1;have hFs:=JZ O.1;have Y:=Et O.1;have hBs:=O.2.2;have hBv:=bT O.2.1 O.2.2;have K:=hs.params _ (acH F);have E:=λwl ah st=>DO wl ah (gT p.funcs)[k].params N.ai st n2 (by rw[rV,W];omega) O.1 K;have et:=λwl ah st=>Kv wl ah N.ai (gT p.funcs)[k].on (gT p.funcs)[k].od st n2 (by rw[rV,W];omega);simp only[rV,W,rfV,T3.cells]at E et;have t:v8 6 72 (cq 6 (ru rs ((gT p.funcs).take k))) [Ki rs (gT p.funcs)[k]]=some (cq 6 (ru rs ((gT p.funcs).take (k+1)))):=by
   rw[gP (by rfl) (by simp[ru,cZ];omega)];simp only[ru,aew F,ae6,aei,ais]
  have n:wJ (gT p.funcs) (k+1)=if ij (gT p.funcs)[k] then (k:Int) else wJ (gT p.funcs) k:=by simp[wJ,F]
  have aBE:bf (cq 6 (ru rs ((gT p.funcs).take k)))=true:=dM;simp[Z,f3,fr,F,FN.cells,hG1,hBs,hBv,Y];refine bN aa0.eq_1 (λj:Nat=>⟨[(1,.fp 0 0),(2,.fp 1 0),(3,.fp 2 0),(4,.val N),(7,.fp 3 0),(13,.val (.int .i64 k)),(14,.fp 6 0),(15,.val (.int .i64 j))],
    [[p.aU,p.az,p.funcs],[.aF,.aF,.aF,.int .i64 0],[.int .i64 0,.int .i64 0],[RR,GG,cq 6 (ru rs ((gT p.funcs).take k)),.int .i64 (wJ (gT p.funcs) k)],bb,[.int .i64 0,.int .i64 0],(gT p.funcs)[k].cells,b7,b8,b9],[]⟩)
   (λj=>j<=k/\FO (λq:FN=>decide (q.name=(gT p.funcs)[k].name)) ((gT p.funcs).take k) j) (λj=>k-j) 0 (by simp[FN.cells]) ⟨by simp,B9⟩ ?_
  intro j ⟨hj,hn⟩ tE;by_cases uy:j<k;have xx:=wk j (by omega);have vm:j<(gT p.funcs).length:=by omega
  have Xs:j<((gT p.funcs).take k).length:=by simp;omega
  have w:((gT p.funcs).take k)[j]=(gT p.funcs)[j]:=aox;by_cases z:(gT p.funcs)[j].name=(gT p.funcs)[k].name;have Ov:HL rs ((gT p.funcs).take k) (gT p.funcs)[k]=some (gT p.funcs)[k].at_:=by
   unfold HL Ye;rw[af]
   rfl
   exact ajC.2 ⟨_,acH Xs,by rw[w];simpa using z⟩
  rw[Ov]at l;have g:=fH (f3D D (L ▸ G) (L ▸ J) (L ▸ qA (show eL (HL rs) (gT p.funcs) (k+1)=some _ from l) _ (by omega)));rw[g];simp[Z,f3,fr,uy,vm,FN.cells,z,e2,Ah,aD,aC];simp[Z,f3,fr,uy,vm,FN.cells,z,xx,aD,aC];exact tE (j+1) ⟨by omega,Ca hn Xs (by rw[w];simpa using z)⟩ (by omega);have NI:j=k:=by omega
  subst NI;have hDn:Ye ((gT p.funcs).take j) (gT p.funcs)[j]=none:=by
   unfold Ye;rw[Ro hn];rfl
  have hS:HL rs ((gT p.funcs).take j) (gT p.funcs)[j]=TF (eL (yE rs) (nK (gT p.funcs)[j].params) (nK (gT p.funcs)[j].params).length) (N0 rs (gT p.funcs)[j]):=by
   unfold HL;rw[hDn];rfl
  rw[hS]at l;generalize hq:(gT p.funcs)[j]=f at *;cases hP:eL (yE rs) (nK f.params) (nK f.params).length with
  |some y=>
   rw[hP]at l;have g:=fH (f3D D (L ▸ G) (L ▸ J) (L ▸ qA (show eL (HL rs) (gT p.funcs) (j+1)=some y from l) _ (by omega)));rw[g];simp only[hP,Dd]at E;simp[FN.cells,Y,E,Ah,dX,di,fZ.bM,AI]
  |none=>
   rw[hP]at l;simp only[hP,Dd]at E;simp[FN.cells,Y,E,fZ.bM,AI];have C5:(gQ rs (nK f.params)).length=(nK f.params).length:=(by simp[gQ]);cases M:f.bR with
   |false=>
    have hT:N0 rs f=none:=(by unfold N0;rw[M];rfl);rw[hT]at l;simp only[Ki,Am,M,br,acC]at t;by_cases a:f.name=V2;have B:(f.name=[109,97,105,110])=True:=eq_true a;by_cases b:nK f.params=[];have V:(nK f.params).length=0:=(by rw[b];rfl);have o:ij f=true:=(by simp[ij,a,b,M]);have H:=I (j+1,f.cells,[.int .i64 0,.int .i64 0],[.str f.name,(cq 4 (gQ rs (nK f.params))).ai,.bool f.bR,.int .i64 0,.int .i64 0,.int .i64 0],b9) ⟨by simp;omega,l⟩ (by simp;omega);simp only[n,o,bh,FN.cells,M]at H;simp[x,C5,t,B,V,fZ.bM];simp only[aiH,akR]at H;exact H;have V:¬(nK f.params).length=0:=(by simpa using b);have l1:((nK f.params).length=0)=False:=eq_false V;have o:ij f=false:=(by simp[ij,a,b,M]);have H:=I (j+1,f.cells,[.int .i64 0,.int .i64 0],[.str f.name,(cq 4 (gQ rs (nK f.params))).ai,.bool f.bR,.int .i64 0,.int .i64 0,.int .i64 0],b9) ⟨by simp;omega,l⟩ (by simp;omega);simp only[n,o,br,acC,FN.cells,M]at H;simp[x,C5,t,B,l1,fZ.bM];simp only[aiH,akR]at H;exact H;have B:(f.name=[109,97,105,110])=False:=eq_false a;have o:ij f=false:=(by simp[ij,a,M]);have H:=I (j+1,f.cells,[.int .i64 0,.int .i64 0],[.str f.name,(cq 4 (gQ rs (nK f.params))).ai,.bool f.bR,.int .i64 0,.int .i64 0,.int .i64 0],b9) ⟨by simp;omega,l⟩ (by simp;omega);simp only[n,o,br,acC,FN.cells,M]at H;simp[x,t,B,fZ.bM];simp only[aiH,akR]at H;exact H
   |true=>
    cases ho:(dw rs f.on f.od).2 with
    |false=>
     have hT:N0 rs f=some f.at_:=(by unfold N0;rw[M,ho];rfl);rw[hT]at l;have g:=fH (f3D D (L ▸ G) (L ▸ J) (L ▸ qA (show eL (HL rs) (gT p.funcs) (j+1)=some f.at_ from l) _ (by omega)));rw[g];simp[et,ho,e2,Ah]
    |true=>
     have hT:N0 rs f=none:=(by unfold N0;rw[M,ho];rfl);rw[hT]at l;simp only[Ki,Am,M,bh]at t;by_cases a:f.name=V2;have B:(f.name=[109,97,105,110])=True:=eq_true a;by_cases b:nK f.params=[];have V:(nK f.params).length=0:=(by rw[b];rfl);have o:ij f=false:=(by simp[ij,a,b,M]);have H:=I (j+1,f.cells,[.int .i64 0,.int .i64 0],[.str f.name,(cq 4 (gQ rs (nK f.params))).ai,.bool f.bR,.int .i64 (dw rs f.on f.od).1.b,.int .i64 (dw rs f.on f.od).1.r,.int .i64 (dw rs f.on f.od).1.d],(dw rs f.on f.od).1.cells) ⟨by simp;omega,l⟩ (by simp;omega);simp only[n,o,br,acC,FN.cells,M]at H;simp[x,C5,et,t,ho,B,V,fZ.bM,AI];simp only[aiH,akR]at H;exact H;have V:¬(nK f.params).length=0:=(by simpa using b);have l1:((nK f.params).length=0)=False:=eq_false V;have o:ij f=false:=(by simp[ij,a,b,M]);have H:=I (j+1,f.cells,[.int .i64 0,.int .i64 0],[.str f.name,(cq 4 (gQ rs (nK f.params))).ai,.bool f.bR,.int .i64 (dw rs f.on f.od).1.b,.int .i64 (dw rs f.on f.od).1.r,.int .i64 (dw rs f.on f.od).1.d],(dw rs f.on f.od).1.cells) ⟨by simp;omega,l⟩ (by simp;omega);simp only[n,o,br,acC,FN.cells,M]at H;simp[x,C5,et,t,ho,B,l1,fZ.bM,AI];simp only[aiH,akR]at H;exact H;have B:(f.name=[109,97,105,110])=False:=eq_false a;have o:ij f=false:=(by simp[ij,a,M]);have H:=I (j+1,f.cells,[.int .i64 0,.int .i64 0],[.str f.name,(cq 4 (gQ rs (nK f.params))).ai,.bool f.bR,.int .i64 (dw rs f.on f.od).1.b,.int .i64 (dw rs f.on f.od).1.r,.int .i64 (dw rs f.on f.od).1.d],(dw rs f.on f.od).1.cells) ⟨by simp;omega,l⟩ (by simp;omega);simp only[n,o,br,acC,FN.cells,M]at H;simp[x,et,t,ho,B,fZ.bM,AI];simp only[aiH,akR]at H;exact H
  have gW:k=(gT p.funcs).length:=by omega
  subst gW;have EH:wJ (gT p.funcs) (gT p.funcs).length=yI (gT p.funcs):=main_eq λk R=>by
   have:=Kw hD k R R;exact(TY (TY this).1).1
  have h3:=f3D D (L ▸ G) (L ▸ J) (L ▸ hD);by_cases hm:yI (gT p.funcs)<0;have g:Lr p=.eY [Ah,.agg [.int .i64 3,.int .i64 0]]:=by
   have:ke p=some 0:=by unfold ke;rw[af hm,h3];rfl
   unfold Lr;rw[this];rfl
  rw[g];simp[f1,Z,f3,EH,hm,e2,Ah];have g:Lr p=.eY [FZ p,.agg [.int .i64 0,.int .i64 0]]:=by
   have:ke p=none:=by unfold ke;rw[U hm,h3]
   unfold Lr;rw[this];rfl
  rw[g];simp[f1,Z,f3,EH,hm,FZ,<-L,<-C,hGv,<-P,hGs,hRs]
end U7
