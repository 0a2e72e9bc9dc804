/- Part of a proof. -/
import Derived.Test.YtgblgbgjmgjfkaaGreatI

open List renaming all_eq_true->ac3,getElem_mem->acH,length_pos_iff->agV
open Bool renaming and_eq_true->Ee
set_option maxRecDepth 100000
set_option maxHeartbeats 8000000
namespace jc
open Ax Go aO dh
def teq(s t:T3):Bool:=decide (s.b=t.b)&&(decide (s.r=t.r)&&decide (s.d=t.d))
@[simp]theorem T3.eta(t:T3):(⟨t.b,t.r,t.d⟩:T3)=t:=rfl
@[simp high]theorem aCr(a b c h B C:Int):MM (.flat [.int,.int,.int]) (.agg [.int .i64 a,.int .i64 b,.int .i64 c]) (.agg [.int .i64 h,.int .i64 B,.int .i64 C])=some (teq ⟨a,b,c⟩ ⟨h,B,C⟩):=by
 simp[teq]
def LD{m:Type}(p:m->Bool)(l:List m)(k:Nat):Prop:=∀j (h:j<l.length),j<k->p l[j]=true
theorem vD{j:Type}{p:j->Bool}{l:List j}:LD p l 0:=λ_ _ h=>au h (by omega)
theorem vE{m:Type}{p:m->Bool}{l:List m}{k:Nat}(h:LD p l k)(n:k<l.length)(H:p l[k]=true):LD p l (k+1):=by
 intro j J X;rcases Nat.lt_or_ge j k with U|U;exact h j J U;have:j=k:=by omega
 subst this;exact H
theorem yO{k:Type}{p:k->Bool}{l:List k}(h:LD p l l.length):l.all p=true:=by
 rw[ac3];intro q H;obtain⟨j,X,rfl⟩:=List.mem_iff_getElem.1 H;exact h j X X
theorem pV{h:Type}{p:h->Bool}{l:List h}{k:Nat}(H:k<l.length)(j:p l[k]=false):l.all p=false:=
 List.all_eq_false.2 ⟨_,acH H,by simp[j]⟩
def wS(n:Nat)(t:T3):Bool:=decide (¬t.d<0)&&decide (¬3<t.d)&&if t.b=1\/t.b=2 then decide (t.r=0) else decide (t.b=3)&&decide (0<=t.r)&&decide (t.r<n)
theorem ON(w k:Nat){x:XD}(t:T3)(st:aj)(hx:x.ok) :
  (aZ S).call w k 104 [qm x,.agg [.int .i64 t.b,.int .i64 t.r,.int .i64 t.d]] st=some (.bool (wS (pD x.aU).length t),st):=by
 have j:=hx.sl;have H:=xI hx.aU;refine bE (sf:=Nx) rfl rfl (by simp[hx.pure]) rfl (by simp) ?_;unfold wS;by_cases d0:t.d<0;simp[Nx,qm,j,d0];by_cases D:3<t.d;simp[Nx,qm,j,d0,D];by_cases B:t.b=1;simp[Nx,qm,j,d0,D,B];by_cases h:t.b=2;simp[Nx,qm,j,d0,D,h];by_cases n:t.b=3;by_cases r0:0<=t.r;simp[Nx,qm,j,H,d0,D,n,r0];simp[Nx,qm,j,d0,D,n,r0];simp[Nx,qm,j,d0,D,B,h,n]
theorem Rz(W s:Nat){x:XD}(l:AV)(st:aj)(hx:x.ok)(h:Ar l=true)(y:(dn l).length<1000000000) :
  (aZ S).call W s 47 [qm x,l] st=some (.bool ((dn l).all (wS (pD x.aU).length)),st):=by
 have m:=hx.sl;have n:=pz h;have r:=oN h;have p:=λt=>ON 0 0 (x:=x) t [] hx;simp only[qm]at p;refine bE (sf:=s47) rfl rfl (by simp[hx.pure,eC n]) rfl (by simp) ?_;simp[s47,qm,m,n,r,lE h];refine bN aa6.eq_1 (λq:Nat×List AV=>⟨[(2,.fp 0 0),(7,.val l),(8,.val (.int .i64 (dn l).length)),(9,.val (.int .i64 q.1))],[[x.aU,x.az,x.aR,x.aJ,.int .i64 x.main],q.2],[]⟩)
  (λq=>q.1<=(dn l).length/\LD (wS (pD x.aU).length) (dn l) q.1) (λq=>(dn l).length-q.1) (0,[]) (by simp) ⟨by simp,vD⟩ ?_
 rintro⟨k,C⟩ ⟨v,j⟩ I;simp only at v j I;by_cases F:k<(dn l).length;have w:=wk k (by omega);have o:=p (dn l)[k];cases e:wS (pD x.aU).length (dn l)[k] with
 |true=>
  simp[m,h,lE h,F,o,e,w];exact I (k+1,_) ⟨by simp;omega,vE j F e⟩ (by simp;omega)
 |false=>
  have H:=pV F e;simp[m,h,lE h,F,o,e,H]
 have G:k=(dn l).length:=by omega
 have H:=yO (G ▸ j);simp[F,H]
end jc
namespace jc
open Ax Go aO dh
abbrev nr(x:XD):Nat:=(pD x.aU).length
def HW(n:Nat)(r:RD):Bool:=decide (¬8<(AE r.cF).length)&&(AE r.cF).all (λf=>wS n f.t)
theorem YS(W y:Nat){x:XD}(st:aj)(hx:x.ok)(O:(pD x.aU).length<1000000000) :
  (aZ S).call W y 46 [qm x] st=some (.bool ((pD x.aU).all (HW (nr x))),st):=by
 have H:=hx.sl;have z:=hx.aU;have o:=xI hx.aU;have s:=λt=>ON 0 0 (x:=x) t [] hx;simp only[qm]at s;refine bE (sf:=s46) rfl rfl (by simp[hx.pure]) rfl (by simp) ?_;simp[s46,qm,H,o];refine bN aa3.eq_1 (λq:Nat×List AV×List AV=>⟨[(1,.fp 0 0),(8,.val x.aU),(9,.val (.int .i64 (pD x.aU).length)),(10,.val (.int .i64 q.1))],[[x.aU,x.az,x.aR,x.aJ,.int .i64 x.main],q.2.1,q.2.2],[]⟩)
  (λq=>q.1<=(pD x.aU).length/\LD (HW (nr x)) (pD x.aU) q.1) (λq=>(pD x.aU).length-q.1) (0,[],[]) (by simp) ⟨by simp,vD⟩ ?_
 rintro⟨k,E,B⟩ ⟨C,v⟩ w;simp only at C v w;by_cases F:k<(pD x.aU).length;have D:=wk k (by omega);have l:=KD z _ (acH F);have J:=Ug l;have T:=OI l;have n:=Ir l;by_cases g:8<(AE (pD x.aU)[k].cF).length;have G:(8:Int)<((AE (pD x.aU)[k].cF).length:Int):=by omega
 have m:=pV (p:=HW (nr x)) F (by simp[HW,g]);simp[H,o,F,z,RD.cells,l,T,n,G,m];have G:¬(8:Int)<((AE (pD x.aU)[k].cF).length:Int):=by omega
 simp[H,o,F,z,RD.cells,l,T,n,G];refine bN aa2.eq_1 (λq:Nat×List AV=>⟨[(1,.fp 0 0),(8,.val x.aU),(9,.val (.int .i64 (pD x.aU).length)),(10,.val (.int .i64 k)),(19,.val (pD x.aU)[k].cF),(20,.val (.int .i64 (AE (pD x.aU)[k].cF).length)),(21,.val (.int .i64 q.1))],
   [[x.aU,x.az,x.aR,x.aJ,.int .i64 x.main],[.str (pD x.aU)[k].name,(pD x.aU)[k].cF],q.2],[]⟩)
  (λq=>q.1<=(AE (pD x.aU)[k].cF).length/\LD (λf=>wS (nr x) f.t) (AE (pD x.aU)[k].cF) q.1) (λq=>(AE (pD x.aU)[k].cF).length-q.1) (0,B) (by simp) ⟨by simp,vD⟩ ?_
 rintro⟨j,K⟩ ⟨X,N⟩ I;simp only at X N I;by_cases Y:j<(AE (pD x.aU)[k].cF).length;have L:=wk j (by omega);have r:=s (AE (pD x.aU)[k].cF)[j].t;cases e:wS (nr x) (AE (pD x.aU)[k].cF)[j].t with
 |true=>
  simp[H,l,n,Y,FD.cells,r,e,L];exact I (j+1,_) ⟨by simp;omega,vE N Y e⟩ (by simp;omega)
 |false=>
  have h:=pV (p:=λf:FD=>wS (nr x) f.t) Y e;have m:=pV (p:=HW (nr x)) F (by simp only[HW,h,Bool.and_false]);simp[H,l,n,Y,FD.cells,r,e,m]
 have U:j=(AE (pD x.aU)[k].cF).length:=by omega
 have h:=yO (U ▸ N);simp[Y,D];exact w (k+1,_,_) ⟨by simp;omega,vE v F (by grind [HW])⟩ (by simp;omega);have M:k=(pD x.aU).length:=by omega
 simp_all [yO]
def xJ(n N:Nat)(s:SD):Bool:=wS n s.t&&mh s.t&&decide (¬s.fn<0)&&decide (s.fn<N)
theorem adl(W y:Nat){x:XD}(st:aj)(hx:x.ok)(D:(ox x.aJ).length<1000000000) :
  (aZ S).call W y 48 [qm x] st=some (.bool ((ox x.aJ).all (xJ (nr x) (iI x.aR).length)),st):=by
 have l:=hx.sl;have m:=hx.aJ;have j:=zT hx.aJ;have o:=nJ hx.aR;have w:=λt=>ON 0 0 (x:=x) t [] hx;simp only[qm]at w;refine bE (sf:=s48) rfl rfl (by simp[hx.pure]) rfl (by simp) ?_;simp[s48,qm,l,j];refine bN abE.eq_1 (λq:Nat×List AV=>⟨[(1,.fp 0 0),(6,.val x.aJ),(7,.val (.int .i64 (ox x.aJ).length)),(8,.val (.int .i64 q.1))],[[x.aU,x.az,x.aR,x.aJ,.int .i64 x.main],q.2],[]⟩)
  (λq=>q.1<=(ox x.aJ).length/\LD (xJ (nr x) (iI x.aR).length) (ox x.aJ) q.1) (λq=>(ox x.aJ).length-q.1) (0,[]) (by simp) ⟨by simp,vD⟩ ?_
 rintro⟨k,C⟩ ⟨z,s⟩ I;simp only at z s I;by_cases F:k<(ox x.aJ).length;have B:=wk k (by omega);have n:=w (ox x.aJ)[k].t;have r:=λa b c=>adk 0 0 a b c [];cases e:wS (nr x) (ox x.aJ)[k].t with
 |true=>
  cases E:mh (ox x.aJ)[k].t with
  |true=>
   by_cases f0:(ox x.aJ)[k].fn<0;have H:=pV (p:=xJ (nr x) (iI x.aR).length) F (by simp[xJ,f0]);simp[l,m,j,F,SD.cells,n,r,e,E,f0,H];by_cases v:(ox x.aJ)[k].fn<(iI x.aR).length;have h:¬((iI x.aR).length:Int)<=(ox x.aJ)[k].fn:=(by omega);simp[l,m,j,o,F,SD.cells,n,r,e,E,f0,h,B];exact I (k+1,_) ⟨by simp;omega,vE s F (by simp[xJ,e,E,v];omega)⟩ (by simp;omega);have h:((iI x.aR).length:Int)<=(ox x.aJ)[k].fn:=(by omega);have H:=pV (p:=xJ (nr x) (iI x.aR).length) F (by simp[xJ,v]);simp[l,m,j,o,F,SD.cells,n,r,e,E,f0,h,H]
  |false=>
   have H:=pV (p:=xJ (nr x) (iI x.aR).length) F (by simp[xJ,E]);simp[l,m,j,F,SD.cells,n,r,e,E,H]
 |false=>
  have H:=pV (p:=xJ (nr x) (iI x.aR).length) F (by simp[xJ,e]);simp[l,m,j,F,SD.cells,n,e,H]
 have G:k=(ox x.aJ).length:=by omega
 have H:=yO (G ▸ s);simp[F,H]
end jc
namespace jc
open Ax Go aO dh
def RA(l:List ID):Bool:=match l.getLast? with
 |some i=>decide (i.op=16)||decide (i.op=17)||decide (i.op=18)
 |none=>false
theorem KJ{l:List ID}{m:Nat}(h:l.length=m+1):RA l=(decide ((l[m]'(by omega)).op=16)||decide ((l[m]'(by omega)).op=17)||decide ((l[m]'(by omega)).op=18)):=by
 grind [RA]
def EW(x:XD)(f:Int)(c:CD):Bool:=decide (¬c.params<0)&&decide (¬6<c.params)&&decide (¬((dn c.vars).length:Int)<c.params)&&decide (¬4000<((dn c.vars).length:Int)) &&
 decide (¬((mF c.jr).length:Int)=0)&&(dn c.vars).all (wS (nr x))&&(if c.bR then wS (nr x) c.res else teq c.res ⟨0,0,0⟩)&&(mF c.jr).all (Bx x f)&&RA (mF c.jr)
theorem ag9(wl ah:Nat){x:XD}(k:Nat)(H:k<(iI x.aR).length)(st:aj)(hx:x.ok)(hb:∀g∈iI x.aR,(dn g.vars).length<1000000000)(Ji:∀g∈iI x.aR,(mF g.jr).length<1000000000) :
  (aZ S).call wl ah 106 [qm x,.int .i64 k] st=some (.bool (EW x k (iI x.aR)[k]),st):=by
 have h:=hx.sl;have s:=hx.aR;have v:=nJ hx.aR;have V:=rC s _ (acH H);have hT:=V.1;have t:=pz V.1;have p:=oN V.1;have Y:=lE V.1;have l:=V.2;have z:=Bu V.2;have w:=zR V.2;have M:=Is V.2;have hbn:=Ji _ (acH H);have G:=Rz 0 0 (x:=x) (iI x.aR)[k].vars [] hx hT (hb _ (acH H));have hm:=ON 0 0 (x:=x) (iI x.aR)[k].res [] hx;simp only[qm]at hm G;refine bE (sf:=HI) rfl rfl (by simp[hx.pure]) rfl (by simp) ?_;generalize W:(iI x.aR)[k]=c at *;unfold EW;by_cases P:c.params<0;simp[HI,qm,h,v,s,H,W,CD.cells,t,p,z,w,P];by_cases y:6<c.params;simp[HI,qm,h,v,s,H,W,CD.cells,t,p,z,w,P,y];by_cases pv:((dn c.vars).length:Int)<c.params;simp[HI,qm,h,v,s,H,W,CD.cells,t,p,Y,z,w,P,y,pv];by_cases v4:4000<((dn c.vars).length:Int);simp[HI,qm,h,v,s,H,W,CD.cells,t,p,Y,z,w,P,y,pv,v4];by_cases I:mF c.jr=[];simp[HI,qm,h,v,s,H,W,CD.cells,t,p,Y,z,w,M,P,y,pv,v4,I];cases Z:(dn c.vars).all (wS (nr x)) with
 |false=>simp[HI,qm,h,v,s,H,W,CD.cells,t,p,Y,z,w,M,P,y,pv,v4,I,G,Z]|true=>
  cases R:c.bR with
  |true=>
   cases J:wS (nr x) c.res with
   |false=>simp[HI,qm,h,v,s,H,W,CD.cells,t,p,Y,z,w,M,P,y,pv,v4,I,G,Z,R,hm,J,aD,aC]|true=>
    simp[HI,qm,h,v,s,H,W,CD.cells,t,p,Y,z,w,M,P,y,pv,v4,I,G,Z,R,hm,J,aD,aC];refine bN NF.eq_1 (λq:Nat×List AV=>⟨[(1,.val (.int .i64 k)),(2,.fp 0 0),(5,.fp 1 0),(70,.val c.jr),(71,.val (.int .i64 (mF c.jr).length)),(72,.val (.int .i64 q.1))],
      [[x.aU,x.az,x.aR,x.aJ,.int .i64 x.main],[.int .i64 c.params,c.vars,.bool true,.int .i64 c.res.b,.int .i64 c.res.r,.int .i64 c.res.d,c.jr],q.2],[]⟩)
     (λq=>q.1<=(mF c.jr).length/\LD (Bx x k) (mF c.jr) q.1) (λq=>(mF c.jr).length-q.1) (0,[]) (by simp) ⟨by simp,vD⟩ ?_
    rintro⟨j,bb⟩ ⟨U,D⟩ L;simp only at U D L;by_cases F:j<(mF c.jr).length;have hw:=wk j (by omega);have O:=KF l _ (acH F);have E:=oL 0 0 (x:=x) (k:Int) (i:=(mF c.jr)[j]) [] hx O.2 O.1 hb;have B:=eA O.2;have o:=bT O.1 B;simp only[qm,Bw]at E;cases e:Bx x k (mF c.jr)[j] with
    |true=>
     simp[h,l,M,F,ID.cells,B,o,E,e,hw];exact L (j+1,_) ⟨by simp;omega,vE D F e⟩ (by simp;omega)
    |false=>
     have n:=pV F e;simp[h,l,M,F,ID.cells,B,o,E,e,n]
    have vm:j=(mF c.jr).length:=(by omega);have n:=yO (vm ▸ D);obtain⟨m,K⟩:∃m,(mF c.jr).length=m+1:=⟨(mF c.jr).length-1,by have:=agV.2 I;omega⟩;have C:m<(mF c.jr).length:=(by omega);have X:IntKind.i64.wrap (((mF c.jr).length:Int)-1)=(m:Int):=(by rw[dY]<;>omega);have T:=KJ K;by_cases N:(mF c.jr)[m].op=16;simp[l,M,F,n,X,C,ID.cells,T,N];by_cases Q:(mF c.jr)[m].op=17;simp[l,M,F,n,X,C,ID.cells,T,Q];simp[l,M,F,n,X,C,ID.cells,T,N,Q]
  |false=>
   cases Sk:teq c.res ⟨0,0,0⟩ with
   |false=>simp[HI,qm,h,v,s,H,W,CD.cells,t,p,Y,z,w,M,P,y,pv,v4,I,G,Z,R,ET,Sk,aD,aC]|true=>
    simp[HI,qm,h,v,s,H,W,CD.cells,t,p,Y,z,w,M,P,y,pv,v4,I,G,Z,R,ET,Sk,aD,aC];refine bN NF.eq_1 (λq:Nat×List AV=>⟨[(1,.val (.int .i64 k)),(2,.fp 0 0),(5,.fp 1 0),(70,.val c.jr),(71,.val (.int .i64 (mF c.jr).length)),(72,.val (.int .i64 q.1))],
      [[x.aU,x.az,x.aR,x.aJ,.int .i64 x.main],[.int .i64 c.params,c.vars,.bool false,.int .i64 c.res.b,.int .i64 c.res.r,.int .i64 c.res.d,c.jr],q.2],[]⟩)
     (λq=>q.1<=(mF c.jr).length/\LD (Bx x k) (mF c.jr) q.1) (λq=>(mF c.jr).length-q.1) (0,[]) (by simp) ⟨by simp,vD⟩ ?_
    rintro⟨j,bb⟩ ⟨U,D⟩ L;simp only at U D L;by_cases F:j<(mF c.jr).length;have hw:=wk j (by omega);have O:=KF l _ (acH F);have E:=oL 0 0 (x:=x) (k:Int) (i:=(mF c.jr)[j]) [] hx O.2 O.1 hb;have B:=eA O.2;have o:=bT O.1 B;simp only[qm,Bw]at E;cases e:Bx x k (mF c.jr)[j] with
    |true=>
     simp[h,l,M,F,ID.cells,B,o,E,e,hw];exact L (j+1,_) ⟨by simp;omega,vE D F e⟩ (by simp;omega)
    |false=>
     have n:=pV F e;simp[h,l,M,F,ID.cells,B,o,E,e,n]
    have vm:j=(mF c.jr).length:=(by omega);have n:=yO (vm ▸ D);obtain⟨m,K⟩:∃m,(mF c.jr).length=m+1:=⟨(mF c.jr).length-1,by have:=agV.2 I;omega⟩;have C:m<(mF c.jr).length:=(by omega);have X:IntKind.i64.wrap (((mF c.jr).length:Int)-1)=(m:Int):=(by rw[dY]<;>omega);have T:=KJ K;by_cases N:(mF c.jr)[m].op=16;simp[l,M,F,n,X,C,ID.cells,T,N];by_cases Q:(mF c.jr)[m].op=17;simp[l,M,F,n,X,C,ID.cells,T,Q];simp[l,M,F,n,X,C,ID.cells,T,N,Q]
end jc
namespace jc
open Ax Go aO dh
def wM(x:XD):List CD->Int->Int->Bool
 |[],_,_=>true|c::l,f,n=>decide (¬2500<n+(mF c.jr).length)&&EW x f c&&wM x l (f+1) (n+(mF c.jr).length)
theorem adm(y m:Nat){x:XD}(st:aj)(hx:x.ok)(B:(iI x.aR).length<1000000000)(hb:∀g∈iI x.aR,(dn g.vars).length<1000000000)(Ji:∀g∈iI x.aR,(mF g.jr).length<1000000000) :
  (aZ S).call y m 49 [qm x] st=some (.bool (wM x (iI x.aR) 0 0),st):=by
 have h:=hx.sl;have s:=hx.aR;have H:=nJ hx.aR;refine bE (sf:=s49) rfl rfl (by simp[hx.pure]) rfl (by simp) ?_;simp[s49,qm,h,H];refine bN abh.eq_1 (λq:Nat×Int×List AV=>⟨[(1,.fp 0 0),(3,.val (.int .i64 q.2.1)),(7,.val x.aR),(8,.val (.int .i64 (iI x.aR).length)),(9,.val (.int .i64 q.1))],[[x.aU,x.az,x.aR,x.aJ,.int .i64 x.main],q.2.2],[]⟩)
  (λq=>q.1<=(iI x.aR).length/\0<=q.2.1/\q.2.1<=2500/\wM x (iI x.aR) 0 0=wM x ((iI x.aR).drop q.1) q.1 q.2.1) (λq=>(iI x.aR).length-q.1) (0,0,[]) (by simp) ⟨by simp,by simp,by simp,by simp⟩ ?_
 rintro⟨k,n,C⟩ ⟨p,L,Z,j⟩ I;simp only at p L Z j I;by_cases F:k<(iI x.aR).length;have t:=wk k (by omega);have v:=rC s _ (acH F);have o:=Ji _ (acH F);have U:=ag9 0 0 (x:=x) k F [] hx hb Ji;simp only[qm]at U;rw[List.drop_eq_getElem_cons F]at j;simp only[wM]at j;have l:=pz v.1;have r:=oN v.1;have z:=Bu v.2;have w:=zR v.2;have M:=Is v.2;generalize W:(iI x.aR)[k]=c at *;have X:IntKind.i64.wrap (n+((mF c.jr).length:Int))=n+((mF c.jr).length:Int):=by rw[dY]<;>omega
 by_cases g:2500<n+((mF c.jr).length:Int);simp[h,H,s,F,W,CD.cells,l,r,z,w,M,X,g,j];cases e:EW x k c with
 |false=>simp[h,H,s,F,W,CD.cells,l,r,z,w,M,X,g,j,U,e]|true=>
  simp[h,H,s,F,W,CD.cells,l,r,z,w,M,X,g,U,e,t];refine I (k+1,n+((mF c.jr).length:Int),_) ⟨by simp;omega,by simp;omega,by simp;omega,?_⟩ (by simp;omega)
  grind
 have G:k=(iI x.aR).length:=by omega
 simp_all [wM]
def mU(x:XD):Bool:=decide (¬12<((pD x.aU).length:Int))&&decide (¬8<((dn x.az).length:Int))&&decide (¬iI x.aR=[])&&decide (¬16<((iI x.aR).length:Int)) &&
 decide (¬60<((ox x.aJ).length:Int))&&(match pU (iI x.aR) x.main with
  |none=>false|some m=>decide (m.params=0) && !m.bR)&&(pD x.aU).all (HW (nr x))&&(dn x.az).all (wS (nr x))&&(ox x.aJ).all (xJ (nr x) (iI x.aR).length)&&wM x (iI x.aR) 0 0
theorem RB(W J:Nat){x:XD}(st:aj)(hx:x.ok)(hb:∀g∈iI x.aR,(dn g.vars).length<1000000000)(Ji:∀g∈iI x.aR,(mF g.jr).length<1000000000) :
  (aZ S).call W J 17 [qm x] st=some (.bool (mU x),st):=by
 have h:=hx.sl;have s:=hx.aR;have H:aY x.aU=(pD x.aU).map RD.cells/\aY x.az=(dn x.az).map T3.cells/\aY x.aR=(iI x.aR).map CD.cells/\aY x.aJ=(ox x.aJ).map SD.cells:=
  ⟨xI hx.aU,lE hx.az,nJ hx.aR,zT hx.aJ⟩
 refine bE (sf:=Tr) rfl rfl (by simp[hx.pure]) rfl (by simp) ?_;unfold mU;by_cases j:12<((pD x.aU).length:Int);simp[Tr,qm,h,H,j];by_cases l:8<((dn x.az).length:Int);simp[Tr,qm,h,H,j,l];by_cases n:iI x.aR=[];simp[Tr,qm,h,H,j,l,n];by_cases y:16<((iI x.aR).length:Int);simp[Tr,qm,h,H,j,l,n,y];by_cases z:60<((ox x.aJ).length:Int);simp[Tr,qm,h,H,j,l,n,y,z];cases O:pU (iI x.aR) x.main with
 |none=>
  rcases sF O with I|⟨I,K⟩;simp[Tr,qm,h,H,j,l,n,y,z,I];have D:¬x.main<0:=by omega
  simp[Tr,qm,h,H,j,l,n,y,z,D,K]
 |some m=>
  obtain⟨k,o,G,p⟩:=mA O;have D:¬(k:Int)<0:=by omega
  have q:¬((iI x.aR).length:Int)<=(k:Int):=by omega
  have V:=rC s m (p ▸ acH G);have v:=pz V.1;have r:=oN V.1;have t:=Bu V.2;have w:=zR V.2;have E:=YS 0 0 [] hx (by omega);have B:=Rz 0 0 (x:=x) x.az [] hx hx.az (by omega);have C:=adl 0 0 [] hx (by omega);have F:=adm 0 0 [] hx (by omega) hb Ji;simp only[qm,o]at E B C F;by_cases P:m.params=0;cases Y:m.bR with
  |true=>simp[Tr,qm,h,H,s,j,l,n,y,z,o,G,D,q,p,CD.cells,v,r,t,w,P,Y]|false=>
   cases q1:(pD x.aU).all (HW (nr x)) with
   |false=>simp[Tr,qm,h,H,s,j,l,n,y,z,o,G,D,q,p,CD.cells,v,r,t,w,P,Y,E,q1]|true=>
    cases q2:(dn x.az).all (wS (nr x)) with
    |false=>simp[Tr,qm,h,H,s,j,l,n,y,z,o,G,D,q,p,CD.cells,v,r,t,w,P,Y,E,q1,B,q2]|true=>
     cases Q:(ox x.aJ).all (xJ (nr x) (iI x.aR).length) with
     |false=>simp[Tr,qm,h,H,s,j,l,n,y,z,o,G,D,q,p,CD.cells,v,r,t,w,P,Y,E,q1,B,q2,C,Q]|true=>simp[Tr,qm,h,H,s,j,l,n,y,z,o,G,D,q,p,CD.cells,v,r,t,w,P,Y,E,q1,B,q2,C,Q,F]
  simp[Tr,qm,h,H,s,j,l,n,y,z,o,G,D,q,p,CD.cells,v,r,t,w,P]
end jc
namespace jc
open Ax Go aO dh
theorem arA{v:AV}(h:YM v=true):∀s∈ox v,sS s.t.d=true:=by
 intro r H;obtain⟨x,hx,rfl⟩:=List.mem_map.1 H;have:=lR h x hx;unfold Wl at this;unfold dS
 grind
def YT(x:XD)(r:Nat)(n:Nat):List (List AV):=(((pD x.aU)[r]?.map λq=>AE q.cF).getD []).take n |>.map λf=>f.t.cells
theorem Ul{x:XD}{r n:Nat}(h:r<(pD x.aU).length):YT x r n=((AE (pD x.aU)[r].cF).take n).map λf=>f.t.cells:=by
 simp[YT,h]
def wN(x:XD)(k:Nat):AV:=match (ox x.aJ)[k]? with
 |none=>.aF|some s=>if 0<s.t.d then .dV 3 [[.int .i64 s.t.b,.int .i64 s.t.r,.int .i64 (s.t.d-1)]] else cq 3 (YT x s.t.r.toNat 1000000000)
def sG(x:XD)(n:Int):AV:=if mU x=true/\0<=n/\n<((ox x.aJ).length:Int) then wN x n.toNat else .aF
theorem RC(x:XD)(n:Int):∃l:List T3,cN 3 (sG x n)=true/\aY (sG x n)=l.map T3.cells:=by
 unfold sG;split;unfold wN;split
 grind
 rename_i s _;split;exact⟨[⟨s.t.b,s.t.r,s.t.d-1⟩],rfl,rfl⟩;refine⟨(((pD x.aU)[s.t.r.toNat]?.map λq=>AE q.cF).getD []).take 1000000000 |>.map λf=>f.t,?_,?_⟩;rw[Ih];refine ac3.2 λr H=>?_;obtain⟨f,_,rfl⟩:=List.mem_map.1 H
 rfl
 rw[oe];simp only[YT,List.map_map]
 rfl
 simp_all
theorem adn{x:XD}(j:mU x=true){k:Nat}(l:k<(ox x.aJ).length)(m:¬0<(ox x.aJ)[k].t.d):∃r:Nat,(ox x.aJ)[k].t.r=r/\r<(pD x.aU).length:=by
 simp only[mU,Ee]at j;have h:=ac3.1 j.1.2 _ (acH l);simp only[xJ,Ee,wS,mh,Bool.or_eq_true,aA]at h;obtain⟨⟨⟨⟨_,H⟩,n⟩,_⟩,_⟩:=h;have hb:(ox x.aJ)[k].t.b=3:=by
  grind
 rw[U (by omega)]at H;simp only[Ee,aA,nr]at H;obtain⟨⟨_,o⟩,V⟩:=H;exact⟨(ox x.aJ)[k].t.r.toNat,by omega,by omega⟩
theorem ado{x:XD}(H:mU x=true):∀r∈pD x.aU,(AE r.cF).length<100:=by
 simp only[mU,Ee]at H;intro r h;have:=ac3.1 H.1.1.1.2 r h;simp only[HW,Ee,aA]at this;omega
section
variable {x:XD}(hx:x.ok)(hb:∀g∈iI x.aR,(dn g.vars).length<1000000000)(Ji:∀g∈iI x.aR,(mF g.jr).length<1000000000)
include hx hb Ji
theorem By(W F:Nat)(n:Int)(st:aj):(aZ S).call W F 20 [qm x,.int .i64 n] st=some (sG x n,st):=by
 have p:=hx.sl;have w:=hx.aJ;have B:=hx.aU;have y:aY x.aU=(pD x.aU).map RD.cells/\aY x.aJ=(ox x.aJ).map SD.cells:=⟨xI hx.aU,zT hx.aJ⟩;have m:=RB 0 0 [] hx hb Ji;simp only[qm]at m;refine bE (sf:=s20) rfl rfl (by simp[hx.pure]) rfl (by obtain⟨l,h,_⟩:=RC x n;simp[kL h]) ?_;cases E:mU x with
 |false=>simp[s20,qm,p,m,E,sG]|true=>
  by_cases s:n<0;have D:¬0<=n:=by omega
  simp[s20,qm,p,m,E,sG,s,D];obtain⟨k,rfl⟩:∃k:Nat,n=k:=⟨n.toNat,by omega⟩;by_cases o:k<(ox x.aJ).length;have V:¬((ox x.aJ).length:Int)<=(k:Int):=by omega
  have G:=arA w _ (acH o);by_cases d0:0<(ox x.aJ)[k].t.d;have z:IntKind.i64.wrap ((ox x.aJ)[k].t.d-1)=(ox x.aJ)[k].t.d-1:=by
   simp only[sS,Ee,aA]at G;rw[dY]<;>omega
  simp[s20,qm,p,y,w,m,E,sG,wN,s,o,V,SD.cells,d0,z];obtain⟨r,L,T⟩:=adn E o d0;have v:=KD B _ (acH T);have J:=Ug v;have Y:=OI v;have H:=Ir v;have K:=ado E _ (acH T);have ev:sG x (k:Int)=cq 3 (YT x r 1000000000):=by grind [sG,wN]
  rw[ev];simp[s20,qm,p,y,w,B,m,E,s,o,V,SD.cells,RD.cells,d0,L,T,J,Y,H];refine bN abr.eq_1 (λq:Nat×List AV=>⟨[(6,.val (cq 3 (YT x r q.1))),(44,.val (pD x.aU)[r].cF),(45,.val (.int .i64 (AE (pD x.aU)[r].cF).length)),(46,.val (.int .i64 q.1))],
    [[x.aU,x.az,x.aR,x.aJ,.int .i64 x.main],[.int .i64 (ox x.aJ)[k].t.b,.int .i64 r,.int .i64 (ox x.aJ)[k].t.d],q.2],[]⟩)
   (λq=>q.1<=(AE (pD x.aU)[r].cF).length) (λq=>(AE (pD x.aU)[r].cF).length-q.1) (0,[]) (by simp[YT,sQ]) (by simp) ?_
  rintro⟨j,N⟩ X I;simp only at X I;by_cases M:j<(AE (pD x.aU)[r].cF).length;have z:=wk j (by omega);have C:v8 3 24 (cq 3 (YT x r j)) [(AE (pD x.aU)[r].cF)[j].t.cells]=some (cq 3 (YT x r (j+1))):=by
   rw[gP (by rfl) (by simp[cZ,Ul T];omega)]
   grind [Ul,List.take_succ_eq_append_getElem]
  simp only[T3.cells]at C;simp[v,H,M,FD.cells,C,z];exact I (j+1,_) (by simp;omega) (by simp;omega);have U:j=(AE (pD x.aU)[r].cF).length:=by omega
  have e:YT x r 1000000000=YT x r j:=by
   grind [Ul]
  simp_all;have V:((ox x.aJ).length:Int)<=(k:Int):=by omega
  simp[s20,qm,p,y,m,E,sG,s,o,V]
end
end jc
namespace jc
open Ax Go aO dh
def FO{m:Type}(p:m->Bool)(l:List m)(k:Nat):Prop:=∀j (h:j<l.length),j<k->p l[j]=false
theorem B9{j:Type}{p:j->Bool}{l:List j}:FO p l 0:=λ_ _ h=>au h (by omega)
theorem Ca{m:Type}{p:m->Bool}{l:List m}{k:Nat}(h:FO p l k)(n:k<l.length)(H:p l[k]=false):FO p l (k+1):=by
 intro j J X;rcases Nat.lt_or_ge j k with U|U;exact h j J U;have:j=k:=by omega
 subst this;exact H
end jc
