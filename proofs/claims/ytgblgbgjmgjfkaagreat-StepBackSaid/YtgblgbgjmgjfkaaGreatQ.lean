/- Part of a proof. -/
import Derived.Test.YtgblgbgjmgjfkaaGreatR
import Derived.Test.YtgblgbgjmgjfkaaGreatX
import Derived.Test.YtgblgbgjmgjfkaaGreatE

open List renaming length->Q
open Option renaming some->Z
open Bool renaming true->Y,false->X
open List renaming drop_eq_getElem_cons->aan,any_cons->anc,drop_length->aaF,nil_append->aeN,take_succ_eq_append_getElem->adB,map_append->afn,take_length->apx
open Bool renaming false_or->aks
set_option maxRecDepth 100000
set_option maxHeartbeats 2000000
namespace LN
open Ax Go aM V7 jb jn qA
open uE (Bl eK DG DH qC qD qE nq fK fz Fb g8 oh sC pX pz jW)
theorem anE(b pre)(g:Sg)(N:b.bY=g.bY)(q:b.res=g.res)(x:Q b.vars<1000000000-10)(w:Q b.is<1000000000-10):
  (bh S).call 0 0 39 [.ptr (Q pre) 0 0 0] (kD b pre)=Z (.fC [],kD { b with vars:=b.vars++(if g.bY then [g.res] else []),is:=b.is++xu g (Q b.vars) } pre):=by
 have p:tG []=.aF:=rfl;have r:=λC L st=>U7.AO C L g.res st;simp only[T3.cells]at r;cases U:g.bY with
 |false=>
  have o:=pC b pre ⟨18,-1,0,0,0,[]⟩ (by omega);have l:{ b with vars:=b.vars++(if g.bY then [g.res] else []),is:=b.is++xu g (Q b.vars) }={ b with is:=b.is++[⟨18,-1,0,0,0,[]⟩] }:=by simp[U,xu]
  rw[U]at l;rw[l];simp only[In.aK,p]at o;generalize kD { b with is:=b.is++[⟨18,-1,0,0,0,[]⟩] } pre=qh at *;rw[U]at N;refine aG (sf:=s39) rfl rfl rfl ?_;have F:(kD b pre)[Q pre]?=Z (.rows 0 13 [qo b (Q pre+1)]):=Hf _ _ _;simp only[qo,N]at F;generalize kD b pre=st at *;simp[s39,F,cut,o,aB]
 |true=>
  have m:=λL=>Pp L b pre g.res (by omega);have h:=pC { b with vars:=b.vars++[g.res] } pre ⟨if lS g.res then 2 else 1,(Q b.vars:Int),0,0,0,[]⟩ (by show Q b.is<_;omega);have j:=pC { b with vars:=b.vars++[g.res],is:=b.is++[⟨if lS g.res then 2 else 1,(Q b.vars:Int),0,0,0,[]⟩] } pre ⟨18,(Q b.vars:Int),0,0,0,[]⟩ (by show Q (b.is++[_])<_;simp;omega);have l:{ b with vars:=b.vars++(if g.bY then [g.res] else []),is:=b.is++xu g (Q b.vars) }={ b with vars:=b.vars++[g.res],is:=b.is++[⟨if lS g.res then 2 else 1,(Q b.vars:Int),0,0,0,[]⟩]++[⟨18,(Q b.vars:Int),0,0,0,[]⟩] }:=by simp[U,xu]
  rw[U]at l;rw[l];simp only[In.aK,p]at h j;simp only[T3.cells]at m;rw[U]at N;generalize kD { b with vars:=b.vars++[g.res],is:=b.is++[⟨if lS g.res then 2 else 1,(Q b.vars:Int),0,0,0,[]⟩]++[⟨18,(Q b.vars:Int),0,0,0,[]⟩] } pre=v,kD { b with vars:=b.vars++[g.res],is:=b.is++[⟨if lS g.res then 2 else 1,(Q b.vars:Int),0,0,0,[]⟩] } pre=t at *;obtain⟨qh,k⟩:∃s,s=kD { b with vars:=b.vars++[g.res] } pre:=⟨_,rfl⟩;rw[<-k]at m h;have F:(kD b pre)[Q pre]?=Z (.rows 0 13 [qo b (Q pre+1)]):=Hf _ _ _;simp only[qo,N,q]at F;have n:qh[Q pre]?=Z (.rows 0 13 [qo { b with vars:=b.vars++[g.res] } (Q pre+1)]):=by rw[k];exact Hf _ _ _
  simp only[qo,N,q]at n;generalize kD b pre=st at *;refine aG (sf:=s39) rfl rfl rfl ?_;cases H:lS g.res with
  |false=>
   rw[H]at r;simp only[H,Bool.false_eq_true,bC]at h;simp[s39,F,n,cut,m,r,h,j,aB]
  |true=>
   rw[H]at r;simp only[H,bz]at h;simp[s39,F,n,cut,m,r,h,j,aB]
end LN
namespace LN
open Ax Go aM V7 jb jn qA
open uE (jW)
theorem aif(W O p st)(U:Q p.aR<1000000000)(h3:Q p.funcs<1000000000):
  (bh S).call W O 36 [.agg p.aK] st=Z (.bool (jW p),st):=by
 refine bu (sf:=s36) rfl rfl (by simp[Pg.aK,AV.aD,AV.aH]) rfl rfl ?_;have g:bn (aN 3 (p.aR.map Rc.aK))=Y:=bU;have h:(aN 3 (p.aR.map Rc.aK)).aj=aN 3 (p.aR.map Rc.aK):=cg;have l:bf (aN 3 (p.aR.map Rc.aK))=p.aR.map Rc.aK:=br;have L:cU 3 (aN 3 (p.aR.map Rc.aK))=Y:=zL (by simp[cy,Rc.aK]);have F:bn (aN 7 (p.funcs.map Fc.aK))=Y:=bU;have m:(aN 7 (p.funcs.map Fc.aK)).aj=aN 7 (p.funcs.map Fc.aK):=cg;have n:bf (aN 7 (p.funcs.map Fc.aK))=p.funcs.map Fc.aK:=br;have B:cU 7 (aN 7 (p.funcs.map Fc.aK))=Y:=zL (by simp[cy,Fc.aK]);have y:bn (aN 4 (p.ax.map PD.cells))=Y:=bU;have G:(aN 4 (p.ax.map PD.cells)).aj=aN 4 (p.ax.map PD.cells):=cg;have C:bf (aN 4 (p.ax.map PD.cells))=p.ax.map PD.cells:=br;simp only[Pg.aK];generalize aN 3 (p.aR.map Rc.aK)=w,aN 7 (p.funcs.map Fc.aK)=P,aN 4 (p.ax.map PD.cells)=v at *;by_cases q1:(12:Int)<(Q p.aR:Int);have:jW p=Y:=by unfold jW;rw[cH (by omega:12<Q p.aR)];rfl
 rw[this];simp[s36,g,h,l,F,y,AV.aj,q1];by_cases q2:(8:Int)<(Q p.ax:Int);have:jW p=Y:=by unfold jW;rw[cH (by omega:8<Q p.ax)];simp
 rw[this];simp[s36,g,h,l,F,y,G,C,AV.aj,q1,q2];by_cases E:(16:Int)<(Q p.funcs:Int);have:jW p=Y:=by unfold jW;rw[cH (by omega:16<Q p.funcs)];simp
 rw[this];simp[s36,g,h,l,F,m,n,y,G,C,AV.aj,q1,q2,E];have H:jW p=(p.aR.any (λr=>decide (8<Q r.cr))||p.funcs.any (λf=>decide (6<Q f.params))):=by
  unfold jW;rw[eX (by omega:¬12<Q p.aR),eX (by omega:¬8<Q p.ax),eX (by omega:¬16<Q p.funcs)];rfl
 simp[s36,g,h,l,F,m,n,y,G,C,AV.aj,q1,q2,E];refine bM ab6.eq_1 (λk:Nat=>⟨[(1,.fp 0 0),(3,.val (.int .i64 k))],[[w,v,P]],[]⟩)
  (λk=>k<=Q p.aR/\jW p=((p.aR.drop k).any (λr=>decide (8<Q r.cr))||p.funcs.any (λf=>decide (6<Q f.params)))) (λk=>Q p.aR-k) 0 (by simp) ⟨by simp,by simpa using H⟩ ?_
 rintro k ⟨T,j⟩ t;by_cases R:k<Q p.aR;have J:=wk k (by omega);rw[aan R]at j;have M:k<Q (p.aR.map Rc.aK):=by simpa using R
 have z:(p.aR.map Rc.aK)[k]'M=Rc.aK p.aR[k]:=by simp
 have x:bn (aN 4 (p.aR[k].cr.map PD.cells))=Y:=bU;have o:(aN 4 (p.aR[k].cr.map PD.cells)).aj=aN 4 (p.aR[k].cr.map PD.cells):=cg;have q:bf (aN 4 (p.aR[k].cr.map PD.cells))=p.aR[k].cr.map PD.cells:=br;simp only[Rc.aK]at z;by_cases c:(8:Int)<(Q p.aR[k].cr:Int);have:jW p=Y:=by rw[j,anc,cH (by omega:8<Q p.aR[k].cr)];rfl
 rw[this];generalize aN 4 (p.aR[k].cr.map PD.cells)=s at *;simp[R,g,h,L,l,z,x,o,q,c,AV.aj];rw[anc,eX (by omega:¬8<Q p.aR[k].cr),aks]at j;have I:=t (k+1) ⟨by omega,j⟩ (by omega);generalize aN 4 (p.aR[k].cr.map PD.cells)=s at *;simp[R,J,g,h,L,l,z,x,o,q,c,AV.aj];exact I;have D:k=Q p.aR:=by omega
 rw[D,aaF]at j;have H:jW p=p.funcs.any (λf=>decide (6<Q f.params)):=by simpa using j
 simp[R,g,h,l,AV.aj];refine bM ab7.eq_1 (λk:Nat=>⟨[(1,.fp 0 0),(4,.val (.int .i64 k))],[[w,v,P]],[]⟩)
  (λk=>k<=Q p.funcs/\jW p=(p.funcs.drop k).any (λf=>decide (6<Q f.params))) (λk=>Q p.funcs-k) 0 (by simp) ⟨by simp,by simpa using H⟩ ?_
 rintro k ⟨T,j⟩ t;by_cases R:k<Q p.funcs;have J:=wk k (by omega);rw[aan R]at j;have M:k<Q (p.funcs.map Fc.aK):=by simpa using R
 have z:(p.funcs.map Fc.aK)[k]'M=Fc.aK p.funcs[k]:=by simp
 have x:bn (aN 4 (p.funcs[k].params.map PD.cells))=Y:=bU;have o:(aN 4 (p.funcs[k].params.map PD.cells)).aj=aN 4 (p.funcs[k].params.map PD.cells):=cg;have q:bf (aN 4 (p.funcs[k].params.map PD.cells))=p.funcs[k].params.map PD.cells:=br;have y1:bn (cn p.funcs[k].body)=Y:=cW;have y2:(cn p.funcs[k].body).aj=cn p.funcs[k].body:=bZ;simp only[Fc.aK]at z;by_cases c:(6:Int)<(Q p.funcs[k].params:Int);have:jW p=Y:=by rw[j,anc,cH (by omega:6<Q p.funcs[k].params)];rfl
 rw[this];generalize aN 4 (p.funcs[k].params.map PD.cells)=s,cn p.funcs[k].body=N at *;simp[R,F,m,B,n,z,x,o,q,c,AV.aj];rw[anc,eX (by omega:¬6<Q p.funcs[k].params),aks]at j;have I:=t (k+1) ⟨by omega,j⟩ (by omega);generalize aN 4 (p.funcs[k].params.map PD.cells)=s,cn p.funcs[k].body=N at *;simp[R,J,F,m,B,n,z,x,o,q,c,AV.aj];exact I;have D:k=Q p.funcs:=by omega
 rw[D,aaF]at j;rw[j];simp[R,F,m,n]
end LN
namespace LN
open Ax Go aM V7 jb jn qA
open uE (Bl eK DG DH Fb g8 oh sC pX pz jW D6 akf tZ pY tJ zx AN Ez)
theorem aih(b pre g B)(W:LB B.code)(r:Q B.vars+2*Sm.eJ B.code+10<1000000000)(v:Q b.aI+2*Sm.eJ B.code+10<1000000000):
  ∃p,(∀j:Bl,j=(D6 b g (B.vars.map (·.ty))).plus (eO (Q b.aI) B)->
   (bh S).call 0 0 38 [.ptr (Q pre) 0 0 0,cn B.code] (kD (D6 b g (B.vars.map (·.ty))) pre)=Z (.fC [],kD j pre)/\(bh S).call 0 0 39 [.ptr (Q pre) 0 0 0] (kD j pre)=Z (.fC [],kD p pre))/\
  p.vars=(eR (Q b.aI) g B).vars/\p.is=(eR (Q b.aI) g B).is/\p.aI=b.aI++(eO (Q b.aI) B).ss.map (λt=>⟨Q b.aJ,t⟩)/\p.aJ=b.aJ/\p.aR=b.aR/\p.glo=b.glo/\p.main=b.main/\p.params=Q g.ps/\p.bY=g.bY/\p.res=g.res/\p.is≠[]:=by
 have D:Fb (D6 b g (B.vars.map (·.ty))) (2*Sm.eJ B.code+3):=⟨by simp[D6];omega,by simp[D6];omega,by simp[D6];omega⟩;have h:=qz B.code (λs _=>yg s) (D6 b g (B.vars.map (·.ty))) pre W (D.le (by omega));have G:=Sj W (Q B.vars) 0 (Q b.aI);have m:(D6 b g (B.vars.map (·.ty))).vars.length=Q B.vars:=by simp[D6]
 have E:(D6 b g (B.vars.map (·.ty))).is.length=0:=rfl;have l:(D6 b g (B.vars.map (·.ty))).aI.length=Q b.aI:=rfl;rw[m,E,l]at h;obtain⟨P,o,y⟩:=g8 (D6 b g (B.vars.map (·.ty))) (eO (Q b.aI) B);have k:Lo (eO (Q b.aI) B) (2*Sm.eJ B.code):=G;obtain⟨O,w,x⟩:=k;have n:((D6 b g (B.vars.map (·.ty))).plus (eO (Q b.aI) B)).vars.length=Q B.vars+Q (eO (Q b.aI) B).vs:=by rw[P,m]
 have L:=anE ((D6 b g (B.vars.map (·.ty))).plus (eO (Q b.aI) B)) pre g rfl rfl (by omega) (by rw[o,E];omega);rw[n]at L;obtain⟨p,J⟩:∃p:Bl,p={ (D6 b g (B.vars.map Vd.ty)).plus (eO (Q b.aI) B) with vars:=((D6 b g (B.vars.map Vd.ty)).plus (eO (Q b.aI) B)).vars++(if g.bY then [g.res] else []),is:=((D6 b g (B.vars.map Vd.ty)).plus (eO (Q b.aI) B)).is++xu g (Q B.vars+Q (eO (Q b.aI) B).vs) }:=⟨_,rfl⟩;rw[<-J]at L;refine⟨p,λj H=>?_,?_,?_,?_,?_⟩;rw[H];exact⟨h,L⟩;rw[J];simp[eR,uE.Bl.plus,D6];rw[J];simp[eR,uE.Bl.plus,D6];rw[J];simp[uE.Bl.plus,D6];rw[J];refine⟨rfl,rfl,rfl,rfl,rfl,rfl,rfl,?_⟩;intro q;have q:_++xu g _=[]:=q;have:=(List.append_eq_nil_iff.1 q).2;unfold xu at this;split at this<;>cases this
end LN
namespace LN
open Ax Go aM V7 jb jn qA
open K9 (u5 qQ dJ FC Z5)
open N7 U7
open S9 (qc G8)
open uE (Bl eK DG DH Fb g8 oh sC pX pz jW D6 akf tZ pY tJ zx AN Ez sD mkV oF Pf Ng Sq ZX)
theorem zB(s l):(eK s l).cT=Y:=j9 (zx s l)
theorem aee(wl ai p st)(_:(mw p).ok)(sJ:GD.sm (mw p))(_:∀f∈p.funcs,Q f.params+Sm.eJ f.body<1000000000)(E:∀wl ai st,(bh S).call wl ai 34 [.agg p.aK] st=Z (u5 p,st))(O:∀wl ai st,(bh S).call wl ai 35 [.agg p.aK] st=Z (G8 (qc p),st))(vm:∀bs,rK (aY p) (aY p).aZ p.funcs=.ok bs->∀b∈bs,Sm.eJ b.code<100000000/\Q b.vars<100000000):
  (bh S).call wl ai 12 [.agg p.aK] st=Z (sD p,st):=by
 have hfn:Q p.funcs<1000000000:=by have:=sJ.funcs;grind [tY]
 have hrn:Q p.aR<1000000000:=by have:=sJ.aR;grind [yl]
 have eg:=λwl ai st=>aif wl ai p st hrn hfn;unfold u5 at E;have r1:bn (aN 3 (p.aR.map Rc.aK))=Y:=bU;have r2:(aN 3 (p.aR.map Rc.aK)).aj=aN 3 (p.aR.map Rc.aK):=cg;have f1:bn (aN 7 (p.funcs.map Fc.aK))=Y:=bU;have f2:(aN 7 (p.funcs.map Fc.aK)).aj=aN 7 (p.funcs.map Fc.aK):=cg;have g1:bn (aN 4 (p.ax.map PD.cells))=Y:=bU;have g2:(aN 4 (p.ax.map PD.cells)).aj=aN 4 (p.ax.map PD.cells):=cg;have QD:(sD p).aH=Y:=by
  unfold sD mkV oF;repeat' split
  all_goals simp_all
 refine bu (sf:=s12) rfl rfl (by simp[Pg.aK,AV.aD,AV.aH]) rfl QD ?_;unfold sD;simp only[Pg.aK]at E O eg ⊢;generalize aN 3 (p.aR.map Rc.aK)=PR,aN 7 (p.funcs.map Fc.aK)=PF,aN 4 (p.ax.map PD.cells)=PG at *;cases hF:kR (mw p) with
 |some a=>
  rw[hF]at E;simp[s12,E,r1,r2,f1,f2,g1,g2,aB,AV.aj,aA,ay]
 |none=>
  rw[hF]at E;simp only at E ⊢;cases hR:rK (aY p) (aY p).aZ p.funcs with
  |error a=>
   rw[hR]at E;simp only[FC]at E ⊢;simp[s12,E,r1,r2,f1,f2,g1,g2,aB,AV.aj,aA,ay]
  |ok bs=>
   rw[hR]at E;simp only[FC,qQ,List.cons_append,aeN]at E ⊢;have t1:bn (aN 2 ((aY p).bN.map gh))=Y:=bU;have t2:(aN 2 ((aY p).bN.map gh)).aj=aN 2 ((aY p).bN.map gh):=cg;have u1:bn (cM (aY p).ax)=Y:=bU;have u2:(cM (aY p).ax).aj=cM (aY p).ax:=cg;have u3:bf (cM (aY p).ax)=(aY p).ax.map Vd.aK:=br;have u4:cU 4 (cM (aY p).ax)=Y:=zL (by simp[cy,Vd.aK]);have v1:bn (aN 6 ((aY p).aZ.map Sg.aK))=Y:=bU;have v2:(aN 6 ((aY p).aZ.map Sg.aK)).aj=aN 6 ((aY p).aZ.map Sg.aK):=cg;have v3:bf (aN 6 ((aY p).aZ.map Sg.aK))=(aY p).aZ.map Sg.aK:=br;have v4:cU 6 (aN 6 ((aY p).aZ.map Sg.aK))=Y:=zL (by simp[cy,Sg.aK]);have w1:bn (aN 3 (bs.map Bd.aK))=Y:=bU;have w2:(aN 3 (bs.map Bd.aK)).aj=aN 3 (bs.map Bd.aK):=cg;have w3:bf (aN 3 (bs.map Bd.aK))=bs.map Bd.aK:=br;have w4:cU 3 (aN 3 (bs.map Bd.aK))=Y:=zL (by simp[cy,Bd.aK]);generalize hRV:aN 2 ((aY p).bN.map gh)=RV at *;generalize cM (aY p).ax=GV,aN 6 ((aY p).aZ.map Sg.aK)=SV,aN 3 (bs.map Bd.aK)=BV at *;cases hS:qc p with
   |some a=>
    rw[hS]at O;simp only[G8,S9.cE,S9.cX]at O;simp[s12,E,O,r1,r2,f1,f2,g1,g2,t1,t2,u1,u2,v1,v2,w1,w2,aB,AV.aj,aA,ay]
   |none=>
    rw[hS]at O;simp only[G8,S9.cE,S9.cX]at O;cases D:jW p with
    |true=>
     rw[D]at eg;simp[s12,E,O,eg,r1,r2,f1,f2,g1,g2,t1,t2,u1,u2,v1,v2,w1,w2,aB,AV.aj]
    |false=>
     rw[D]at eg;have Nm:=Xf hF (Pf D);simp[s12,E,O,eg,r1,r2,f1,f2,g1,g2,t1,t2,u1,u2,v1,v2,w1,w2,aB,AV.aj,eu.aX];obtain⟨gl,Gq⟩:∃l,l=(aY p).ax.map (·.ty):=⟨_,rfl⟩;have hgn:Q (aY p).ax=Q gl:=(by grind);have aDU:Q gl<1000000:=(by rw[<-hgn];have:=Nm.ng;omega);have ayI:∀C m,mkV (aY p) (dJ p) (.ok (C,m))=.fC [.agg [RV,aN 3 (gl.map T3.cells),aN 7 (C.map Cd.aK),aN 4 (m.map Sd.aK),.int .i64 (dJ p)],.agg [.int .i64 0,.int .i64 0]]:=λC m=>by
      unfold mkV oF;rw[hRV,Gq,List.map_map];rfl
     have hGr:∀k (h:k<Q gl) (h2:k<Q ((aY p).ax.map Vd.aK)),∃nm,((aY p).ax.map Vd.aK)[k]=[.str nm,.int .i64 gl[k].b,.int .i64 gl[k].r,.int .i64 gl[k].d]:=λk h h2=>
      ⟨((aY p).ax[k]'(by omega)).nm,by simp[Gq,Vd.aK]⟩
     have hGl:Q ((aY p).ax.map Vd.aK)=Q gl:=(by simp[Gq]);have aDW:RV.aj=RV:=t2;have kO:Q (aY p).aZ=Q p.funcs:=(by simp[aY]);have XZ:Q bs=Q p.funcs:=S9.AD kO hR;have aDX:Q p.funcs<=16:=(Pf D).f;have hLB:=adL Nm.gd (by grind) (λs hs v hv=>⟨((Nm.ok.aZ s hs).2 v hv),Nm.gd.ps s hs v hv⟩) hR;have hco:=vm bs hR;have asZ:∀k (h:k<Q bs) (h2:k<Q (aY p).aZ) C m n,zv C m n ((aY p).aZ.drop k) (bs.drop k)=if 4000<Q (eR (Q m) (aY p).aZ[k] bs[k]).vars\/2500<n+Q (eR (Q m) (aY p).aZ[k] bs[k]).is\/60<Q m+Q (eO (Q m) bs[k]).ss then .error bs[k].a
       else zv (C++[eR (Q m) (aY p).aZ[k] bs[k]]) (m++(eO (Q m) bs[k]).ss.map (λt=>⟨Q C,t⟩)) (n+Q (eR (Q m) (aY p).aZ[k] bs[k]).is) ((aY p).aZ.drop (k+1)) (bs.drop (k+1)):=λk h h2 C m n=>by
      grind [aan,Ng]
     generalize aY p=H,dJ p=M at *;generalize hgV:H.ax=Hg at *;refine bM acB.eq_1 (λk:Nat=>⟨[(2,.fp 1 0),(3,.fp 2 0),(4,.fp 3 0),(6,.fp 5 0),(7,.val (.int .i64 k))],
       [[PR,PG,PF],[.aF,.aF,.aF,.aF,.int .i64 0],[.int .i64 0,.int .i64 0],[RV,GV,SV,.int .i64 M,BV],[.int .i64 0,.int .i64 0],[RV,eK 3 ((gl.take k).map T3.cells),.aF,.aF,.int .i64 M],[],[]],[]⟩)
      (λk=>k<=Q gl) (λk=>Q gl-k) 0 (by simp[eK]) (by simp) ?_
     intro k hk ih;by_cases bK:k<Q gl;have DE:=wk k (by omega);have xH:k<Q Hg:=(by omega);have mY:k<Q (Hg.map Vd.aK):=(by grind);obtain⟨nm,Zz⟩:=hGr k bK mY;have I:=ih (k+1) (by omega) (by omega);simp only[adB bK,afn,List.map_cons,List.map_nil,T3.cells]at I;have hl:Q ((gl.take k).map T3.cells)=k:=(by simp;omega);have ho:∀r,eK 3 ((gl.take k).map T3.cells++[r])=.iY 3 ((gl.take k).map T3.cells++[r]):=λr=>by unfold eK;rw[U (by simp)]
     have wL:(k+1)*24<=dj:=(by unfold dj;omega);have Hj:24<=dj:=(by decide);generalize (gl.take k).map T3.cells=Lk at *;rw[ho]at I;by_cases k0:Lk=[];rw[k0]at I ⊢;have o1:eK 3 ([]:List (List AV))=.aF:=rfl;simp only[aeN]at I;simp[xH,DE,u1,u2,u4,u3,Zz,o1,aB,AV.aj,aA,ay,cut,cy,Hj,AV.gK,wS];exact I;have o1:eK 3 Lk=.iY 3 Lk:=(by unfold eK;grind);rw[o1];simp[xH,DE,u1,u2,u4,u3,Zz,aB,AV.aj,aA,ay,cut,cy,hl,wL,AV.gK,wS];exact I;have dQ:k=Q gl:=(by omega);subst dQ;rw[apx];simp[hgn,u1,u2,u3,AV.aj];obtain⟨B,hB⟩:∃B:List Cd->List Sd->Bl,B=λC m=>⟨RV,gl,C,m,M,0,[],X,T0,[]⟩:=⟨_,rfl⟩;have y:∀C m,(B C m).aI=m/\(B C m).aJ=C/\(B C m).aR=RV/\(B C m).glo=gl/\(B C m).main=M:=λC m=>by grind
     have hM:∀C m (g:Sg) (vs:List T3) (pre:aO),kD (D6 (B C m) g vs) pre=pre++.rows 0 13 [[RV,eK 3 (gl.map T3.cells),eK 7 (C.map Cd.aK),eK 4 (m.map Sd.aK),.int .i64 M,.int .i64 (Q C),.int .i64 (Q g.ps),eK 3 (vs.map T3.cells),.bool g.bY,.int .i64 g.res.b,.int .i64 g.res.r,.int .i64 g.res.d,.aF]]::[]:=λC m g vs pre=>by
      rw[hB];simp[kD,qo,D6,DG,DH]
     clear hB;have o7:eK 7 ([]:List (List AV))=.aF:=rfl;have o4:eK 4 ([]:List (List AV))=.aF:=rfl;have o3:eK 3 ([]:List (List AV))=.aF:=rfl;refine bM acD.eq_1 (λx:Nat×List Cd×List Sd×Nat×aO×List AV×List AV=>⟨[(2,.fp 1 0),(3,.fp 2 0),(4,.fp 3 0),(6,.fp 5 0),(8,.val (.int .i64 x.2.2.2.1)),(9,.val (.int .i64 x.1))],
       [[PR,PG,PF],[.aF,.aF,.aF,.aF,.int .i64 0],[.int .i64 0,.int .i64 0],[RV,GV,SV,.int .i64 M,BV],[.int .i64 0,.int .i64 0],[RV,eK 3 (gl.map T3.cells),eK 7 (x.2.1.map Cd.aK),eK 4 (x.2.2.1.map Sd.aK),.int .i64 M],x.2.2.2.2.2.1,x.2.2.2.2.2.2],x.2.2.2.2.1⟩)
      (λx=>x.1<=Q bs/\Q x.2.1=x.1/\Q x.2.2.1<=60/\x.2.2.2.1<=2500/\zv x.2.1 x.2.2.1 x.2.2.2.1 (H.aZ.drop x.1) (bs.drop x.1)=zv [] [] 0 H.aZ bs) (λx=>Q bs-x.1)
      (0,[],[],0,[],[],[]) (by grind) ⟨by simp,rfl,by simp,by simp,rfl⟩ ?_
     rintro⟨k,C,m,n,pre,bx6,bx7⟩ ⟨hk,mT,Bt,hnn,F⟩ ih;simp only at hk mT Bt hnn F ih ⊢;by_cases bK:k<Q bs;have DE:=wk k (by omega);have as0:k<Q H.aZ:=(by omega);have hm:=List.getElem_mem bK;obtain⟨hcz,EW⟩:=hco _ hm;have hLk:=hLB _ hm;have hlb:k<Q (bs.map Bd.aK):=(by grind);have gB':(bs.map Bd.aK)[k]'hlb=Bd.aK bs[k]:=(by simp);have Yf:k<Q (H.aZ.map Sg.aK):=(by grind);have Tp:(H.aZ.map Sg.aK)[k]'Yf=Sg.aK H.aZ[k]:=(by simp);have hbo:=aih (B C m) pre H.aZ[k] bs[k] hLk (by omega) (by grind);obtain⟨g1',g2'⟩:bn (cM H.aZ[k].ps)=Y/\(cM H.aZ[k].ps).aj=cM H.aZ[k].ps:=⟨bU,cg⟩;have g3':bf (cM H.aZ[k].ps)=H.aZ[k].ps.map Vd.aK:=br;obtain⟨d1,d2⟩:bn (cM bs[k].vars)=Y/\(cM bs[k].vars).aj=cM bs[k].vars:=⟨bU,cg⟩;have d5:bf (cM bs[k].vars)=bs[k].vars.map Vd.aK:=br;have d6:cU 4 (cM bs[k].vars)=Y:=zL (by simp[cy,Vd.aK]);obtain⟨d3,d4⟩:bn (cn bs[k].code)=Y/\(cn bs[k].code).aj=cn bs[k].code:=⟨cW,bZ⟩;obtain⟨l1,l2,l3⟩:=Ez (Q m) H.aZ[k] bs[k] hLk;rw[asZ k bK as0]at F;have hM0:=hM C m H.aZ[k] [] pre;rw[mT,List.map_nil,o3]at hM0;simp only[Sg.aK,Bd.aK]at gB' Tp;obtain⟨st0,as1⟩:∃s,s=kD (D6 (B C m) H.aZ[k] []) pre:=⟨_,rfl⟩;rw[<-as1]at hM0;have e3:=pY 3 (gl.map T3.cells);have e7:=pY 7 (C.map Cd.aK);have e4:=pY 4 (m.map Sd.aK);have p3:=tJ 3 (gl.map T3.cells);have p7:=tJ 7 (C.map Cd.aK);have p4:=tJ 4 (m.map Sd.aK);have hRp:RV.aH=Y:=dV t1;have hRc:RV.cT=Y:=j9 t1;have c3:=zB 3 (gl.map T3.cells);have c7:=zB 7 (C.map Cd.aK);have c4:=zB 4 (m.map Sd.aK);simp[bK,as0,w1,w2,w3,w4,v2,v3,v4,gB',Tp,g1',g2',g3',d1,d2,d3,d4,aB,AV.aj,cut,eu.aX,hRc,c3,c7,c4,hM0.symm];obtain⟨o,hb,q1,q2,q3,q4,q5,q6,q7,q8,q9,q10,ZE⟩:=hbo;obtain⟨A9,HR⟩:=hb _ rfl;rw[(y C m).1]at A9 HR q1 q2 q3;rw[(y C m).2.1]at q3 q4;rw[(y C m).2.2.1]at q5;rw[(y C m).2.2.2.1]at q6;rw[(y C m).2.2.2.2]at q7;rw[as1];refine bM acC.eq_1 (λj:Nat=>⟨[(2,.fp 1 0),(3,.fp 2 0),(4,.fp 3 0),(6,.fp 5 0),(8,.val (.int .i64 n)),(9,.val (.int .i64 k)),(10,.fp 6 0),(12,.val (.ptr (Q pre) 0 0 0)),(13,.val (.int .i64 j))],
       [[PR,PG,PF],[.aF,.aF,.aF,.aF,.int .i64 0],[.int .i64 0,.int .i64 0],[RV,GV,SV,.int .i64 M,BV],[.int .i64 0,.int .i64 0],[RV.gK,(eK 3 (gl.map T3.cells)).gK,(eK 7 (C.map Cd.aK)).gK,(eK 4 (m.map Sd.aK)).gK,.int .i64 M],
        [cM bs[k].vars,cn bs[k].code,.int .i64 bs[k].a],[.str H.aZ[k].nm,cM H.aZ[k].ps,.bool H.aZ[k].bY,.int .i64 H.aZ[k].res.b,.int .i64 H.aZ[k].res.r,.int .i64 H.aZ[k].res.d]],kD (D6 (B C m) H.aZ[k] ((bs[k].vars.take j).map Vd.ty)) pre⟩)
      (λj=>j<=Q bs[k].vars) (λj=>Q bs[k].vars-j) 0 rfl (by simp) ?_
     intro j hj uC;by_cases p9:j<Q bs[k].vars;have hwj:=wk j (by omega);have hlj:j<Q (bs[k].vars.map Vd.aK):=(by simpa using p9);have gV':(bs[k].vars.map Vd.aK)[j]'hlj=Vd.aK bs[k].vars[j]:=(by simp);have I:=uC (j+1) (by omega) (by omega);have uB:(bs[k].vars.take (j+1)).map Vd.ty=(bs[k].vars.take j).map Vd.ty++[bs[k].vars[j].ty]:=(by rw[adB p9,afn];rfl);have ht:=λli=>Pp li (D6 (B C m) H.aZ[k] ((bs[k].vars.take j).map Vd.ty)) pre bs[k].vars[j].ty (by show Q ((bs[k].vars.take j).map Vd.ty)<_;simp;omega);have hfn:{ D6 (B C m) H.aZ[k] ((bs[k].vars.take j).map Vd.ty) with vars:=(D6 (B C m) H.aZ[k] ((bs[k].vars.take j).map Vd.ty)).vars++[bs[k].vars[j].ty] }=D6 (B C m) H.aZ[k] ((bs[k].vars.take (j+1)).map Vd.ty):=(by rw[uB];rfl);rw[hfn]at ht;simp only[T3.cells]at ht;simp only[Vd.aK]at gV';generalize kD (D6 (B C m) H.aZ[k] ((bs[k].vars.take (j+1)).map Vd.ty)) pre=qh,kD (D6 (B C m) H.aZ[k] ((bs[k].vars.take j).map Vd.ty)) pre=qS at *;simp[-AV.gK,p9,hwj,d1,d2,d5,d6,gV',ht,AV.aj,cut];exact I;have tU:j=Q bs[k].vars:=(by omega);subst tU;rw[apx];simp[-AV.gK,d1,d2,d4,d5,A9,HR,AV.aj,cut];have hex:=Pr o pre ZE;rw[q4,q5,q6,q7,q8,q9,q10,mT]at hex;have h5:=tZ o.is 0;have Yf:¬o.is.map In.aK=[]:=(by simpa using ZE);have hl3:Q o.is-1+1=Q o.is:=(by have:=List.length_pos_iff.2 ZE;omega);have hcd:Cd.aK (eR (Q m) H.aZ[k] bs[k])=[.int .i64 (Q H.aZ[k].ps),aN 3 (o.vars.map T3.cells),.bool H.aZ[k].bY,.int .i64 H.aZ[k].res.b,.int .i64 H.aZ[k].res.r,.int .i64 H.aZ[k].res.d,.eE 6 (o.is.map In.aK)]:=by
      unfold Cd.aK;rw[<-q1,<-q2];have:aN 6 (o.is.map In.aK)=.eE 6 (o.is.map In.aK):=by cases hh:o.is.map In.aK with|nil=>grind|cons a l=>rfl
      rw[this];rfl
     have hoc:eK 7 ((C++[eR (Q m) H.aZ[k] bs[k]]).map Cd.aK)=.iY 7 (C.map Cd.aK++[[.int .i64 (Q H.aZ[k].ps),aN 3 (o.vars.map T3.cells),.bool H.aZ[k].bY,.int .i64 H.aZ[k].res.b,.int .i64 H.aZ[k].res.r,.int .i64 H.aZ[k].res.d,.eE 6 (o.is.map In.aK)]]):=by
      rw[<-hcd];simp[eK]
     rw[hex];have R:=pY 3 (o.vars.map T3.cells);have x2:=tJ 3 (o.vars.map T3.cells);have x3:(aN 3 (o.vars.map T3.cells)).aH=Y:=GR;have x4:(aN 3 (o.vars.map T3.cells)).cT=Y:=wu;have W:(aN 3 (o.vars.map T3.cells)).aj=aN 3 (o.vars.map T3.cells):=cg;have x6:=zx 3 (o.vars.map T3.cells);have x7:=AN 3 (o.vars.map T3.cells);have z1:bn (aN 3 (o.vars.map T3.cells))=Y:=bU;have z2:bf (aN 3 (o.vars.map T3.cells))=o.vars.map T3.cells:=br;have y1:=zx 4 (o.aI.map Sd.aK);have y2:=AN 4 (o.aI.map Sd.aK);have y3:=tJ 4 (o.aI.map Sd.aK);have y4:=zB 4 (o.aI.map Sd.aK);have x8:=zB 3 (o.vars.map T3.cells);have s1:∀l:List (List AV),(eK 3 l).gK=.gone\/(eK 3 l).gK=.aF:=λl=>by unfold eK;split<;>simp[AV.gK]
     have Tf:Q (C.map Cd.aK)=Q C:=(by simp);have Pu:(Q C+1)*88<=dj:=(by unfold dj;omega);have Hj:88<=dj:=(by decide);generalize aD3:eK 3 (o.vars.map T3.cells)=OV3 at *;generalize aD4:aN 3 (o.vars.map T3.cells)=LV3 at *;generalize ayM:eK 4 (o.aI.map Sd.aK)=OS3 at *;generalize hOG:eK 3 (gl.map T3.cells)=OG at *;generalize hOC:eK 7 (C.map Cd.aK)=OC at *;generalize hOS:eK 4 (m.map Sd.aK)=OS at *;simp[-AV.gK,bD,gP,gT,bO,cut,aB,bw,hRc,c3,c7,y4];rw[Ep];refine⟨Q pre,0,0,0,.mu (Q pre+1) (Q o.is-1),.eE 6 (o.is.map In.aK),pre++.rows 0 13 [[RV.gK,OG.gK,OC.gK,OS3.gK,(AV.int .i64 M).gK,.int .i64 k,.int .i64 (Q H.aZ[k].ps),OV3,.bool H.aZ[k].bY,.int .i64 H.aZ[k].res.b,.int .i64 H.aZ[k].res.r,.int .i64 H.aZ[k].res.d,.mu (Q pre+1) (Q o.is-1)]]::[.rows (Q o.is) 6 []],pre++.rows 0 13 [[RV.gK,OG.gK,OC.gK,OS3.gK,(AV.int .i64 M).gK,.int .i64 k,.int .i64 (Q H.aZ[k].ps),OV3,.bool H.aZ[k].bY,.int .i64 H.aZ[k].res.b,.int .i64 H.aZ[k].res.r,.int .i64 H.aZ[k].res.d,.eE 6 (o.is.map In.aK)]]::[.rows (Q o.is) 6 []],rfl,by simp[-AV.gK,gP,cut],?_,by simp[-AV.gK,gT,bw,aB],?_⟩;simp[-AV.gK,rO,jN,h5,hl3,ZE];obtain⟨N,hn'⟩:∃N,N=n+Q (eR (Q m) H.aZ[k] bs[k]).is:=⟨_,rfl⟩;obtain⟨w,Qc⟩:∃w,w=Q m+Q (eO (Q m) bs[k]).ss:=⟨_,rfl⟩;have L:IntKind.i64.wrap ((n:Int)+(Q o.is:Int))=(N:Int):=(by rw[q2,dg]<;>omega);rw[<-hn',<-Qc]at F;have sl:Q (o.aI.map Sd.aK)=w:=(by rw[q3];simp[Qc]);have vl:Q (o.vars.map T3.cells)=Q (eR (Q m) H.aZ[k] bs[k]).vars:=(by rw[q1];simp);have P:Q (o.is.map In.aK)=Q o.is:=(by simp);have vl':Q o.vars=Q (eR (Q m) H.aZ[k] bs[k]).vars:=(by grind);have sl':Q o.aI=w:=(by simpa using sl);have J:((4000:Int)<(Q (eR (Q m) H.aZ[k] bs[k]).vars:Int))=(4000<Q (eR (Q m) H.aZ[k] bs[k]).vars):=propext ⟨λ_=>by omega,λ_=>by omega⟩;have T:((2500:Int)<(N:Int))=(2500<N):=propext ⟨λ_=>by omega,λ_=>by omega⟩;have q:((60:Int)<(w:Int))=(60<w):=propext ⟨λ_=>by omega,λ_=>by omega⟩;have I:=λ(hh:¬(4000<Q (eR (Q m) H.aZ[k] bs[k]).vars\/2500<N\/60<w)) pre x6 x7=>ih (k+1,C++[eR (Q m) H.aZ[k] bs[k]],m++(eO (Q m) bs[k]).ss.map (λt=>(⟨Q C,t⟩:Sd)),N,pre,x6,x7)
      ⟨by grind,by simp[mT],by grind,by grind,by grind⟩ (by grind)
     simp only[hoc,<-q3,ayM]at I;generalize o.is.map In.aK=IR,Q (eR (Q m) H.aZ[k] bs[k]).vars=vn at *;have aqn:∀aK:List AV,Q aK=7->OC.aj=OC.aj->True:=λ_ _ _=>trivial;by_cases NQ:C.map Cd.aK=[];have e0:OC=.aF:=(by rw[<-hOC,NQ];rfl);subst e0;rw[NQ,aeN]at I;dsimp only;by_cases kk:4000<vn\/2500<N\/60<w;rw[af kk]at F;rw[<-F];simp only[mkV];by_cases z:2500<N;rw[eq_true z]at T;simp[-AV.gK,bD,gP,bO,cut,aB,AV.aj,AV.cP,aA,ay,cy,Hj,L,P,R,W,z1,AV.aD,AV.aH,T];by_cases G:60<w;rw[eq_false z]at T;rw[eq_true G]at q;simp[-AV.gK,bD,gP,bO,cut,aB,AV.aj,AV.cP,aA,ay,cy,Hj,L,P,R,W,y1,y2,z1,sl,AV.aD,AV.aH,T,q];have k1:4000<vn:=(by omega);rw[eq_false z]at T;rw[eq_false G]at q;rw[eq_true k1]at J;simp[-AV.gK,bD,gP,bO,cut,aB,AV.aj,AV.cP,aA,ay,cy,Hj,L,P,R,W,y1,y2,z1,z2,sl,vl,AV.aD,AV.aH,J,T,q];have k1:¬4000<vn:=λh=>kk (.inl h);have z:¬2500<N:=λh=>kk (.inr (.inl h));have G:¬60<w:=λh=>kk (.inr (.inr h));rw[eq_false k1]at J;rw[eq_false z]at T;rw[eq_false G]at q;have uC:=I kk;simp[-AV.gK,bD,gP,bO,cut,aB,AV.aj,AV.cP,aA,ay,cy,Hj,L,P,R,W,y1,y2,z1,z2,sl,vl,DE,AV.aD,AV.aH,J,T,q];exact uC _ _ _;have e0:OC=.iY 7 (C.map Cd.aK):=(by rw[<-hOC];unfold eK;rw[U NQ]);subst e0;dsimp only;by_cases kk:4000<vn\/2500<N\/60<w;rw[af kk]at F;rw[<-F];simp only[mkV];by_cases z:2500<N;rw[eq_true z]at T;simp[-AV.gK,bD,gP,bO,cut,aB,AV.aj,AV.cP,aA,ay,cy,Tf,Pu,L,P,R,W,z1,AV.aD,AV.aH,T];by_cases G:60<w;rw[eq_false z]at T;rw[eq_true G]at q;simp[-AV.gK,bD,gP,bO,cut,aB,AV.aj,AV.cP,aA,ay,cy,Tf,Pu,L,P,R,W,y1,y2,z1,sl,AV.aD,AV.aH,T,q];have k1:4000<vn:=(by omega);rw[eq_false z]at T;rw[eq_false G]at q;rw[eq_true k1]at J;simp[-AV.gK,bD,gP,bO,cut,aB,AV.aj,AV.cP,aA,ay,cy,Tf,Pu,L,P,R,W,y1,y2,z1,z2,sl,vl,AV.aD,AV.aH,J,T,q];have k1:¬4000<vn:=λh=>kk (.inl h);have z:¬2500<N:=λh=>kk (.inr (.inl h));have G:¬60<w:=λh=>kk (.inr (.inr h));rw[eq_false k1]at J;rw[eq_false z]at T;rw[eq_false G]at q;have uC:=I kk;simp[-AV.gK,bD,gP,bO,cut,aB,AV.aj,AV.cP,aA,ay,cy,Tf,Pu,L,P,R,W,y1,y2,z1,z2,sl,vl,DE,AV.aD,AV.aH,J,T,q];exact uC _ _ _;have dQ:k=Q bs:=(by omega);rw[dQ,aaF,Sq]at F;rw[<-F,ayI,dQ];have e1:=pY 3 (gl.map T3.cells);have e2:=pY 7 (C.map Cd.aK);have e3:=pY 4 (m.map Sd.aK);have n1:(aN 3 (gl.map T3.cells)).cT=Y:=wu;have n2:(aN 7 (C.map Cd.aK)).cT=Y:=wu;have n3:(aN 4 (m.map Sd.aK)).cT=Y:=wu;have m1:(aN 3 (gl.map T3.cells)).aj=aN 3 (gl.map T3.cells):=cg;have m2:(aN 7 (C.map Cd.aK)).aj=aN 7 (C.map Cd.aK):=cg;have m3:(aN 4 (m.map Sd.aK)).aj=aN 4 (m.map Sd.aK):=cg;generalize aN 3 (gl.map T3.cells)=LG,aN 7 (C.map Cd.aK)=LC,aN 4 (m.map Sd.aK)=LS,eK 3 (gl.map T3.cells)=OG,eK 7 (C.map Cd.aK)=OC,eK 4 (m.map Sd.aK)=OS at *;simp[e1,e2,e3,n1,n2,n3,t1,t2,w1,w2,w3,aB,AV.aj,cut,bO,AV.cP]
end LN
namespace LN
open Ax Go aM V7 jb jn qA
open K9 (u5)
open N7 U7
theorem aij(C g p st)(U:(mw p).ok)(s:GD.sm (mw p))(O:∀f∈p.funcs,Q f.params+Sm.eJ f.body<1000000000)(v:∀bs,rK (aY p) (aY p).aZ p.funcs=.ok bs->∀b∈bs,Sm.eJ b.code<100000000/\Q b.vars<100000000):
  (bh S).call C g 12 [.agg p.aK] st=Z (uE.sD p,st):=
 aee C g p st U s O (λC g st=>R9.Li C g p st U s O)
  (λC g st=>S9.SB C g p st U s O λbs h b l=>by have:=v bs h b l;omega) v
end LN
