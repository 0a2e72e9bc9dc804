/- Part of a proof. -/
import Derived.Test.YtachcambnjecnaaGreatW
import Derived.Test.YtachcambnjecnaaGreatC
import Derived.Test.YtachcambnjecnaaGreatS
import Derived.Test.YtachcambnjecnaaGreatF

set_option maxRecDepth 100000
set_option maxHeartbeats 4000000
namespace pU
open Ax Go bu V7 jG j9 tc
def XZ(b:Bl)(t0 t1 t2 t3 t4 t5 t6:AV)(r:aj):aj:=.rows 0 12 [[b.aR,bE 3 (b.EK.map T3.cells),bE 7 (b.dX.map Cd.row),bE 4 (b.aB.map Sd.row),.int .i64 b.main,t0,t1,t2,t3,t4,t5,t6]]::r
def qS(b:Bl)(g:Sg)(vs:List T3):Bl:={ b with params:=g.ps.length,vars:=vs,bO:=g.bO,bz:=g.bz,is:=[] }
theorem aaP(b:Bl)(g:Sg)(vs:List T3)(pre:aj):iw (qS b g vs) pre=XZ b (.int .i64 g.ps.length) (bE 3 (vs.map T3.cells)) (.bool g.bO) (.int .i64 g.bz.b) (.int .i64 g.bz.r) (.int .i64 g.bz.d) .U pre:=by
 simp[iw,Bl.cells,rY,oo,qS,XZ]
theorem J9(i:In)(wl:Nat)(st:aj):kq wl i.row st=some (i.row,st):=by
 have h1:=kU i.args;have h2:=kV i.args;have h3:=kW i.args;generalize hv:jE i.args=v at *;have h4:me wl v st=some (v,st):=by
  unfold me;split;simp[AV.ax]at h1;rw[h1,h2,h3];rfl
 have fi:∀(n:Int) (s:aj),me wl (.int .i64 n) s=some (.int .i64 n,s):=λ_ _=>rfl;simp only[In.row,hv,kq,h4,fi]
theorem mQ:∀(l:List In)(wl:Nat)(st:aj),kN wl (l.map In.row) st=some (l.map In.row,st)
 |[],_,_=>rfl|i::l,wl,st=>by
  simp only[List.map_cons,kN,J9,mQ l]
def Az(b:Bl)(ns:Nat)(g:Sg)(bd:Bd):Bl:={ b with dX:=b.dX++[cp ns g bd],aB:=b.aB++(gj ns bd).ss.map (λt=>⟨b.dX.length,t⟩) }
def Wt(c:Cd)(b:Bl)(pre:aj):aj:=XZ b (.int .i64 c.params) (bE 3 (c.vars.map T3.cells)) (.bool c.bO) (.int .i64 c.bz.b) (.int .i64 c.bz.r) (.int .i64 c.bz.d) (.dL 6 (c.is.map In.row)) (pre++[.rows c.is.length 6 []])
theorem iZ(sz:Nat)(l:List (List AV)):(bE sz l).view=aA sz l:=by
 unfold bE;cases l<;>simp[AV.view,aA,bD]
theorem nB(sz:Nat)(l:List (List AV)):(bE sz l).ax=true:=by
 unfold bE;cases l<;>simp[AV.ax]
theorem Ka(b:Bl)(pre:aj)(g:Sg)(bd:Bd)(t0 t1 t2 t3 t4 t5 t6:AV)(hL:LB bd.code)(hn:bd.vars.length+2*Sm.cQ bd.code+10<1000000000)(hs:b.aB.length+2*Sm.cQ bd.code+10<1000000000)(hc:b.dX.length<1000000) :
  (bh S).call 0 0 23 [pB,.agg g.row,.agg bd.row] (XZ b t0 t1 t2 t3 t4 t5 t6 pre)=some (.fm [],Wt (cp b.aB.length g bd) (Az b b.aB.length g bd) pre):=by
 have Cf:Fb (qS b g (bd.vars.map (·.ty))) (2*Sm.cQ bd.code+3):=⟨by simp[qS];omega,by simp[qS];omega,by simp[qS];omega⟩;have PC:=fh bd.code (λs _=>oc s) (qS b g (bd.vars.map (·.ty))) pre hL (Cf.le (by omega));have vr:=As hL bd.vars.length 0 b.aB.length;have hf2:=Cf.plus vr;have e0:(qS b g (bd.vars.map (·.ty))).vars.length=bd.vars.length:=by simp[qS]
 have e0i:(qS b g (bd.vars.map (·.ty))).is.length=0:=rfl;have e0s:(qS b g (bd.vars.map (·.ty))).aB.length=b.aB.length:=rfl;rw[e0,e0i,e0s]at PC;obtain⟨bo,hbo⟩:∃o,o=cB bd.vars.length 0 b.aB.length bd.code:=⟨_,rfl⟩;rw[<-hbo]at PC vr hf2;have hbO:gj b.aB.length bd=bo:=hbo.symm;obtain⟨b2,Hf⟩:∃b2,b2=(qS b g (bd.vars.map (·.ty))).plus bo:=⟨_,rfl⟩;rw[<-Hf]at PC hf2;have Wn:b2.vars.length=bd.vars.length+bo.vs.length:=by rw[Hf];simp[Bl.plus,qS]
 obtain⟨b3,yy⟩:∃b3:Bl,b3={ b2 with vars:=b2.vars++(if g.bO then [g.bz] else []),is:=b2.is++wO g (bd.vars.length+bo.vs.length) }:=⟨_,rfl⟩;have c1:(cp b.aB.length g bd).vars=b3.vars:=by rw[yy,Hf];simp[cp,hbO,Bl.plus,qS]
 have c2:(cp b.aB.length g bd).is=b3.is:=by rw[yy,Hf];simp[cp,hbO,Bl.plus,qS]
 have c3:b3.aB=(Az b b.aB.length g bd).aB:=by rw[yy,Hf];simp[Az,hbO,Bl.plus,qS]
 have c4:b3.dX=b.dX:=by rw[yy,Hf];rfl
 have c5:b3.aR=b.aR/\b3.EK=b.EK/\b3.main=b.main/\b3.params=g.ps.length/\b3.bO=g.bO/\b3.bz=g.bz:=by rw[yy,Hf];exact⟨rfl,rfl,rfl,rfl,rfl,rfl⟩
 have jn:b3.is≠[]:=by
  intro q;rw[yy]at q;have q:b2.is++wO g (bd.vars.length+bo.vs.length)=[]:=q;have:=(List.append_eq_nil_iff.1 q).2;unfold wO at this;split at this<;>cases this
 have hex:=L4 b3 pre jn;have h5:=mQ b3.is 0;have G4:¬b3.is.map In.row=[]:=by simpa using jn
 have ae6:b3.is.length-1+1=b3.is.length:=by have:=List.length_pos_iff.2 jn;omega
 have Cq:Cd.row (cp b.aB.length g bd)=[.int .i64 g.ps.length,aA 3 (b3.vars.map T3.cells),.bool g.bO,.int .i64 g.bz.b,.int .i64 g.bz.r,.int .i64 g.bz.d,.dL 6 (b3.is.map In.row)]:=by
  unfold Cd.row;rw[c1,c2];have:aA 6 (b3.is.map In.row)=.dL 6 (b3.is.map In.row):=by cases hh:b3.is.map In.row with|nil=>exact absurd hh G4|cons a l=>rfl
  rw[this];rfl
 have tP:Wt (cp b.aB.length g bd) (Az b b.aB.length g bd) pre=.rows 0 12 [[b.aR,bE 3 (b.EK.map T3.cells),.iO 7 (b.dX.map Cd.row++[Cd.row (cp b.aB.length g bd)]),bE 4 (b3.aB.map Sd.row),.int .i64 b.main,
   .int .i64 g.ps.length,bE 3 (b3.vars.map T3.cells),.bool g.bO,.int .i64 g.bz.b,.int .i64 g.bz.r,.int .i64 g.bz.d,.dL 6 (b3.is.map In.row)]]::(pre++[.rows b3.is.length 6 []]):=by
  unfold Wt XZ;rw[c1,c2,<-c3];have:bE 7 ((Az b b.aB.length g bd).dX.map Cd.row)=.iO 7 (b.dX.map Cd.row++[Cd.row (cp b.aB.length g bd)]):=by simp[Az,bE]
  rw[this];rfl
 rw[Cq]at tP;have rf:=λwl li st=>K9.Lw wl li g.bz st;have p1:aD (br g.ps)=true:=aL;have p2:(br g.ps).view=br g.ps:=aJ;have p3:aM (br g.ps)=g.ps.map Vd.row:=aE;have v1:aD (br bd.vars)=true:=aL;have v2:(br bd.vars).view=br bd.vars:=aJ;have v3:aM (br bd.vars)=bd.vars.map Vd.row:=aE;have v4:bX 4 (br bd.vars)=true:=zL (by simp[bN,Vd.row]);have s1:aD (aS bd.code)=true:=bn;have s2:(aS bd.code).view=aS bd.code:=aO;rw[tP];refine ay (sf:=s23) rfl rfl rfl ?_;simp only[Sg.row,Bd.row];generalize br g.ps=PV at *;generalize br bd.vars=FV at *;generalize aS bd.code=SV at *;simp[s23,p1,p2,p3,v1,v2,v3,s1,eC.bg,AV.view,pB,XZ,cut,ag,aY,AV.ai,AV.ax];obtain⟨Lf,hLf⟩:∃Lf:Nat->List (List AV),Lf=λk=>(bd.vars.take k).map (λv=>[.int .i64 v.ty.b,.int .i64 v.ty.r,.int .i64 v.ty.d]):=⟨_,rfl⟩;have ae8:∀k,k<=bd.vars.length->(Lf k).length=k:=λk hk=>by rw[hLf];simp;omega
 have hLS:∀k (h:k<bd.vars.length),Lf (k+1)=Lf k++[[.int .i64 bd.vars[k].ty.b,.int .i64 bd.vars[k].ty.r,.int .i64 bd.vars[k].ty.d]]:=λk h=>by
  rw[hLf];simp only;rw[List.take_succ_eq_append_getElem h,List.map_append];rfl
 have hOE:bE 3 ((bd.vars.map (·.ty)).map T3.cells)=bE 3 (Lf bd.vars.length):=by rw[hLf];simp only[List.take_length,List.map_map];rfl
 have hL0:bE 3 (Lf 0)=.U:=by rw[hLf];rfl
 clear hLf;rw[aaP,hOE,XZ]at PC;refine bf Re.eq_1 (λx:Nat×List AV=>⟨[(0,.val (.ptr 0 0 0 0)),(4,.fp 0 0),(5,.fp 1 0),(22,.val FV),(23,.val (.int .i64 bd.vars.length)),(24,.val (.int .i64 x.1))],
   [[.str g.nm,PV,.bool g.bO,.int .i64 g.bz.b,.int .i64 g.bz.r,.int .i64 g.bz.d],[FV,SV,.int .i64 bd.a],x.2],
   .rows 0 12 [[b.aR,bE 3 (b.EK.map T3.cells),bE 7 (b.dX.map Cd.row),bE 4 (b.aB.map Sd.row),.int .i64 b.main,.int .i64 g.ps.length,bE 3 (Lf x.1),.bool g.bO,.int .i64 g.bz.b,.int .i64 g.bz.r,.int .i64 g.bz.d,.U]]::pre⟩)
  (λx=>x.1<=bd.vars.length) (λx=>bd.vars.length-x.1) (0,[]) (by simp[hL0]) (by simp) ?_
 rintro⟨k,bx⟩ hk ih;simp only at hk ih;by_cases aW:k<bd.vars.length;have nK:=wk k (by omega);have hg:(bd.vars.map Vd.row)[k]?=some (Vd.row bd.vars[k]):=by simp[aW]
 have gY:k<(bd.vars.map Vd.row).length:=by simpa using aW
 have xY:(bd.vars.map Vd.row)[k]'gY=Vd.row bd.vars[k]:=by simp
 have dx:=λb=>ih (k+1,b) (by simp only;omega) (by simp only;omega);simp only at dx;have hl:=ae8 k hk;have ho:bE 3 (Lf (k+1))=.iO 3 (Lf k++[[.int .i64 bd.vars[k].ty.b,.int .i64 bd.vars[k].ty.r,.int .i64 bd.vars[k].ty.d]]):=by rw[hLS k aW];unfold bE;rw[if_neg (by simp)]
 rw[ho]at dx;have mE:(k+1)*24<=cR:=by unfold cR;omega
 have qb:24<=cR:=by decide
 simp only[Vd.row,T3.cells]at hg xY;by_cases k0:Lf k=[];rw[k0]at dx ⊢;have o1:bE 3 ([]:List (List AV))=.U:=rfl;simp only[List.nil_append]at dx;simp[aW,v4,v3,xY,o1,ag,AV.view,au,an,cut];simp[aV,dM,cV,bP,nK,ag,AV.view,cut,bN,qb,aY,AV.ai,AV.ax,AV.dJ];exact dx _;have o1:bE 3 (Lf k)=.iO 3 (Lf k):=by unfold bE;rw[if_neg k0]
 rw[o1];simp[aW,v4,v3,xY,ag,AV.view,au,an,cut];simp[aV,dM,cV,bP,nK,hl,ag,AV.view,cut,bN,mE,aY,AV.ai,AV.ax,AV.dJ];exact dx _;have eK:k=bd.vars.length:=by omega
 have ae9:jE []=.U:=rfl;have am3:b2.is.length<1000000000-2:=by have:=hf2.2.1;omega
 have hz:b3.is.length-1+1=b3.is.length:=ae6;have mE:(b.dX.length+1)*88<=cR:=by unfold cR;omega
 subst eK;have qb:88<=cR:=by decide
 have Mm:(b.dX.map Cd.row).length=b.dX.length:=by simp
 have q1:=iZ 3 (b3.vars.map T3.cells);have q2:=nB 3 (b3.vars.map T3.cells);have q3:(aA 3 (b3.vars.map T3.cells)).ax=true:=oP;have q4:(aA 3 (b3.vars.map T3.cells)).cx=true:=kZ;have q5:(aA 3 (b3.vars.map T3.cells)).view=aA 3 (b3.vars.map T3.cells):=aJ;have am4:(.rows 0 12 [[b.aR,bE 3 (b.EK.map T3.cells),bE 7 (b.dX.map Cd.row),bE 4 (b3.aB.map Sd.row),.int .i64 b.main,.int .i64 g.ps.length,bE 3 (b3.vars.map T3.cells),.bool g.bO,.int .i64 g.bz.b,.int .i64 g.bz.r,.int .i64 g.bz.d,
   .mu (pre.length+1) (b3.is.length-1)]]::(pre++[.rows (b3.is.length-1) 6 (b3.is.map In.row)])).length=pre.length+2:=by simp
 have lG:∀b0 b1 b2:List AV,W S 0 0 [] (zM [] Mode.zg (.rows 0 12 [[b.aR,bE 3 (b.EK.map T3.cells),bE 7 (b.dX.map Cd.row),bE 4 (b.aB.map Sd.row),.int .i64 b.main,t0,t1,t2,t3,t4,t5,t6]]::pre)
   (.fm [],.rows 0 12 [[b.aR,bE 3 (b.EK.map T3.cells),.iO 7 (b.dX.map Cd.row++[[.int .i64 g.ps.length,aA 3 (b3.vars.map T3.cells),.bool g.bO,.int .i64 g.bz.b,.int .i64 g.bz.r,.int .i64 g.bz.d,.dL 6 (b3.is.map In.row)]]),bE 4 (b3.aB.map Sd.row),.int .i64 b.main,
    .int .i64 g.ps.length,bE 3 (b3.vars.map T3.cells),.bool g.bO,.int .i64 g.bz.b,.int .i64 g.bz.r,.int .i64 g.bz.d,.dL 6 (b3.is.map In.row)]]::(pre++[.rows b3.is.length 6 []])))
   [qv.code (bw.u6 0 11),qv.code (.region [.o 64 .move [.t 0],.o 65 .move [.t 0],.o 66 .nilCheck [.t 65],
    .o 67 (.fieldAddr 0) [.T 66],.o 68 (.fieldAddr 2) [.T 67],.o 69 (.load false 1 true) [.T 68],.o 70 .move [.t 0],.o 71 .nilCheck [.t 70],
    .o 72 (.fieldAddr 5) [.T 71],.o 73 (.load true 7 false) [.T 72],
    .o 74 (.lit 7 1 [.int .i64 0,.U,.bool false,.int .i64 0,.int .i64 0,.int .i64 0,.U] [0]) [.T 73],.o 75 (.append 7 88) [.T 69,.T 74],
    .o 76 .nilCheck [.t 64],.o 77 (.fieldAddr 0) [.T 76],.o 78 (.fieldAddr 2) [.T 77],.n (.store 1) [.T 78,.T 75]] (some [(9,5)]) [0,64,65,70])]
   Ex.normal ⟨[(0,.val (.ptr 0 0 0 0))],[b0,b1,b2],.rows 0 12 [[b.aR,bE 3 (b.EK.map T3.cells),bE 7 (b.dX.map Cd.row),bE 4 (b3.aB.map Sd.row),.int .i64 b.main,.int .i64 g.ps.length,bE 3 (b3.vars.map T3.cells),.bool g.bO,.int .i64 g.bz.b,.int .i64 g.bz.r,.int .i64 g.bz.d,
   .mu (pre.length+1) (b3.is.length-1)]]::(pre++[.rows (b3.is.length-1) 6 (b3.is.map In.row)])⟩:=by
  intro b0 b1 b2;rw[K5];refine⟨0,0,0,0,.mu (pre.length+1) (b3.is.length-1),.dL 6 (b3.is.map In.row),.rows 0 12 [[b.aR,bE 3 (b.EK.map T3.cells),bE 7 (b.dX.map Cd.row),bE 4 (b3.aB.map Sd.row),.int .i64 b.main,.int .i64 g.ps.length,bE 3 (b3.vars.map T3.cells),.bool g.bO,.int .i64 g.bz.b,.int .i64 g.bz.r,.int .i64 g.bz.d,
   .mu (pre.length+1) (b3.is.length-1)]]::(pre++[.rows b3.is.length 6 []]),.rows 0 12 [[b.aR,bE 3 (b.EK.map T3.cells),bE 7 (b.dX.map Cd.row),bE 4 (b3.aB.map Sd.row),.int .i64 b.main,.int .i64 g.ps.length,bE 3 (b3.vars.map T3.cells),.bool g.bO,.int .i64 g.bz.b,.int .i64 g.bz.r,.int .i64 g.bz.d,
   .dL 6 (b3.is.map In.row)]]::(pre++[.rows b3.is.length 6 []]),rfl,by simp[dM,cut],?_,by simp[cV,aY,ag],?_⟩
  simp[o6,jm,h5,hz,jn];generalize hCR:b.dX.map Cd.row=CR at *;generalize hMR:b3.is.map In.row=MR at *;generalize aA 3 (b3.vars.map T3.cells)=LV3 at *;generalize bE 3 (b3.vars.map T3.cells)=OV3 at *;generalize bE 4 (b3.aB.map Sd.row)=OS3 at *;generalize bE 3 (b.EK.map T3.cells)=OG at *;by_cases yH:CR=[];have e0:bE 7 CR=.U:=by rw[yH];rfl
  rw[e0,yH];rw[mV];simp[dS,gO,cW,bG,eC.bg,aV,dM,cV,bP,ag,AV.view,AV.cq,cut,bN,qb,aY,AV.ai,AV.ax,AV.dJ,q1,q3,q4,q5];refine⟨_,_,⟨rfl,rfl⟩,?_⟩;simp[fq.fG,AV.fG,AV.qT,ld,fj,AV.cq,AV.view,q1];have e0:bE 7 CR=.iO 7 CR:=by unfold bE;rw[if_neg yH]
  rw[e0];rw[mV];simp[dS,gO,cW,bG,eC.bg,aV,dM,cV,bP,ag,AV.view,AV.cq,cut,bN,Mm,mE,aY,AV.ai,AV.ax,AV.dJ,q1,q3,q4,q5];refine⟨_,_,⟨rfl,rfl⟩,?_⟩;simp[fq.fG,AV.fG,AV.qT,ld,fj,AV.cq,AV.view,q1]
 cases hh:g.bO with
 |false=>
  have ha:=ig b2 pre ⟨18,-1,0,0,0,[]⟩ (by omega);have e3:{ b2 with is:=b2.is++[⟨18,-1,0,0,0,[]⟩] }=b3:=by rw[yy,hh];simp[wO,hh]
  rw[e3,hex]at ha;simp only[In.row,ae9,pB,c4,c5.1,c5.2.1,c5.2.2.1,c5.2.2.2.1,c5.2.2.2.2.1,c5.2.2.2.2.2,hh]at ha;simp only[hh,pB]at PC;rw[hh]at lG;clear hex e3 tP Cq;generalize bE 3 (Lf bd.vars.length)=OV at *;generalize iw b2 pre=kO at *;simp[PC,ha,s2,ag,AV.view,cut];exact lG _ _ _
 |true=>
  have ht:=λli=>uQ li b2 pre g.bz (by have:=hf2.1;omega);have PI:=ig { b2 with vars:=b2.vars++[g.bz] } pre ⟨if nJ g.bz then 2 else 1,(b2.vars.length:Int),0,0,0,[]⟩ (by show b2.is.length<_;omega);have QB:=ig { b2 with vars:=b2.vars++[g.bz],is:=b2.is++[⟨if nJ g.bz then 2 else 1,(b2.vars.length:Int),0,0,0,[]⟩] } pre ⟨18,(b2.vars.length:Int),0,0,0,[]⟩ (by show (b2.is++[_]).length<_;simp;omega);have e3:{ b2 with vars:=b2.vars++[g.bz],is:=b2.is++[⟨if nJ g.bz then 2 else 1,(b2.vars.length:Int),0,0,0,[]⟩]++[⟨18,(b2.vars.length:Int),0,0,0,[]⟩] }=b3:=by rw[yy,hh,<-Wn];simp[wO,hh]
  simp only[e3]at QB;rw[hex]at QB;simp only[In.row,ae9,pB,c4,c5.1,c5.2.1,c5.2.2.1,c5.2.2.2.1,c5.2.2.2.2.1,c5.2.2.2.2.2,hh]at PI QB;simp only[hh,pB]at PC;simp only[pB,T3.cells]at ht;rw[hh]at lG;clear hex e3 tP Cq;generalize bE 3 (Lf bd.vars.length)=OV at *;generalize iw { b2 with vars:=b2.vars++[g.bz],is:=b2.is++[⟨if nJ g.bz then 2 else 1,(b2.vars.length:Int),0,0,0,[]⟩] } pre=st4 at *;generalize iw { b2 with vars:=b2.vars++[g.bz] } pre=st3 at *;generalize iw b2 pre=kO at *;cases hr:nJ g.bz with
  |false=>
   simp only[hr,Bool.false_eq_true,if_false]at PI;simp[PC,rf,hr,ht,PI,QB,s2,ag,AV.view,cut];exact lG _ _ _
  |true=>
   simp only[hr,if_true]at PI;simp[PC,rf,hr,ht,PI,QB,s2,ag,AV.view,cut];exact lG _ _ _
end pU
namespace pU
open Ax Go bu V7 jG j9 tc
open K9 (mI jS fW uN)
open N7 (iY)
def eG(p:Pg):Bool:=decide (12<p.aR.length)||decide (8<p.globals.length)||decide (16<p.funcs.length)||p.aR.any (λr=>decide (8<r.cP.length))||p.funcs.any (λf=>decide (6<f.params.length))
theorem Ts(wl af:Nat)(p:Pg)(st:aj)(h1:p.aR.length<1000000000)(h3:p.funcs.length<1000000000) :
  (bh S).call wl af 22 [.agg p.row] st=some (.bool (eG p),st):=by
 refine bL (sf:=s22) rfl rfl (by simp[Pg.row,AV.ai,AV.ax]) rfl rfl ?_;have r1:aD (aA 3 (p.aR.map Rc.row))=true:=aL;have r2:(aA 3 (p.aR.map Rc.row)).view=aA 3 (p.aR.map Rc.row):=aJ;have r3:aM (aA 3 (p.aR.map Rc.row))=p.aR.map Rc.row:=aE;have r4:bX 3 (aA 3 (p.aR.map Rc.row))=true:=zL (by simp[bN,Rc.row]);have f1:aD (aA 7 (p.funcs.map Fc.row))=true:=aL;have f2:(aA 7 (p.funcs.map Fc.row)).view=aA 7 (p.funcs.map Fc.row):=aJ;have f3:aM (aA 7 (p.funcs.map Fc.row))=p.funcs.map Fc.row:=aE;have f4:bX 7 (aA 7 (p.funcs.map Fc.row))=true:=zL (by simp[bN,Fc.row]);have g1:aD (aA 4 (p.globals.map PD.cells))=true:=aL;have g2:(aA 4 (p.globals.map PD.cells)).view=aA 4 (p.globals.map PD.cells):=aJ;have g3:aM (aA 4 (p.globals.map PD.cells))=p.globals.map PD.cells:=aE;simp only[Pg.row];generalize aA 3 (p.aR.map Rc.row)=PR at *;generalize aA 7 (p.funcs.map Fc.row)=PF at *;generalize aA 4 (p.globals.map PD.cells)=PG at *;by_cases q1:(12:Int)<(p.aR.length:Int);have:eG p=true:=by unfold eG;rw[decide_eq_true (by omega:12<p.aR.length)];rfl
 rw[this];simp[s22,r1,r2,r3,f1,g1,AV.view,q1];by_cases q2:(8:Int)<(p.globals.length:Int);have:eG p=true:=by unfold eG;rw[decide_eq_true (by omega:8<p.globals.length)];simp
 rw[this];simp[s22,r1,r2,r3,f1,g1,g2,g3,AV.view,q1,q2];by_cases q3:(16:Int)<(p.funcs.length:Int);have:eG p=true:=by unfold eG;rw[decide_eq_true (by omega:16<p.funcs.length)];simp
 rw[this];simp[s22,r1,r2,r3,f1,f2,f3,g1,g2,g3,AV.view,q1,q2,q3];have hG:eG p=(p.aR.any (λr=>decide (8<r.cP.length))||p.funcs.any (λf=>decide (6<f.params.length))):=by
  unfold eG;rw[decide_eq_false (by omega:¬12<p.aR.length),decide_eq_false (by omega:¬8<p.globals.length),decide_eq_false (by omega:¬16<p.funcs.length)];rfl
 simp[s22,r1,r2,r3,f1,f2,f3,g1,g2,g3,AV.view,q1,q2,q3];refine bf Rb.eq_1 (λx:Nat×List AV=>⟨[(1,.fp 0 0),(24,.val PR),(25,.val (.int .i64 p.aR.length)),(26,.val (.int .i64 x.1))],[[PR,PG,PF],x.2,[]],[]⟩)
  (λx=>x.1<=p.aR.length/\eG p=((p.aR.drop x.1).any (λr=>decide (8<r.cP.length))||p.funcs.any (λf=>decide (6<f.params.length)))) (λx=>p.aR.length-x.1) (0,[]) (by simp) ⟨by simp,by simpa using hG⟩ ?_
 rintro⟨k,bx⟩ ⟨hk,hp⟩ ih;simp only at hk hp ih;by_cases aW:k<p.aR.length;have nK:=wk k (by omega);rw[List.drop_eq_getElem_cons aW]at hp;have hg:(p.aR.map Rc.row)[k]?=some (Rc.row p.aR[k]):=by simp[aW]
 have gY:k<(p.aR.map Rc.row).length:=by simpa using aW
 have xY:(p.aR.map Rc.row)[k]'gY=Rc.row p.aR[k]:=by simp
 have x1:aD (aA 4 (p.aR[k].cP.map PD.cells))=true:=aL;have x2:(aA 4 (p.aR[k].cP.map PD.cells)).view=aA 4 (p.aR[k].cP.map PD.cells):=aJ;have x3:aM (aA 4 (p.aR[k].cP.map PD.cells))=p.aR[k].cP.map PD.cells:=aE;simp only[Rc.row]at hg xY;by_cases c:(8:Int)<(p.aR[k].cP.length:Int);have:eG p=true:=by rw[hp,List.any_cons,decide_eq_true (by omega:8<p.aR[k].cP.length)];rfl
 rw[this];generalize aA 4 (p.aR[k].cP.map PD.cells)=XV at *;simp[aW,r4,r3,xY,x1,x2,x3,c,ag,AV.view];rw[List.any_cons,decide_eq_false (by omega:¬8<p.aR[k].cP.length),Bool.false_or]at hp;have dx:=λb=>ih (k+1,b) ⟨by simp only;omega,hp⟩ (by simp only;omega);simp only at dx;generalize aA 4 (p.aR[k].cP.map PD.cells)=XV at *;simp[aW,nK,r4,r3,xY,x1,x2,x3,c,ag,AV.view];exact dx _;have eK:k=p.aR.length:=by omega
 rw[eK,List.drop_length]at hp;have hG:eG p=p.funcs.any (λf=>decide (6<f.params.length)):=by simpa using hp
 simp[aW,f1,f2,f3,AV.view];refine bf Rd.eq_1 (λx:Nat×List AV×List AV=>⟨[(36,.val PF),(37,.val (.int .i64 p.funcs.length)),(38,.val (.int .i64 x.1))],[[PR,PG,PF],x.2.1,x.2.2],[]⟩)
  (λx=>x.1<=p.funcs.length/\eG p=(p.funcs.drop x.1).any (λf=>decide (6<f.params.length))) (λx=>p.funcs.length-x.1) (0,bx,[]) (by simp) ⟨by simp,by simpa using hG⟩ ?_
 rintro⟨k,bx1,bx⟩ ⟨hk,hp⟩ ih;simp only at hk hp ih;by_cases aW:k<p.funcs.length;have nK:=wk k (by omega);rw[List.drop_eq_getElem_cons aW]at hp;have hg:(p.funcs.map Fc.row)[k]?=some (Fc.row p.funcs[k]):=by simp[aW]
 have gY:k<(p.funcs.map Fc.row).length:=by simpa using aW
 have xY:(p.funcs.map Fc.row)[k]'gY=Fc.row p.funcs[k]:=by simp
 have x1:aD (aA 4 (p.funcs[k].params.map PD.cells))=true:=aL;have x2:(aA 4 (p.funcs[k].params.map PD.cells)).view=aA 4 (p.funcs[k].params.map PD.cells):=aJ;have x3:aM (aA 4 (p.funcs[k].params.map PD.cells))=p.funcs[k].params.map PD.cells:=aE;have y1:aD (aS p.funcs[k].body)=true:=bn;have y2:(aS p.funcs[k].body).view=aS p.funcs[k].body:=aO;simp only[Fc.row]at hg xY;by_cases c:(6:Int)<(p.funcs[k].params.length:Int);have:eG p=true:=by rw[hp,List.any_cons,decide_eq_true (by omega:6<p.funcs[k].params.length)];rfl
 rw[this];generalize aA 4 (p.funcs[k].params.map PD.cells)=XV at *;generalize aS p.funcs[k].body=YV at *;simp[aW,f4,f3,xY,x1,x2,x3,y1,y2,c,ag,AV.view];rw[List.any_cons,decide_eq_false (by omega:¬6<p.funcs[k].params.length),Bool.false_or]at hp;have dx:=λa b=>ih (k+1,a,b) ⟨by simp only;omega,hp⟩ (by simp only;omega);simp only at dx;generalize aA 4 (p.funcs[k].params.map PD.cells)=XV at *;generalize aS p.funcs[k].body=YV at *;simp[aW,nK,f4,f3,xY,x1,x2,x3,y1,y2,c,ag,AV.view];exact dx _ _;have eK:k=p.funcs.length:=by omega
 rw[eK,List.drop_length]at hp;rw[hp];simp[aW]
end pU
namespace pU
open Ax Go bu V7 jG j9 tc
open K9 (mI jS fW uN Z5)
open N7 U7
open S9 (u0 tQ)
abbrev ZX:AV:=.agg [.U,.U,.U,.U,.int .i64 0]
def oq(H:Hd)(main:Int)(cs:List Cd)(ss:List Sd):List AV:=[aA 2 (H.bK.map dw),aA 3 (H.globals.map (λv=>v.ty.cells)),aA 7 (cs.map Cd.row),aA 4 (ss.map Sd.row),.int .i64 main]
def O6(H:Hd)(main:Int)(r:Except Int (List Cd×List Sd)):AV:=match r with
 |.error a=>.fm [ZX,.agg [.int .i64 4,.int .i64 a]]|.ok (cs,ss)=>.fm [.agg (oq H main cs ss),.agg [.int .i64 0,.int .i64 0]]
def nC(p:Pg):AV:=match iS (iY p) with
 |some a=>.fm [ZX,.agg [.int .i64 3,.int .i64 a]]|none=>match qh (aG p) (aG p).sigs p.funcs with
  |.error a=>.fm [ZX,.agg [.int .i64 3,.int .i64 a]]|.ok bs=>match u0 p with
   |some a=>.fm [ZX,.agg [.int .i64 3,.int .i64 a]]|none=>if eG p then .fm [ZX,.agg [.int .i64 4,.int .i64 0]] else O6 (aG p) (fW p) (vp [] [] 0 (aG p).sigs bs)
theorem oX(sz:Nat)(l:List (List AV)):aD (bE sz l)=true:=by unfold bE;split<;>rfl
theorem oY(sz:Nat)(l:List (List AV)):aM (bE sz l)=l:=by
 unfold bE;split;rename_i h;rw[h];rfl
 rfl
theorem Bk{p:Pg}(h:eG p=false):Few p:=by
 unfold eG at h;simp only[Bool.or_eq_false_iff,decide_eq_false_iff_not,List.any_eq_false,decide_eq_true_eq]at h;obtain⟨⟨⟨⟨h1,h2⟩,h3⟩,h4⟩,h5⟩:=h;exact⟨by omega,by omega,by omega,λx hx=>by have:=h4 x hx;omega,λx hx=>by have:=h5 x hx;omega⟩
theorem xN{cs:List Cd}{ss:List Sd}{all:Nat}{s:Sg}{sg:List Sg}{b:Bd}{bs:List Bd}:vp cs ss all (s::sg) (b::bs) =
  if 4000<(cp ss.length s b).vars.length\/2500<all+(cp ss.length s b).is.length\/60<ss.length+(gj ss.length b).ss.length then .error b.a
  else vp (cs++[cp ss.length s b]) (ss++(gj ss.length b).ss.map (λt=>⟨cs.length,t⟩)) (all+(cp ss.length s b).is.length) sg bs:=by
 (conv=>lhs;unfold vp)<;>rfl
theorem AA{cs:List Cd}{ss:List Sd}{all:Nat}{sg:List Sg}:vp cs ss all sg []=.ok (cs,ss):=by cases sg<;>rfl
theorem uR(ns:Nat)(s:Sg)(b:Bd)(hL:LB b.code):(cp ns s b).vars.length<=b.vars.length+2*Sm.cQ b.code+1/\(cp ns s b).is.length<=2*Sm.cQ b.code+2/\(gj ns b).ss.length<=2*Sm.cQ b.code:=by
 obtain⟨h1,h2,h3⟩:=As hL b.vars.length 0 ns;refine⟨?_,?_,h3⟩;show (b.vars.map (·.ty)++(cB b.vars.length 0 ns b.code).vs++(if s.bO then [s.bz] else [])).length<=_;cases s.bO<;>simp<;>omega;show ((cB b.vars.length 0 ns b.code).is++wO s _).length<=_;unfold wO;cases s.bO<;>simp<;>omega
theorem xF(wl af:Nat)(p:Pg)(st:aj)(hg:(iY p).ok)(o9:GD.sm (iY p))(dF:∀f∈p.funcs,f.params.length+Sm.cQ f.body<1000000000)
  (pM:∀bs,qh (aG p) (aG p).sigs p.funcs=.ok bs->∀b∈bs,Sm.cQ b.code<100000000/\b.vars.length<100000000) :
  (bh S).call wl af 6 [.agg p.row] st=some (nC p,st):=by
 have ec:=λwl af st=>K9.wN wl af p st hg o9 dF;have es:=λwl af st=>S9.Wg wl af p st hg o9 dF λbs h b hb=>by have:=pM bs h b hb;omega
 have Ga:p.funcs.length<1000000000:=by have:=o9.funcs;rw[mY,List.length_map]at this;exact this
 have OP:p.aR.length<1000000000:=by have:=o9.aR;rw[og,List.length_map]at this;exact this
 have eg:=λwl af st=>Ts wl af p st OP Ga;unfold mI at ec;have r1:aD (aA 3 (p.aR.map Rc.row))=true:=aL;have r2:(aA 3 (p.aR.map Rc.row)).view=aA 3 (p.aR.map Rc.row):=aJ;have f1:aD (aA 7 (p.funcs.map Fc.row))=true:=aL;have f2:(aA 7 (p.funcs.map Fc.row)).view=aA 7 (p.funcs.map Fc.row):=aJ;have g1:aD (aA 4 (p.globals.map PD.cells))=true:=aL;have g2:(aA 4 (p.globals.map PD.cells)).view=aA 4 (p.globals.map PD.cells):=aJ;have G6:(nC p).ax=true:=by
  unfold nC O6 oq;repeat' split
  all_goals simp[AV.ax,AV.ai]
 refine bL (sf:=s6) rfl rfl (by simp[Pg.row,AV.ai,AV.ax]) rfl G6 ?_;unfold nC;simp only[Pg.row]at ec es eg ⊢;generalize aA 3 (p.aR.map Rc.row)=PR at *;generalize aA 7 (p.funcs.map Fc.row)=PF at *;generalize aA 4 (p.globals.map PD.cells)=PG at *;cases hF:iS (iY p) with
 |some a=>
  rw[hF]at ec;simp[s6,ec,r1,r2,f1,f2,g1,g2,ag,AV.view,au,an]
 |none=>
  rw[hF]at ec;simp only at ec ⊢;cases hR:qh (aG p) (aG p).sigs p.funcs with
  |error a=>
   rw[hR]at ec;simp only[uN]at ec ⊢;simp[s6,ec,r1,r2,f1,f2,g1,g2,ag,AV.view,au,an]
  |ok bs=>
   rw[hR]at ec;simp only[uN,jS,List.cons_append,List.nil_append]at ec ⊢;have t1:aD (aA 2 ((aG p).bK.map dw))=true:=aL;have t2:(aA 2 ((aG p).bK.map dw)).view=aA 2 ((aG p).bK.map dw):=aJ;have u1:aD (br (aG p).globals)=true:=aL;have u2:(br (aG p).globals).view=br (aG p).globals:=aJ;have u3:aM (br (aG p).globals)=(aG p).globals.map Vd.row:=aE;have u4:bX 4 (br (aG p).globals)=true:=zL (by simp[bN,Vd.row]);have v1:aD (aA 6 ((aG p).sigs.map Sg.row))=true:=aL;have v2:(aA 6 ((aG p).sigs.map Sg.row)).view=aA 6 ((aG p).sigs.map Sg.row):=aJ;have v3:aM (aA 6 ((aG p).sigs.map Sg.row))=(aG p).sigs.map Sg.row:=aE;have v4:bX 6 (aA 6 ((aG p).sigs.map Sg.row))=true:=zL (by simp[bN,Sg.row]);have w1:aD (aA 3 (bs.map Bd.row))=true:=aL;have w2:(aA 3 (bs.map Bd.row)).view=aA 3 (bs.map Bd.row):=aJ;have w3:aM (aA 3 (bs.map Bd.row))=bs.map Bd.row:=aE;have w4:bX 3 (aA 3 (bs.map Bd.row))=true:=zL (by simp[bN,Bd.row]);generalize hRV:aA 2 ((aG p).bK.map dw)=RV at *;generalize br (aG p).globals=GV at *;generalize aA 6 ((aG p).sigs.map Sg.row)=SV at *;generalize aA 3 (bs.map Bd.row)=BV at *;cases hS:u0 p with
   |some a=>
    rw[hS]at es;simp only[tQ,S9.cE,S9.cX]at es;simp[s6,ec,es,r1,r2,f1,f2,g1,g2,t1,t2,u1,u2,v1,v2,w1,w2,ag,AV.view,au,an]
   |none=>
    rw[hS]at es;simp only[tQ,S9.cE,S9.cX]at es;cases Wu:eG p with
    |true=>
     rw[Wu]at eg;simp[s6,ec,es,eg,r1,r2,f1,f2,g1,g2,t1,t2,u1,u2,v1,v2,w1,w2,ag,AV.view]
    |false=>
     rw[Wu]at eg;have wR:=Nz hF (Bk Wu);simp[s6,ec,es,eg,r1,r2,f1,f2,g1,g2,t1,t2,u1,u2,u3,v1,v2,w1,w2,ag,AV.view,eC.bg];obtain⟨gl,Kn⟩:∃l,l=(aG p).globals.map (·.ty):=⟨_,rfl⟩;have hgn:(aG p).globals.length=gl.length:=(by rw[Kn];simp);have ajE:gl.length<1000000:=(by rw[<-hgn];have:=wR.ng;omega);have aaQ:∀cs ss,O6 (aG p) (fW p) (.ok (cs,ss))=.fm [.agg [RV,aA 3 (gl.map T3.cells),aA 7 (cs.map Cd.row),aA 4 (ss.map Sd.row),.int .i64 (fW p)],.agg [.int .i64 0,.int .i64 0]]:=λcs ss=>by
      unfold O6 oq;rw[hRV,Kn,List.map_map];rfl
     have hGr:∀k (h:k<gl.length) (h2:k<((aG p).globals.map Vd.row).length),∃nm,((aG p).globals.map Vd.row)[k]=[.str nm,.int .i64 gl[k].b,.int .i64 gl[k].r,.int .i64 gl[k].d]:=λk h h2=>
      ⟨((aG p).globals[k]'(by omega)).nm,by simp[Kn,Vd.row]⟩
     have hGl:((aG p).globals.map Vd.row).length=gl.length:=(by simp[Kn]);have ajG:RV.view=RV:=t2;have cA:(aG p).sigs.length=p.funcs.length:=(by simp[aG]);have NK:bs.length=p.funcs.length:=S9.sC cA hR;have ajH:p.funcs.length<=16:=(Bk Wu).f;have hLB:=L0 wR.gd (by have:=wR.ng;omega) (λs hs v hv=>⟨((wR.ok.sigs s hs).2 v hv),wR.gd.ps s hs v hv⟩) hR;have Qo:=pM bs hR;have EP:∀k (h:k<bs.length) (h2:k<(aG p).sigs.length) cs ss n,vp cs ss n ((aG p).sigs.drop k) (bs.drop k)=if 4000<(cp ss.length (aG p).sigs[k] bs[k]).vars.length\/2500<n+(cp ss.length (aG p).sigs[k] bs[k]).is.length\/60<ss.length+(gj ss.length bs[k]).ss.length then .error bs[k].a
       else vp (cs++[cp ss.length (aG p).sigs[k] bs[k]]) (ss++(gj ss.length bs[k]).ss.map (λt=>⟨cs.length,t⟩)) (n+(cp ss.length (aG p).sigs[k] bs[k]).is.length) ((aG p).sigs.drop (k+1)) (bs.drop (k+1)):=λk h h2 cs ss n=>by
      rw[List.drop_eq_getElem_cons h,List.drop_eq_getElem_cons h2,xN]
     generalize aG p=H at *;generalize fW p=mn at *;generalize hgV:H.globals=Hg at *;refine bf Xw.eq_1 (λx:Nat×List AV=>⟨[(2,.fp 1 0),(3,.fp 2 0),(4,.fp 3 0),(7,.val (.ptr 0 0 0 0)),(45,.val GV),(46,.val (.int .i64 Hg.length)),(47,.val (.int .i64 x.1))],
       [[PR,PG,PF],[.U,.U,.U,.U,.int .i64 0],[.int .i64 0,.int .i64 0],[RV,GV,SV,.int .i64 mn,BV],[.int .i64 0,.int .i64 0],[.int .i64 0,.int .i64 0],x.2,[]],
       [.rows 0 12 [[RV,bE 3 ((gl.take x.1).map T3.cells),.U,.U,.int .i64 mn,.int .i64 0,.U,.bool false,.int .i64 0,.int .i64 0,.int .i64 0,.U]]]⟩)
      (λx=>x.1<=gl.length) (λx=>gl.length-x.1) (0,[]) (by simp[bE]) (by simp) ?_
     rintro⟨k,bx⟩ hk ih;simp only at hk ih;by_cases aW:k<gl.length;have nK:=wk k (by omega);have qa:k<Hg.length:=(by omega);have gY:k<(Hg.map Vd.row).length:=(by simpa using qa);obtain⟨nm,xY⟩:=hGr k aW gY;have dx:=λb=>ih (k+1,b) (by simp only;omega) (by simp only;omega);simp only[List.take_succ_eq_append_getElem aW,List.map_append,List.map_cons,List.map_nil,T3.cells]at dx;have hl:((gl.take k).map T3.cells).length=k:=(by simp;omega);have ho:∀r,bE 3 ((gl.take k).map T3.cells++[r])=.iO 3 ((gl.take k).map T3.cells++[r]):=λr=>by unfold bE;rw[if_neg (by simp)]
     have mE:(k+1)*24<=cR:=(by unfold cR;omega);have qb:24<=cR:=(by decide);generalize (gl.take k).map T3.cells=Lk at *;rw[ho]at dx;by_cases k0:Lk=[];rw[k0]at dx ⊢;have o1:bE 3 ([]:List (List AV))=.U:=rfl;simp only[List.nil_append]at dx;simp[qa,u4,u3,xY,o1,ag,AV.view,au,an,cut];simp[aV,dM,cV,bP,nK,ag,AV.view,cut,bN,qb,aY,AV.ai,AV.ax,AV.dJ];exact dx _;have o1:bE 3 Lk=.iO 3 Lk:=(by unfold bE;rw[if_neg k0]);rw[o1];simp[qa,u4,u3,xY,ag,AV.view,au,an,cut];simp[aV,dM,cV,bP,nK,hl,ag,AV.view,cut,bN,mE,aY,AV.ai,AV.ax,AV.dJ];exact dx _;have eK:k=gl.length:=(by omega);subst eK;rw[List.take_length];simp[hgn,w1,w2,w3,AV.view];obtain⟨B,hB⟩:∃B:List Cd->List Sd->Bl,B=λcs ss=>⟨RV,gl,cs,ss,mn,0,[],false,T0,[]⟩:=⟨_,rfl⟩;have hX:∀cs ss t0 t1 t2 t3 t4 t5 t6 r,XZ (B cs ss) t0 t1 t2 t3 t4 t5 t6 r=.rows 0 12 [[RV,bE 3 (gl.map T3.cells),bE 7 (cs.map Cd.row),bE 4 (ss.map Sd.row),.int .i64 mn,t0,t1,t2,t3,t4,t5,t6]]::r:=λcs ss t0 t1 t2 t3 t4 t5 t6 r=>by rw[hB];rfl
     have hD:∀cs ss ns g bd,Az (B cs ss) ns g bd=B (cs++[cp ns g bd]) (ss++(gj ns bd).ss.map (λt=>⟨cs.length,t⟩)):=λcs ss ns g bd=>by rw[hB];rfl
     have JR:∀cs ss,(B cs ss).aB=ss/\(B cs ss).dX=cs:=λcs ss=>by rw[hB];exact⟨rfl,rfl⟩
     clear hB;have o7:bE 7 ([]:List (List AV))=.U:=rfl;have o4:bE 4 ([]:List (List AV))=.U:=rfl;refine bf Xx.eq_1 (λx:Nat×List Cd×List Sd×Nat×(AV×AV×AV×AV×AV×AV×AV)×aj×List AV×List AV=>⟨[(2,.fp 1 0),(3,.fp 2 0),(4,.fp 3 0),(7,.val (.ptr 0 0 0 0)),(10,.val (.int .i64 x.2.2.2.1)),(66,.val BV),(67,.val (.int .i64 bs.length)),(68,.val (.int .i64 x.1))],
       [[PR,PG,PF],[.U,.U,.U,.U,.int .i64 0],[.int .i64 0,.int .i64 0],[RV,GV,SV,.int .i64 mn,BV],[.int .i64 0,.int .i64 0],[.int .i64 0,.int .i64 0],x.2.2.2.2.2.2.1,x.2.2.2.2.2.2.2],
       .rows 0 12 [[RV,bE 3 (gl.map T3.cells),bE 7 (x.2.1.map Cd.row),bE 4 (x.2.2.1.map Sd.row),.int .i64 mn,x.2.2.2.2.1.1,x.2.2.2.2.1.2.1,x.2.2.2.2.1.2.2.1,x.2.2.2.2.1.2.2.2.1,x.2.2.2.2.1.2.2.2.2.1,x.2.2.2.2.1.2.2.2.2.2.1,x.2.2.2.2.1.2.2.2.2.2.2]]::x.2.2.2.2.2.1⟩)
      (λx=>x.1<=bs.length/\x.2.1.length=x.1/\x.2.2.1.length<=60/\x.2.2.2.1<=2500/\vp x.2.1 x.2.2.1 x.2.2.2.1 (H.sigs.drop x.1) (bs.drop x.1)=vp [] [] 0 H.sigs bs) (λx=>bs.length-x.1)
      (0,[],[],0,(.int .i64 0,.U,.bool false,.int .i64 0,.int .i64 0,.int .i64 0,.U),[],bx,[]) (by simp[o7,o4]) ⟨by simp,rfl,by simp,by simp,rfl⟩ ?_
     rintro⟨k,cs,ss,n,⟨t0,y1,y2,y3,y4,y5,y6⟩,pre,bx6,bx7⟩ ⟨hk,jO,oz,TX,hp⟩ ih;simp only at hk jO oz TX hp ih ⊢;by_cases aW:k<bs.length;have nK:=wk k (by omega);have Fw:k<H.sigs.length:=(by omega);have hm:=List.getElem_mem aW;obtain⟨hcz,Cz⟩:=Qo _ hm;have Wq:=hLB _ hm;have hlb:k<(bs.map Bd.row).length:=(by simpa using aW);have Ns:(bs.map Bd.row)[k]'hlb=Bd.row bs[k]:=(by simp);have G4:k<(H.sigs.map Sg.row).length:=(by simpa using Fw);have yx:(H.sigs.map Sg.row)[k]'G4=Sg.row H.sigs[k]:=(by simp);obtain⟨q1,q2⟩:=JR cs ss;have ct:=Ka (B cs ss) pre H.sigs[k] bs[k] t0 y1 y2 y3 y4 y5 y6 Wq (by omega) (by rw[q1];omega) (by rw[q2];omega);rw[q1,hX,Wt,hD,hX]at ct;obtain⟨l1,l2,l3⟩:=uR ss.length H.sigs[k] bs[k] Wq;have UQ:(cp ss.length H.sigs[k] bs[k]).params=H.sigs[k].ps.length:=rfl;rw[EP k aW Fw]at hp;have HU:IntKind.i64.wrap ((n:Int)+((cp ss.length H.sigs[k] bs[k]).is.length:Int))=((n+(cp ss.length H.sigs[k] bs[k]).is.length:Nat):Int):=(by rw[dZ]<;>omega);obtain⟨g1',g2'⟩:aD (br H.sigs[k].ps)=true/\(br H.sigs[k].ps).view=br H.sigs[k].ps:=⟨aL,aJ⟩;obtain⟨d1,d2⟩:aD (br bs[k].vars)=true/\(br bs[k].vars).view=br bs[k].vars:=⟨aL,aJ⟩;obtain⟨d3,d4⟩:aD (aS bs[k].code)=true/\(aS bs[k].code).view=aS bs[k].code:=⟨bn,aO⟩;have lv:aD (bE 3 ((cp ss.length H.sigs[k] bs[k]).vars.map T3.cells))=true:=oX _ _;have lr:aM (bE 3 ((cp ss.length H.sigs[k] bs[k]).vars.map T3.cells))=(cp ss.length H.sigs[k] bs[k]).vars.map T3.cells:=oY _ _;have sv:aD (bE 4 ((ss++(gj ss.length bs[k]).ss.map (λt=>(⟨cs.length,t⟩:Sd))).map Sd.row))=true:=oX _ _;have sr:aM (bE 4 ((ss++(gj ss.length bs[k]).ss.map (λt=>(⟨cs.length,t⟩:Sd))).map Sd.row))=(ss++(gj ss.length bs[k]).ss.map (λt=>(⟨cs.length,t⟩:Sd))).map Sd.row:=oY _ _;have sl:((ss++(gj ss.length bs[k]).ss.map (λt=>(⟨cs.length,t⟩:Sd))).map Sd.row).length=ss.length+(gj ss.length bs[k]).ss.length:=(by simp);have vl:((cp ss.length H.sigs[k] bs[k]).vars.map T3.cells).length=(cp ss.length H.sigs[k] bs[k]).vars.length:=(by simp);have il:((cp ss.length H.sigs[k] bs[k]).is.map In.row).length=(cp ss.length H.sigs[k] bs[k]).is.length:=(by simp);have ct:(bh S).call 0 0 23 [.ptr 0 0 0 0,.agg H.sigs[k].row,.agg bs[k].row] _=_:=ct;simp only[Sg.row,Bd.row]at ct Ns yx;have Kb:((4000:Int)<((cp ss.length H.sigs[k] bs[k]).vars.length:Int))=(4000<(cp ss.length H.sigs[k] bs[k]).vars.length):=propext ⟨λ_=>by omega,λ_=>by omega⟩;have Cr:((2500:Int)<((n+(cp ss.length H.sigs[k] bs[k]).is.length:Nat):Int))=(2500<n+(cp ss.length H.sigs[k] bs[k]).is.length):=propext ⟨λ_=>by omega,λ_=>by omega⟩;have GF:((60:Int)<((ss.length+(gj ss.length bs[k]).ss.length:Nat):Int))=(60<ss.length+(gj ss.length bs[k]).ss.length):=propext ⟨λ_=>by omega,λ_=>by omega⟩;obtain⟨n',N8⟩:∃n',n'=n+(cp ss.length H.sigs[k] bs[k]).is.length:=⟨_,rfl⟩;obtain⟨s',Cc⟩:∃s',s'=ss.length+(gj ss.length bs[k]).ss.length:=⟨_,rfl⟩;rw[<-N8,<-Cc]at hp;rw[<-N8]at HU Cr;rw[<-Cc]at sl GF;by_cases kk:4000<(cp ss.length H.sigs[k] bs[k]).vars.length\/2500<n'\/60<s';rw[if_pos kk]at hp;rw[<-hp];simp only[O6];by_cases k1:4000<(cp ss.length H.sigs[k] bs[k]).vars.length;rw[eq_true k1]at Kb;clear Cr GF N8 Cc ih l1 l2 l3 EP hp kk k1;generalize cp ss.length H.sigs[k] bs[k]=c at *;generalize ss++(gj ss.length bs[k]).ss.map (λt=>(⟨cs.length,t⟩:Sd))=O7 at *;generalize bE 3 (c.vars.map T3.cells)=OV at *;generalize bE 4 (O7.map Sd.row)=OS at *;generalize bE 7 ((cs++[c]).map Cd.row)=OC at *;generalize bE 3 (gl.map T3.cells)=OG at *;generalize H.sigs[k]=sg at *;generalize bs[k]=bd at *;generalize br sg.ps=GP at *;generalize br bd.vars=BVs at *;generalize aS bd.code=BC at *;simp[aW,Fw,HU,w4,w3,v4,v3,Ns,yx,g2',d1,d2,d3,d4,ct,lv,lr,Kb,vl,il,ag,AV.view,au,an,cut];by_cases k2:2500<n';rw[eq_false k1]at Kb;rw[eq_true k2]at Cr;clear GF N8 Cc ih l1 l2 l3 EP hp kk k1 k2;generalize cp ss.length H.sigs[k] bs[k]=c at *;generalize ss++(gj ss.length bs[k]).ss.map (λt=>(⟨cs.length,t⟩:Sd))=O7 at *;generalize bE 3 (c.vars.map T3.cells)=OV at *;generalize bE 4 (O7.map Sd.row)=OS at *;generalize bE 7 ((cs++[c]).map Cd.row)=OC at *;generalize bE 3 (gl.map T3.cells)=OG at *;generalize H.sigs[k]=sg at *;generalize bs[k]=bd at *;generalize br sg.ps=GP at *;generalize br bd.vars=BVs at *;generalize aS bd.code=BC at *;simp[aW,Fw,HU,w4,w3,v4,v3,Ns,yx,g2',d1,d2,d3,d4,ct,lv,lr,Kb,Cr,vl,il,ag,AV.view,au,an,cut];have k3:60<s':=(by omega);rw[eq_false k1]at Kb;rw[eq_false k2]at Cr;rw[eq_true k3]at GF;clear N8 Cc ih l1 l2 l3 EP hp kk k1 k2 k3;generalize cp ss.length H.sigs[k] bs[k]=c at *;generalize ss++(gj ss.length bs[k]).ss.map (λt=>(⟨cs.length,t⟩:Sd))=O7 at *;generalize bE 3 (c.vars.map T3.cells)=OV at *;generalize bE 4 (O7.map Sd.row)=OS at *;generalize bE 7 ((cs++[c]).map Cd.row)=OC at *;generalize bE 3 (gl.map T3.cells)=OG at *;generalize H.sigs[k]=sg at *;generalize bs[k]=bd at *;generalize br sg.ps=GP at *;generalize br bd.vars=BVs at *;generalize aS bd.code=BC at *;simp[aW,Fw,HU,w4,w3,v4,v3,Ns,yx,g2',d1,d2,d3,d4,ct,lv,lr,sv,sr,sl,Kb,Cr,GF,vl,il,ag,AV.view,au,an,cut];rw[if_neg kk]at hp;have k1:¬4000<(cp ss.length H.sigs[k] bs[k]).vars.length:=λh=>kk (.inl h);have k2:¬2500<n':=λh=>kk (.inr (.inl h));have k3:¬60<s':=λh=>kk (.inr (.inr h));rw[eq_false k1]at Kb;rw[eq_false k2]at Cr;rw[eq_false k3]at GF;have dx:=λa b c d e f g pre x6 x7=>ih (k+1,cs++[cp ss.length H.sigs[k] bs[k]],ss++(gj ss.length bs[k]).ss.map (λt=>(⟨cs.length,t⟩:Sd)),n',(a,b,c,d,e,f,g),pre,x6,x7)
      ⟨by simp only;omega,by simp[jO],by simp only[List.length_append,List.length_map];omega,by simp only;omega,hp⟩ (by simp only;omega)
     simp only at dx;clear N8 Cc ih l1 l2 l3 EP hp kk k1 k2 k3;generalize cp ss.length H.sigs[k] bs[k]=c at *;generalize ss++(gj ss.length bs[k]).ss.map (λt=>(⟨cs.length,t⟩:Sd))=O7 at *;generalize bE 3 (c.vars.map T3.cells)=OV at *;generalize bE 4 (O7.map Sd.row)=OS at *;generalize bE 7 ((cs++[c]).map Cd.row)=OC at *;generalize bE 3 (gl.map T3.cells)=OG at *;generalize H.sigs[k]=sg at *;generalize bs[k]=bd at *;generalize br sg.ps=GP at *;generalize br bd.vars=BVs at *;generalize aS bd.code=BC at *;simp[aW,Fw,HU,w4,w3,v4,v3,Ns,yx,g2',d1,d2,d3,d4,ct,lv,lr,sv,sr,sl,nK,Kb,Cr,GF,vl,il,ag,AV.view,au,an,cut];exact dx _ _ _ _ _ _ _ _ _ _;have eK:k=bs.length:=(by omega);rw[eK,List.drop_length,AA]at hp;rw[<-hp,aaQ,eK];have e1:=iZ 3 (gl.map T3.cells);have e2:=iZ 7 (cs.map Cd.row);have e3:=iZ 4 (ss.map Sd.row);have p1:(aA 3 (gl.map T3.cells)).ax=true:=oP;have p2:(aA 7 (cs.map Cd.row)).ax=true:=oP;have p3:(aA 4 (ss.map Sd.row)).ax=true:=oP;have n1:(aA 3 (gl.map T3.cells)).cx=true:=kZ;have n2:(aA 7 (cs.map Cd.row)).cx=true:=kZ;have n3:(aA 4 (ss.map Sd.row)).cx=true:=kZ;have m1:(aA 3 (gl.map T3.cells)).view=aA 3 (gl.map T3.cells):=aJ;have m2:(aA 7 (cs.map Cd.row)).view=aA 7 (cs.map Cd.row):=aJ;have m3:(aA 4 (ss.map Sd.row)).view=aA 4 (ss.map Sd.row):=aJ;generalize aA 3 (gl.map T3.cells)=LG at *;generalize aA 7 (cs.map Cd.row)=LC at *;generalize aA 4 (ss.map Sd.row)=LS at *;generalize bE 3 (gl.map T3.cells)=OG at *;generalize bE 7 (cs.map Cd.row)=OC at *;generalize bE 4 (ss.map Sd.row)=OS at *;simp[e1,e2,e3,n1,n2,n3,t1,t2,ag,AV.view,cut,bP,AV.cq]
end pU
