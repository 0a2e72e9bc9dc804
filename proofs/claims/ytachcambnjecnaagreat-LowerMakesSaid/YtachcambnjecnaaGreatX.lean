/- Part of a proof. -/
import Derived.Test.YtachcambnjecnaaGreatW
import Derived.Test.YtachcambnjecnaaGreatC
import Derived.Test.YtachcambnjecnaaGreatS
import Derived.Test.YtachcambnjecnaaGreatF

set_option maxRecDepth 100000
set_option maxHeartbeats 4000000
namespace pX
open Ax Go bu V7 jG ke tf
def X4(b:Bl)(t0 t1 t2 t3 t4 t5 t6:AV)(r:aj):aj:=.rows 0 12 [[b.aS,bE 3 (b.EO.map T3.cells),bE 7 (b.dX.map Cd.row),bE 4 (b.aB.map Sd.row),.int .i64 b.main,t0,t1,t2,t3,t4,t5,t6]]::r
def qV(b:Bl)(g:Sg)(vs:List T3):Bl:={ b with params:=g.ps.length,vars:=vs,bP:=g.bP,bz:=g.bz,is:=[] }
theorem aaU(b:Bl)(g:Sg)(vs:List T3)(pre:aj):iw (qV b g vs) pre=X4 b (.int .i64 g.ps.length) (bE 3 (vs.map T3.cells)) (.bool g.bP) (.int .i64 g.bz.b) (.int .i64 g.bz.r) (.int .i64 g.bz.d) .U pre:=by
 simp[iw,Bl.cells,sd,oo,qV,X4]
theorem Kd(i:In)(wl:Nat)(st:aj):ku wl i.row st=some (i.row,st):=by
 have h1:=kV i.args;have h2:=kW i.args;have h3:=kX i.args;generalize hv:jE i.args=v at *;have h4:me wl v st=some (v,st):=by
  unfold me;split;simp[AV.ax]at h1;rw[h1,h2,h3];rfl
 have fi:∀(n:Int) (s:aj),me wl (.int .i64 n) s=some (.int .i64 n,s):=λ_ _=>rfl;simp only[In.row,hv,ku,h4,fi]
theorem mR:∀(l:List In)(wl:Nat)(st:aj),kO wl (l.map In.row) st=some (l.map In.row,st)
 |[],_,_=>rfl|i::l,wl,st=>by
  simp only[List.map_cons,kO,Kd,mR l]
def AB(b:Bl)(ns:Nat)(g:Sg)(bd:Bd):Bl:={ b with dX:=b.dX++[cp ns g bd],aB:=b.aB++(gj ns bd).ss.map (λt=>⟨b.dX.length,t⟩) }
def Wx(c:Cd)(b:Bl)(pre:aj):aj:=X4 b (.int .i64 c.params) (bE 3 (c.vars.map T3.cells)) (.bool c.bP) (.int .i64 c.bz.b) (.int .i64 c.bz.r) (.int .i64 c.bz.d) (.dM 6 (c.is.map In.row)) (pre++[.rows c.is.length 6 []])
theorem iZ(sz:Nat)(l:List (List AV)):(bE sz l).view=aA sz l:=by
 unfold bE;cases l<;>simp[AV.view,aA,bD]
theorem nC(sz:Nat)(l:List (List AV)):(bE sz l).ax=true:=by
 unfold bE;cases l<;>simp[AV.ax]
theorem Ke(b:Bl)(pre:aj)(g:Sg)(bd:Bd)(t0 t1 t2 t3 t4 t5 t6:AV)(hL:LB bd.code)(hn:bd.vars.length+2*Sm.cR bd.code+10<1000000000)(hs:b.aB.length+2*Sm.cR bd.code+10<1000000000)(hc:b.dX.length<1000000) :
  (bh S).call 0 0 23 [pB,.agg g.row,.agg bd.row] (X4 b t0 t1 t2 t3 t4 t5 t6 pre)=some (.fm [],Wx (cp b.aB.length g bd) (AB b b.aB.length g bd) pre):=by
 have Ci:Fb (qV b g (bd.vars.map (·.ty))) (2*Sm.cR bd.code+3):=⟨by simp[qV];omega,by simp[qV];omega,by simp[qV];omega⟩;have PM:=fj bd.code (λs _=>oc s) (qV b g (bd.vars.map (·.ty))) pre hL (Ci.le (by omega));have vA:=Av hL bd.vars.length 0 b.aB.length;have hf2:=Ci.plus vA;have e0:(qV b g (bd.vars.map (·.ty))).vars.length=bd.vars.length:=by simp[qV]
 have e0i:(qV b g (bd.vars.map (·.ty))).is.length=0:=rfl;have e0s:(qV b g (bd.vars.map (·.ty))).aB.length=b.aB.length:=rfl;rw[e0,e0i,e0s]at PM;obtain⟨bo,hbo⟩:∃o,o=cB bd.vars.length 0 b.aB.length bd.code:=⟨_,rfl⟩;rw[<-hbo]at PM vA hf2;have hbO:gj b.aB.length bd=bo:=hbo.symm;obtain⟨b2,Hl⟩:∃b2,b2=(qV b g (bd.vars.map (·.ty))).plus bo:=⟨_,rfl⟩;rw[<-Hl]at PM hf2;have Ws:b2.vars.length=bd.vars.length+bo.vs.length:=by rw[Hl];simp[Bl.plus,qV]
 obtain⟨b3,yA⟩:∃b3:Bl,b3={ b2 with vars:=b2.vars++(if g.bP then [g.bz] else []),is:=b2.is++wQ g (bd.vars.length+bo.vs.length) }:=⟨_,rfl⟩;have c1:(cp b.aB.length g bd).vars=b3.vars:=by rw[yA,Hl];simp[cp,hbO,Bl.plus,qV]
 have c2:(cp b.aB.length g bd).is=b3.is:=by rw[yA,Hl];simp[cp,hbO,Bl.plus,qV]
 have c3:b3.aB=(AB b b.aB.length g bd).aB:=by rw[yA,Hl];simp[AB,hbO,Bl.plus,qV]
 have c4:b3.dX=b.dX:=by rw[yA,Hl];rfl
 have c5:b3.aS=b.aS/\b3.EO=b.EO/\b3.main=b.main/\b3.params=g.ps.length/\b3.bP=g.bP/\b3.bz=g.bz:=by rw[yA,Hl];exact⟨rfl,rfl,rfl,rfl,rfl,rfl⟩
 have jn:b3.is≠[]:=by
  intro q;rw[yA]at q;have q:b2.is++wQ g (bd.vars.length+bo.vs.length)=[]:=q;have:=(List.append_eq_nil_iff.1 q).2;unfold wQ at this;split at this<;>cases this
 have hex:=Ma b3 pre jn;have h5:=mR b3.is 0;have Fj:¬b3.is.map In.row=[]:=by simpa using jn
 have afb:b3.is.length-1+1=b3.is.length:=by have:=List.length_pos_iff.2 jn;omega
 have Ct:Cd.row (cp b.aB.length g bd)=[.int .i64 g.ps.length,aA 3 (b3.vars.map T3.cells),.bool g.bP,.int .i64 g.bz.b,.int .i64 g.bz.r,.int .i64 g.bz.d,.dM 6 (b3.is.map In.row)]:=by
  unfold Cd.row;rw[c1,c2];have:aA 6 (b3.is.map In.row)=.dM 6 (b3.is.map In.row):=by cases hh:b3.is.map In.row with|nil=>exact absurd hh Fj|cons a l=>rfl
  rw[this];rfl
 have tR:Wx (cp b.aB.length g bd) (AB b b.aB.length g bd) pre=.rows 0 12 [[b.aS,bE 3 (b.EO.map T3.cells),.iO 7 (b.dX.map Cd.row++[Cd.row (cp b.aB.length g bd)]),bE 4 (b3.aB.map Sd.row),.int .i64 b.main,
   .int .i64 g.ps.length,bE 3 (b3.vars.map T3.cells),.bool g.bP,.int .i64 g.bz.b,.int .i64 g.bz.r,.int .i64 g.bz.d,.dM 6 (b3.is.map In.row)]]::(pre++[.rows b3.is.length 6 []]):=by
  unfold Wx X4;rw[c1,c2,<-c3];have:bE 7 ((AB b b.aB.length g bd).dX.map Cd.row)=.iO 7 (b.dX.map Cd.row++[Cd.row (cp b.aB.length g bd)]):=by simp[AB,bE]
  rw[this];rfl
 rw[Ct]at tR;have rf:=λwl li st=>K9.LD wl li g.bz st;have p1:aD (br g.ps)=true:=aL;have p2:(br g.ps).view=br g.ps:=aJ;have p3:aM (br g.ps)=g.ps.map Vd.row:=aE;have v1:aD (br bd.vars)=true:=aL;have v2:(br bd.vars).view=br bd.vars:=aJ;have v3:aM (br bd.vars)=bd.vars.map Vd.row:=aE;have v4:bX 4 (br bd.vars)=true:=zL (by simp[bL,Vd.row]);have s1:aD (aT bd.code)=true:=bn;have s2:(aT bd.code).view=aT bd.code:=aO;rw[tR];refine ay (sf:=s23) rfl rfl rfl ?_;simp only[Sg.row,Bd.row];generalize br g.ps=PV at *;generalize br bd.vars=FV at *;generalize aT bd.code=SV at *;simp[s23,p1,p2,p3,v1,v2,v3,s1,eE.bg,AV.view,pB,X4,cut,ag,aQ,AV.ai,AV.ax];obtain⟨Lf,hLf⟩:∃Lf:Nat->List (List AV),Lf=λk=>(bd.vars.take k).map (λv=>[.int .i64 v.ty.b,.int .i64 v.ty.r,.int .i64 v.ty.d]):=⟨_,rfl⟩;have afd:∀k,k<=bd.vars.length->(Lf k).length=k:=λk hk=>by rw[hLf];simp;omega
 have hLS:∀k (h:k<bd.vars.length),Lf (k+1)=Lf k++[[.int .i64 bd.vars[k].ty.b,.int .i64 bd.vars[k].ty.r,.int .i64 bd.vars[k].ty.d]]:=λk h=>by
  rw[hLf];simp only;rw[List.take_succ_eq_append_getElem h,List.map_append];rfl
 have hOE:bE 3 ((bd.vars.map (·.ty)).map T3.cells)=bE 3 (Lf bd.vars.length):=by rw[hLf];simp only[List.take_length,List.map_map];rfl
 have hL0:bE 3 (Lf 0)=.U:=by rw[hLf];rfl
 clear hLf;rw[aaU,hOE,X4]at PM;refine bf Rj.eq_1 (λx:Nat×List AV=>⟨[(0,.val (.ptr 0 0 0 0)),(4,.fp 0 0),(5,.fp 1 0),(22,.val FV),(23,.val (.int .i64 bd.vars.length)),(24,.val (.int .i64 x.1))],
   [[.str g.nm,PV,.bool g.bP,.int .i64 g.bz.b,.int .i64 g.bz.r,.int .i64 g.bz.d],[FV,SV,.int .i64 bd.a],x.2],
   .rows 0 12 [[b.aS,bE 3 (b.EO.map T3.cells),bE 7 (b.dX.map Cd.row),bE 4 (b.aB.map Sd.row),.int .i64 b.main,.int .i64 g.ps.length,bE 3 (Lf x.1),.bool g.bP,.int .i64 g.bz.b,.int .i64 g.bz.r,.int .i64 g.bz.d,.U]]::pre⟩)
  (λx=>x.1<=bd.vars.length) (λx=>bd.vars.length-x.1) (0,[]) (by simp[hL0]) (by simp) ?_
 rintro⟨k,bx⟩ hk ih;simp only at hk ih;by_cases aX:k<bd.vars.length;have mI:=wk k (by omega);have hg:(bd.vars.map Vd.row)[k]?=some (Vd.row bd.vars[k]):=by simp[aX]
 have gy:k<(bd.vars.map Vd.row).length:=by simpa using aX
 have x9:(bd.vars.map Vd.row)[k]'gy=Vd.row bd.vars[k]:=by simp
 have dy:=λb=>ih (k+1,b) (by simp only;omega) (by simp only;omega);simp only at dy;have hl:=afd k hk;have ho:bE 3 (Lf (k+1))=.iO 3 (Lf k++[[.int .i64 bd.vars[k].ty.b,.int .i64 bd.vars[k].ty.r,.int .i64 bd.vars[k].ty.d]]):=by rw[hLS k aX];unfold bE;rw[if_neg (by simp)]
 rw[ho]at dy;have mE:(k+1)*24<=cT:=by unfold cT;omega
 have qe:24<=cT:=by decide
 simp only[Vd.row,T3.cells]at hg x9;by_cases k0:Lf k=[];rw[k0]at dy ⊢;have o1:bE 3 ([]:List (List AV))=.U:=rfl;simp only[List.nil_append]at dy;simp[aX,v4,v3,x9,o1,ag,AV.view,au,an,cut];simp[aW,dA,cu,bM,mI,ag,AV.view,cut,bL,qe,aQ,AV.ai,AV.ax,AV.di];exact dy _;have o1:bE 3 (Lf k)=.iO 3 (Lf k):=by unfold bE;rw[if_neg k0]
 rw[o1];simp[aX,v4,v3,x9,ag,AV.view,au,an,cut];simp[aW,dA,cu,bM,mI,hl,ag,AV.view,cut,bL,mE,aQ,AV.ai,AV.ax,AV.di];exact dy _;have eL:k=bd.vars.length:=by omega
 have afe:jE []=.U:=rfl;have am7:b2.is.length<1000000000-2:=by have:=hf2.2.1;omega
 have hz:b3.is.length-1+1=b3.is.length:=afb;have mE:(b.dX.length+1)*88<=cT:=by unfold cT;omega
 subst eL;have qe:88<=cT:=by decide
 have Ms:(b.dX.map Cd.row).length=b.dX.length:=by simp
 have q1:=iZ 3 (b3.vars.map T3.cells);have q2:=nC 3 (b3.vars.map T3.cells);have q3:(aA 3 (b3.vars.map T3.cells)).ax=true:=oR;have q4:(aA 3 (b3.vars.map T3.cells)).cy=true:=k7;have q5:(aA 3 (b3.vars.map T3.cells)).view=aA 3 (b3.vars.map T3.cells):=aJ;have am8:(.rows 0 12 [[b.aS,bE 3 (b.EO.map T3.cells),bE 7 (b.dX.map Cd.row),bE 4 (b3.aB.map Sd.row),.int .i64 b.main,.int .i64 g.ps.length,bE 3 (b3.vars.map T3.cells),.bool g.bP,.int .i64 g.bz.b,.int .i64 g.bz.r,.int .i64 g.bz.d,
   .mu (pre.length+1) (b3.is.length-1)]]::(pre++[.rows (b3.is.length-1) 6 (b3.is.map In.row)])).length=pre.length+2:=by simp
 have lG:∀b0 b1 b2:List AV,W S 0 0 [] (zO [] Mode.zi (.rows 0 12 [[b.aS,bE 3 (b.EO.map T3.cells),bE 7 (b.dX.map Cd.row),bE 4 (b.aB.map Sd.row),.int .i64 b.main,t0,t1,t2,t3,t4,t5,t6]]::pre)
   (.fm [],.rows 0 12 [[b.aS,bE 3 (b.EO.map T3.cells),.iO 7 (b.dX.map Cd.row++[[.int .i64 g.ps.length,aA 3 (b3.vars.map T3.cells),.bool g.bP,.int .i64 g.bz.b,.int .i64 g.bz.r,.int .i64 g.bz.d,.dM 6 (b3.is.map In.row)]]),bE 4 (b3.aB.map Sd.row),.int .i64 b.main,
    .int .i64 g.ps.length,bE 3 (b3.vars.map T3.cells),.bool g.bP,.int .i64 g.bz.b,.int .i64 g.bz.r,.int .i64 g.bz.d,.dM 6 (b3.is.map In.row)]]::(pre++[.rows b3.is.length 6 []])))
   [qy.code (bw.vg 0 11),qy.code (.region [.o 64 .move [.t 0],.o 65 .move [.t 0],.o 66 .nilCheck [.t 65],
    .o 67 (.fieldAddr 0) [.T 66],.o 68 (.fieldAddr 2) [.T 67],.o 69 (.load false 1 true) [.T 68],.o 70 .move [.t 0],.o 71 .nilCheck [.t 70],
    .o 72 (.fieldAddr 5) [.T 71],.o 73 (.load true 7 false) [.T 72],
    .o 74 (.lit 7 1 [.int .i64 0,.U,.bool false,.int .i64 0,.int .i64 0,.int .i64 0,.U] [0]) [.T 73],.o 75 (.append 7 88) [.T 69,.T 74],
    .o 76 .nilCheck [.t 64],.o 77 (.fieldAddr 0) [.T 76],.o 78 (.fieldAddr 2) [.T 77],.n (.store 1) [.T 78,.T 75]] (some [(9,5)]) [0,64,65,70])]
   Ex.normal ⟨[(0,.val (.ptr 0 0 0 0))],[b0,b1,b2],.rows 0 12 [[b.aS,bE 3 (b.EO.map T3.cells),bE 7 (b.dX.map Cd.row),bE 4 (b3.aB.map Sd.row),.int .i64 b.main,.int .i64 g.ps.length,bE 3 (b3.vars.map T3.cells),.bool g.bP,.int .i64 g.bz.b,.int .i64 g.bz.r,.int .i64 g.bz.d,
   .mu (pre.length+1) (b3.is.length-1)]]::(pre++[.rows (b3.is.length-1) 6 (b3.is.map In.row)])⟩:=by
  intro b0 b1 b2;rw[La];refine⟨0,0,0,0,.mu (pre.length+1) (b3.is.length-1),.dM 6 (b3.is.map In.row),.rows 0 12 [[b.aS,bE 3 (b.EO.map T3.cells),bE 7 (b.dX.map Cd.row),bE 4 (b3.aB.map Sd.row),.int .i64 b.main,.int .i64 g.ps.length,bE 3 (b3.vars.map T3.cells),.bool g.bP,.int .i64 g.bz.b,.int .i64 g.bz.r,.int .i64 g.bz.d,
   .mu (pre.length+1) (b3.is.length-1)]]::(pre++[.rows b3.is.length 6 []]),.rows 0 12 [[b.aS,bE 3 (b.EO.map T3.cells),bE 7 (b.dX.map Cd.row),bE 4 (b3.aB.map Sd.row),.int .i64 b.main,.int .i64 g.ps.length,bE 3 (b3.vars.map T3.cells),.bool g.bP,.int .i64 g.bz.b,.int .i64 g.bz.r,.int .i64 g.bz.d,
   .dM 6 (b3.is.map In.row)]]::(pre++[.rows b3.is.length 6 []]),rfl,by simp[dA,cut],?_,by simp[cu,aQ,ag],?_⟩
  simp[o9,jm,h5,hz,jn];generalize hCR:b.dX.map Cd.row=CR at *;generalize hMR:b3.is.map In.row=MR at *;generalize aA 3 (b3.vars.map T3.cells)=LV3 at *;generalize bE 3 (b3.vars.map T3.cells)=OV3 at *;generalize bE 4 (b3.aB.map Sd.row)=OS3 at *;generalize bE 3 (b.EO.map T3.cells)=OG at *;by_cases yJ:CR=[];have e0:bE 7 CR=.U:=by rw[yJ];rfl
  rw[e0,yJ];rw[mW];simp[dS,gQ,cW,bG,eE.bg,aW,dA,cu,bM,ag,AV.view,AV.cq,cut,bL,qe,aQ,AV.ai,AV.ax,AV.di,q1,q3,q4,q5];refine⟨_,_,⟨rfl,rfl⟩,?_⟩;simp[fq.fG,AV.fG,AV.pG,j8,dY,AV.cq,AV.view,q1];have e0:bE 7 CR=.iO 7 CR:=by unfold bE;rw[if_neg yJ]
  rw[e0];rw[mW];simp[dS,gQ,cW,bG,eE.bg,aW,dA,cu,bM,ag,AV.view,AV.cq,cut,bL,Ms,mE,aQ,AV.ai,AV.ax,AV.di,q1,q3,q4,q5];refine⟨_,_,⟨rfl,rfl⟩,?_⟩;simp[fq.fG,AV.fG,AV.pG,j8,dY,AV.cq,AV.view,q1]
 cases hh:g.bP with
 |false=>
  have ha:=ig b2 pre ⟨18,-1,0,0,0,[]⟩ (by omega);have e3:{ b2 with is:=b2.is++[⟨18,-1,0,0,0,[]⟩] }=b3:=by rw[yA,hh];simp[wQ,hh]
  rw[e3,hex]at ha;simp only[In.row,afe,pB,c4,c5.1,c5.2.1,c5.2.2.1,c5.2.2.2.1,c5.2.2.2.2.1,c5.2.2.2.2.2,hh]at ha;simp only[hh,pB]at PM;rw[hh]at lG;clear hex e3 tR Ct;generalize bE 3 (Lf bd.vars.length)=OV at *;generalize iw b2 pre=kP at *;simp[PM,ha,s2,ag,AV.view,cut];exact lG _ _ _
 |true=>
  have ht:=λli=>uS li b2 pre g.bz (by have:=hf2.1;omega);have PN:=ig { b2 with vars:=b2.vars++[g.bz] } pre ⟨if nK g.bz then 2 else 1,(b2.vars.length:Int),0,0,0,[]⟩ (by show b2.is.length<_;omega);have QG:=ig { b2 with vars:=b2.vars++[g.bz],is:=b2.is++[⟨if nK g.bz then 2 else 1,(b2.vars.length:Int),0,0,0,[]⟩] } pre ⟨18,(b2.vars.length:Int),0,0,0,[]⟩ (by show (b2.is++[_]).length<_;simp;omega);have e3:{ b2 with vars:=b2.vars++[g.bz],is:=b2.is++[⟨if nK g.bz then 2 else 1,(b2.vars.length:Int),0,0,0,[]⟩]++[⟨18,(b2.vars.length:Int),0,0,0,[]⟩] }=b3:=by rw[yA,hh,<-Ws];simp[wQ,hh]
  simp only[e3]at QG;rw[hex]at QG;simp only[In.row,afe,pB,c4,c5.1,c5.2.1,c5.2.2.1,c5.2.2.2.1,c5.2.2.2.2.1,c5.2.2.2.2.2,hh]at PN QG;simp only[hh,pB]at PM;simp only[pB,T3.cells]at ht;rw[hh]at lG;clear hex e3 tR Ct;generalize bE 3 (Lf bd.vars.length)=OV at *;generalize iw { b2 with vars:=b2.vars++[g.bz],is:=b2.is++[⟨if nK g.bz then 2 else 1,(b2.vars.length:Int),0,0,0,[]⟩] } pre=st4 at *;generalize iw { b2 with vars:=b2.vars++[g.bz] } pre=st3 at *;generalize iw b2 pre=kP at *;cases hr:nK g.bz with
  |false=>
   simp only[hr,Bool.false_eq_true,if_false]at PN;simp[PM,rf,hr,ht,PN,QG,s2,ag,AV.view,cut];exact lG _ _ _
  |true=>
   simp only[hr,if_true]at PN;simp[PM,rf,hr,ht,PN,QG,s2,ag,AV.view,cut];exact lG _ _ _
end pX
namespace pX
open Ax Go bu V7 jG ke tf
open K9 (mJ jS fW uQ)
open N7 (iY)
def eH(p:Pg):Bool:=decide (12<p.aS.length)||decide (8<p.globals.length)||decide (16<p.funcs.length)||p.aS.any (λr=>decide (8<r.cQ.length))||p.funcs.any (λf=>decide (6<f.params.length))
theorem Tw(wl af:Nat)(p:Pg)(st:aj)(h1:p.aS.length<1000000000)(h3:p.funcs.length<1000000000) :
  (bh S).call wl af 22 [.agg p.row] st=some (.bool (eH p),st):=by
 refine bN (sf:=s22) rfl rfl (by simp[Pg.row,AV.ai,AV.ax]) rfl rfl ?_;have r1:aD (aA 3 (p.aS.map Rc.row))=true:=aL;have r2:(aA 3 (p.aS.map Rc.row)).view=aA 3 (p.aS.map Rc.row):=aJ;have r3:aM (aA 3 (p.aS.map Rc.row))=p.aS.map Rc.row:=aE;have r4:bX 3 (aA 3 (p.aS.map Rc.row))=true:=zL (by simp[bL,Rc.row]);have f1:aD (aA 7 (p.funcs.map Fc.row))=true:=aL;have f2:(aA 7 (p.funcs.map Fc.row)).view=aA 7 (p.funcs.map Fc.row):=aJ;have f3:aM (aA 7 (p.funcs.map Fc.row))=p.funcs.map Fc.row:=aE;have f4:bX 7 (aA 7 (p.funcs.map Fc.row))=true:=zL (by simp[bL,Fc.row]);have g1:aD (aA 4 (p.globals.map PD.cells))=true:=aL;have g2:(aA 4 (p.globals.map PD.cells)).view=aA 4 (p.globals.map PD.cells):=aJ;have g3:aM (aA 4 (p.globals.map PD.cells))=p.globals.map PD.cells:=aE;simp only[Pg.row];generalize aA 3 (p.aS.map Rc.row)=PR at *;generalize aA 7 (p.funcs.map Fc.row)=PF at *;generalize aA 4 (p.globals.map PD.cells)=PG at *;by_cases q1:(12:Int)<(p.aS.length:Int);have:eH p=true:=by unfold eH;rw[decide_eq_true (by omega:12<p.aS.length)];rfl
 rw[this];simp[s22,r1,r2,r3,f1,g1,AV.view,q1];by_cases q2:(8:Int)<(p.globals.length:Int);have:eH p=true:=by unfold eH;rw[decide_eq_true (by omega:8<p.globals.length)];simp
 rw[this];simp[s22,r1,r2,r3,f1,g1,g2,g3,AV.view,q1,q2];by_cases q3:(16:Int)<(p.funcs.length:Int);have:eH p=true:=by unfold eH;rw[decide_eq_true (by omega:16<p.funcs.length)];simp
 rw[this];simp[s22,r1,r2,r3,f1,f2,f3,g1,g2,g3,AV.view,q1,q2,q3];have hG:eH p=(p.aS.any (λr=>decide (8<r.cQ.length))||p.funcs.any (λf=>decide (6<f.params.length))):=by
  unfold eH;rw[decide_eq_false (by omega:¬12<p.aS.length),decide_eq_false (by omega:¬8<p.globals.length),decide_eq_false (by omega:¬16<p.funcs.length)];rfl
 simp[s22,r1,r2,r3,f1,f2,f3,g1,g2,g3,AV.view,q1,q2,q3];refine bf Rh.eq_1 (λx:Nat×List AV=>⟨[(1,.fp 0 0),(24,.val PR),(25,.val (.int .i64 p.aS.length)),(26,.val (.int .i64 x.1))],[[PR,PG,PF],x.2,[]],[]⟩)
  (λx=>x.1<=p.aS.length/\eH p=((p.aS.drop x.1).any (λr=>decide (8<r.cQ.length))||p.funcs.any (λf=>decide (6<f.params.length)))) (λx=>p.aS.length-x.1) (0,[]) (by simp) ⟨by simp,by simpa using hG⟩ ?_
 rintro⟨k,bx⟩ ⟨hk,hp⟩ ih;simp only at hk hp ih;by_cases aX:k<p.aS.length;have mI:=wk k (by omega);rw[List.drop_eq_getElem_cons aX]at hp;have hg:(p.aS.map Rc.row)[k]?=some (Rc.row p.aS[k]):=by simp[aX]
 have gy:k<(p.aS.map Rc.row).length:=by simpa using aX
 have x9:(p.aS.map Rc.row)[k]'gy=Rc.row p.aS[k]:=by simp
 have x1:aD (aA 4 (p.aS[k].cQ.map PD.cells))=true:=aL;have x2:(aA 4 (p.aS[k].cQ.map PD.cells)).view=aA 4 (p.aS[k].cQ.map PD.cells):=aJ;have x3:aM (aA 4 (p.aS[k].cQ.map PD.cells))=p.aS[k].cQ.map PD.cells:=aE;simp only[Rc.row]at hg x9;by_cases c:(8:Int)<(p.aS[k].cQ.length:Int);have:eH p=true:=by rw[hp,List.any_cons,decide_eq_true (by omega:8<p.aS[k].cQ.length)];rfl
 rw[this];generalize aA 4 (p.aS[k].cQ.map PD.cells)=XV at *;simp[aX,r4,r3,x9,x1,x2,x3,c,ag,AV.view];rw[List.any_cons,decide_eq_false (by omega:¬8<p.aS[k].cQ.length),Bool.false_or]at hp;have dy:=λb=>ih (k+1,b) ⟨by simp only;omega,hp⟩ (by simp only;omega);simp only at dy;generalize aA 4 (p.aS[k].cQ.map PD.cells)=XV at *;simp[aX,mI,r4,r3,x9,x1,x2,x3,c,ag,AV.view];exact dy _;have eL:k=p.aS.length:=by omega
 rw[eL,List.drop_length]at hp;have hG:eH p=p.funcs.any (λf=>decide (6<f.params.length)):=by simpa using hp
 simp[aX,f1,f2,f3,AV.view];refine bf Ri.eq_1 (λx:Nat×List AV×List AV=>⟨[(36,.val PF),(37,.val (.int .i64 p.funcs.length)),(38,.val (.int .i64 x.1))],[[PR,PG,PF],x.2.1,x.2.2],[]⟩)
  (λx=>x.1<=p.funcs.length/\eH p=(p.funcs.drop x.1).any (λf=>decide (6<f.params.length))) (λx=>p.funcs.length-x.1) (0,bx,[]) (by simp) ⟨by simp,by simpa using hG⟩ ?_
 rintro⟨k,bx1,bx⟩ ⟨hk,hp⟩ ih;simp only at hk hp ih;by_cases aX:k<p.funcs.length;have mI:=wk k (by omega);rw[List.drop_eq_getElem_cons aX]at hp;have hg:(p.funcs.map Fc.row)[k]?=some (Fc.row p.funcs[k]):=by simp[aX]
 have gy:k<(p.funcs.map Fc.row).length:=by simpa using aX
 have x9:(p.funcs.map Fc.row)[k]'gy=Fc.row p.funcs[k]:=by simp
 have x1:aD (aA 4 (p.funcs[k].params.map PD.cells))=true:=aL;have x2:(aA 4 (p.funcs[k].params.map PD.cells)).view=aA 4 (p.funcs[k].params.map PD.cells):=aJ;have x3:aM (aA 4 (p.funcs[k].params.map PD.cells))=p.funcs[k].params.map PD.cells:=aE;have y1:aD (aT p.funcs[k].body)=true:=bn;have y2:(aT p.funcs[k].body).view=aT p.funcs[k].body:=aO;simp only[Fc.row]at hg x9;by_cases c:(6:Int)<(p.funcs[k].params.length:Int);have:eH p=true:=by rw[hp,List.any_cons,decide_eq_true (by omega:6<p.funcs[k].params.length)];rfl
 rw[this];generalize aA 4 (p.funcs[k].params.map PD.cells)=XV at *;generalize aT p.funcs[k].body=YV at *;simp[aX,f4,f3,x9,x1,x2,x3,y1,y2,c,ag,AV.view];rw[List.any_cons,decide_eq_false (by omega:¬6<p.funcs[k].params.length),Bool.false_or]at hp;have dy:=λa b=>ih (k+1,a,b) ⟨by simp only;omega,hp⟩ (by simp only;omega);simp only at dy;generalize aA 4 (p.funcs[k].params.map PD.cells)=XV at *;generalize aT p.funcs[k].body=YV at *;simp[aX,mI,f4,f3,x9,x1,x2,x3,y1,y2,c,ag,AV.view];exact dy _ _;have eL:k=p.funcs.length:=by omega
 rw[eL,List.drop_length]at hp;rw[hp];simp[aX]
end pX
namespace pX
open Ax Go bu V7 jG ke tf
open K9 (mJ jS fW uQ Z5)
open N7 U7
open S9 (u6 tS)
abbrev ZX:AV:=.agg [.U,.U,.U,.U,.int .i64 0]
def oq(H:Hd)(main:Int)(cs:List Cd)(ss:List Sd):List AV:=[aA 2 (H.bK.map dx),aA 3 (H.globals.map (λv=>v.ty.cells)),aA 7 (cs.map Cd.row),aA 4 (ss.map Sd.row),.int .i64 main]
def Pb(H:Hd)(main:Int)(r:Except Int (List Cd×List Sd)):AV:=match r with
 |.error a=>.fm [ZX,.agg [.int .i64 4,.int .i64 a]]|.ok (cs,ss)=>.fm [.agg (oq H main cs ss),.agg [.int .i64 0,.int .i64 0]]
def nD(p:Pg):AV:=match iS (iY p) with
 |some a=>.fm [ZX,.agg [.int .i64 3,.int .i64 a]]|none=>match qk (aG p) (aG p).sigs p.funcs with
  |.error a=>.fm [ZX,.agg [.int .i64 3,.int .i64 a]]|.ok bs=>match u6 p with
   |some a=>.fm [ZX,.agg [.int .i64 3,.int .i64 a]]|none=>if eH p then .fm [ZX,.agg [.int .i64 4,.int .i64 0]] else Pb (aG p) (fW p) (vr [] [] 0 (aG p).sigs bs)
theorem oZ(sz:Nat)(l:List (List AV)):aD (bE sz l)=true:=by unfold bE;split<;>rfl
theorem o5(sz:Nat)(l:List (List AV)):aM (bE sz l)=l:=by
 unfold bE;split;rename_i h;rw[h];rfl
 rfl
theorem Bn{p:Pg}(h:eH p=false):Few p:=by
 unfold eH at h;simp only[Bool.or_eq_false_iff,decide_eq_false_iff_not,List.any_eq_false,decide_eq_true_eq]at h;obtain⟨⟨⟨⟨h1,h2⟩,h3⟩,h4⟩,h5⟩:=h;exact⟨by omega,by omega,by omega,λx hx=>by have:=h4 x hx;omega,λx hx=>by have:=h5 x hx;omega⟩
theorem xP{cs:List Cd}{ss:List Sd}{all:Nat}{s:Sg}{sg:List Sg}{b:Bd}{bs:List Bd}:vr cs ss all (s::sg) (b::bs) =
  if 4000<(cp ss.length s b).vars.length\/2500<all+(cp ss.length s b).is.length\/60<ss.length+(gj ss.length b).ss.length then .error b.a
  else vr (cs++[cp ss.length s b]) (ss++(gj ss.length b).ss.map (λt=>⟨cs.length,t⟩)) (all+(cp ss.length s b).is.length) sg bs:=by
 (conv=>lhs;unfold vr)<;>rfl
theorem AD{cs:List Cd}{ss:List Sd}{all:Nat}{sg:List Sg}:vr cs ss all sg []=.ok (cs,ss):=by cases sg<;>rfl
theorem uT(ns:Nat)(s:Sg)(b:Bd)(hL:LB b.code):(cp ns s b).vars.length<=b.vars.length+2*Sm.cR b.code+1/\(cp ns s b).is.length<=2*Sm.cR b.code+2/\(gj ns b).ss.length<=2*Sm.cR b.code:=by
 obtain⟨h1,h2,h3⟩:=Av hL b.vars.length 0 ns;refine⟨?_,?_,h3⟩;show (b.vars.map (·.ty)++(cB b.vars.length 0 ns b.code).vs++(if s.bP then [s.bz] else [])).length<=_;cases s.bP<;>simp<;>omega;show ((cB b.vars.length 0 ns b.code).is++wQ s _).length<=_;unfold wQ;cases s.bP<;>simp<;>omega
theorem xH(wl af:Nat)(p:Pg)(st:aj)(hg:(iY p).ok)(pg:GD.sm (iY p))(dH:∀f∈p.funcs,f.params.length+Sm.cR f.body<1000000000)
  (pP:∀bs,qk (aG p) (aG p).sigs p.funcs=.ok bs->∀b∈bs,Sm.cR b.code<100000000/\b.vars.length<100000000) :
  (bh S).call wl af 6 [.agg p.row] st=some (nD p,st):=by
 have ec:=λwl af st=>K9.wP wl af p st hg pg dH;have es:=λwl af st=>S9.Wk wl af p st hg pg dH λbs h b hb=>by have:=pP bs h b hb;omega
 have Gf:p.funcs.length<1000000000:=by have:=pg.funcs;rw[mZ,List.length_map]at this;exact this
 have OW:p.aS.length<1000000000:=by have:=pg.aS;rw[og,List.length_map]at this;exact this
 have eg:=λwl af st=>Tw wl af p st OW Gf;unfold mJ at ec;have r1:aD (aA 3 (p.aS.map Rc.row))=true:=aL;have r2:(aA 3 (p.aS.map Rc.row)).view=aA 3 (p.aS.map Rc.row):=aJ;have f1:aD (aA 7 (p.funcs.map Fc.row))=true:=aL;have f2:(aA 7 (p.funcs.map Fc.row)).view=aA 7 (p.funcs.map Fc.row):=aJ;have g1:aD (aA 4 (p.globals.map PD.cells))=true:=aL;have g2:(aA 4 (p.globals.map PD.cells)).view=aA 4 (p.globals.map PD.cells):=aJ;have He:(nD p).ax=true:=by
  unfold nD Pb oq;repeat' split
  all_goals simp[AV.ax,AV.ai]
 refine bN (sf:=s6) rfl rfl (by simp[Pg.row,AV.ai,AV.ax]) rfl He ?_;unfold nD;simp only[Pg.row]at ec es eg ⊢;generalize aA 3 (p.aS.map Rc.row)=PR at *;generalize aA 7 (p.funcs.map Fc.row)=PF at *;generalize aA 4 (p.globals.map PD.cells)=PG at *;cases hF:iS (iY p) with
 |some a=>
  rw[hF]at ec;simp[s6,ec,r1,r2,f1,f2,g1,g2,ag,AV.view,au,an]
 |none=>
  rw[hF]at ec;simp only at ec ⊢;cases hR:qk (aG p) (aG p).sigs p.funcs with
  |error a=>
   rw[hR]at ec;simp only[uQ]at ec ⊢;simp[s6,ec,r1,r2,f1,f2,g1,g2,ag,AV.view,au,an]
  |ok bs=>
   rw[hR]at ec;simp only[uQ,jS,List.cons_append,List.nil_append]at ec ⊢;have t1:aD (aA 2 ((aG p).bK.map dx))=true:=aL;have t2:(aA 2 ((aG p).bK.map dx)).view=aA 2 ((aG p).bK.map dx):=aJ;have u1:aD (br (aG p).globals)=true:=aL;have u2:(br (aG p).globals).view=br (aG p).globals:=aJ;have u3:aM (br (aG p).globals)=(aG p).globals.map Vd.row:=aE;have u4:bX 4 (br (aG p).globals)=true:=zL (by simp[bL,Vd.row]);have v1:aD (aA 6 ((aG p).sigs.map Sg.row))=true:=aL;have v2:(aA 6 ((aG p).sigs.map Sg.row)).view=aA 6 ((aG p).sigs.map Sg.row):=aJ;have v3:aM (aA 6 ((aG p).sigs.map Sg.row))=(aG p).sigs.map Sg.row:=aE;have v4:bX 6 (aA 6 ((aG p).sigs.map Sg.row))=true:=zL (by simp[bL,Sg.row]);have w1:aD (aA 3 (bs.map Bd.row))=true:=aL;have w2:(aA 3 (bs.map Bd.row)).view=aA 3 (bs.map Bd.row):=aJ;have w3:aM (aA 3 (bs.map Bd.row))=bs.map Bd.row:=aE;have w4:bX 3 (aA 3 (bs.map Bd.row))=true:=zL (by simp[bL,Bd.row]);generalize hRV:aA 2 ((aG p).bK.map dx)=RV at *;generalize br (aG p).globals=GV at *;generalize aA 6 ((aG p).sigs.map Sg.row)=SV at *;generalize aA 3 (bs.map Bd.row)=BV at *;cases hS:u6 p with
   |some a=>
    rw[hS]at es;simp only[tS,S9.cE,S9.cX]at es;simp[s6,ec,es,r1,r2,f1,f2,g1,g2,t1,t2,u1,u2,v1,v2,w1,w2,ag,AV.view,au,an]
   |none=>
    rw[hS]at es;simp only[tS,S9.cE,S9.cX]at es;cases Wy:eH p with
    |true=>
     rw[Wy]at eg;simp[s6,ec,es,eg,r1,r2,f1,f2,g1,g2,t1,t2,u1,u2,v1,v2,w1,w2,ag,AV.view]
    |false=>
     rw[Wy]at eg;have wT:=NG hF (Bn Wy);simp[s6,ec,es,eg,r1,r2,f1,f2,g1,g2,t1,t2,u1,u2,u3,v1,v2,w1,w2,ag,AV.view,eE.bg];obtain⟨gl,Kr⟩:∃l,l=(aG p).globals.map (·.ty):=⟨_,rfl⟩;have hgn:(aG p).globals.length=gl.length:=(by rw[Kr];simp);have ajI:gl.length<1000000:=(by rw[<-hgn];have:=wT.ng;omega);have aaV:∀cs ss,Pb (aG p) (fW p) (.ok (cs,ss))=.fm [.agg [RV,aA 3 (gl.map T3.cells),aA 7 (cs.map Cd.row),aA 4 (ss.map Sd.row),.int .i64 (fW p)],.agg [.int .i64 0,.int .i64 0]]:=λcs ss=>by
      unfold Pb oq;rw[hRV,Kr,List.map_map];rfl
     have hGr:∀k (h:k<gl.length) (h2:k<((aG p).globals.map Vd.row).length),∃nm,((aG p).globals.map Vd.row)[k]=[.str nm,.int .i64 gl[k].b,.int .i64 gl[k].r,.int .i64 gl[k].d]:=λk h h2=>
      ⟨((aG p).globals[k]'(by omega)).nm,by simp[Kr,Vd.row]⟩
     have hGl:((aG p).globals.map Vd.row).length=gl.length:=(by simp[Kr]);have afg:RV.view=RV:=t2;have cC:(aG p).sigs.length=p.funcs.length:=(by simp[aG]);have NQ:bs.length=p.funcs.length:=S9.sE cC hR;have ajK:p.funcs.length<=16:=(Bn Wy).f;have hLB:=L6 wT.gd (by have:=wT.ng;omega) (λs hs v hv=>⟨((wT.ok.sigs s hs).2 v hv),wT.gd.ps s hs v hv⟩) hR;have Qt:=pP bs hR;have EU:∀k (h:k<bs.length) (h2:k<(aG p).sigs.length) cs ss n,vr cs ss n ((aG p).sigs.drop k) (bs.drop k)=if 4000<(cp ss.length (aG p).sigs[k] bs[k]).vars.length\/2500<n+(cp ss.length (aG p).sigs[k] bs[k]).is.length\/60<ss.length+(gj ss.length bs[k]).ss.length then .error bs[k].a
       else vr (cs++[cp ss.length (aG p).sigs[k] bs[k]]) (ss++(gj ss.length bs[k]).ss.map (λt=>⟨cs.length,t⟩)) (n+(cp ss.length (aG p).sigs[k] bs[k]).is.length) ((aG p).sigs.drop (k+1)) (bs.drop (k+1)):=λk h h2 cs ss n=>by
      rw[List.drop_eq_getElem_cons h,List.drop_eq_getElem_cons h2,xP]
     generalize aG p=H at *;generalize fW p=mn at *;generalize hgV:H.globals=Hg at *;refine bf XB.eq_1 (λx:Nat×List AV=>⟨[(2,.fp 1 0),(3,.fp 2 0),(4,.fp 3 0),(7,.val (.ptr 0 0 0 0)),(45,.val GV),(46,.val (.int .i64 Hg.length)),(47,.val (.int .i64 x.1))],
       [[PR,PG,PF],[.U,.U,.U,.U,.int .i64 0],[.int .i64 0,.int .i64 0],[RV,GV,SV,.int .i64 mn,BV],[.int .i64 0,.int .i64 0],[.int .i64 0,.int .i64 0],x.2,[]],
       [.rows 0 12 [[RV,bE 3 ((gl.take x.1).map T3.cells),.U,.U,.int .i64 mn,.int .i64 0,.U,.bool false,.int .i64 0,.int .i64 0,.int .i64 0,.U]]]⟩)
      (λx=>x.1<=gl.length) (λx=>gl.length-x.1) (0,[]) (by simp[bE]) (by simp) ?_
     rintro⟨k,bx⟩ hk ih;simp only at hk ih;by_cases aX:k<gl.length;have mI:=wk k (by omega);have qd:k<Hg.length:=(by omega);have gy:k<(Hg.map Vd.row).length:=(by simpa using qd);obtain⟨nm,x9⟩:=hGr k aX gy;have dy:=λb=>ih (k+1,b) (by simp only;omega) (by simp only;omega);simp only[List.take_succ_eq_append_getElem aX,List.map_append,List.map_cons,List.map_nil,T3.cells]at dy;have hl:((gl.take k).map T3.cells).length=k:=(by simp;omega);have ho:∀r,bE 3 ((gl.take k).map T3.cells++[r])=.iO 3 ((gl.take k).map T3.cells++[r]):=λr=>by unfold bE;rw[if_neg (by simp)]
     have mE:(k+1)*24<=cT:=(by unfold cT;omega);have qe:24<=cT:=(by decide);generalize (gl.take k).map T3.cells=Lk at *;rw[ho]at dy;by_cases k0:Lk=[];rw[k0]at dy ⊢;have o1:bE 3 ([]:List (List AV))=.U:=rfl;simp only[List.nil_append]at dy;simp[qd,u4,u3,x9,o1,ag,AV.view,au,an,cut];simp[aW,dA,cu,bM,mI,ag,AV.view,cut,bL,qe,aQ,AV.ai,AV.ax,AV.di];exact dy _;have o1:bE 3 Lk=.iO 3 Lk:=(by unfold bE;rw[if_neg k0]);rw[o1];simp[qd,u4,u3,x9,ag,AV.view,au,an,cut];simp[aW,dA,cu,bM,mI,hl,ag,AV.view,cut,bL,mE,aQ,AV.ai,AV.ax,AV.di];exact dy _;have eL:k=gl.length:=(by omega);subst eL;rw[List.take_length];simp[hgn,w1,w2,w3,AV.view];obtain⟨B,hB⟩:∃B:List Cd->List Sd->Bl,B=λcs ss=>⟨RV,gl,cs,ss,mn,0,[],false,T0,[]⟩:=⟨_,rfl⟩;have hX:∀cs ss t0 t1 t2 t3 t4 t5 t6 r,X4 (B cs ss) t0 t1 t2 t3 t4 t5 t6 r=.rows 0 12 [[RV,bE 3 (gl.map T3.cells),bE 7 (cs.map Cd.row),bE 4 (ss.map Sd.row),.int .i64 mn,t0,t1,t2,t3,t4,t5,t6]]::r:=λcs ss t0 t1 t2 t3 t4 t5 t6 r=>by rw[hB];rfl
     have hD:∀cs ss ns g bd,AB (B cs ss) ns g bd=B (cs++[cp ns g bd]) (ss++(gj ns bd).ss.map (λt=>⟨cs.length,t⟩)):=λcs ss ns g bd=>by rw[hB];rfl
     have JV:∀cs ss,(B cs ss).aB=ss/\(B cs ss).dX=cs:=λcs ss=>by rw[hB];exact⟨rfl,rfl⟩
     clear hB;have o7:bE 7 ([]:List (List AV))=.U:=rfl;have o4:bE 4 ([]:List (List AV))=.U:=rfl;refine bf XC.eq_1 (λx:Nat×List Cd×List Sd×Nat×(AV×AV×AV×AV×AV×AV×AV)×aj×List AV×List AV=>⟨[(2,.fp 1 0),(3,.fp 2 0),(4,.fp 3 0),(7,.val (.ptr 0 0 0 0)),(10,.val (.int .i64 x.2.2.2.1)),(66,.val BV),(67,.val (.int .i64 bs.length)),(68,.val (.int .i64 x.1))],
       [[PR,PG,PF],[.U,.U,.U,.U,.int .i64 0],[.int .i64 0,.int .i64 0],[RV,GV,SV,.int .i64 mn,BV],[.int .i64 0,.int .i64 0],[.int .i64 0,.int .i64 0],x.2.2.2.2.2.2.1,x.2.2.2.2.2.2.2],
       .rows 0 12 [[RV,bE 3 (gl.map T3.cells),bE 7 (x.2.1.map Cd.row),bE 4 (x.2.2.1.map Sd.row),.int .i64 mn,x.2.2.2.2.1.1,x.2.2.2.2.1.2.1,x.2.2.2.2.1.2.2.1,x.2.2.2.2.1.2.2.2.1,x.2.2.2.2.1.2.2.2.2.1,x.2.2.2.2.1.2.2.2.2.2.1,x.2.2.2.2.1.2.2.2.2.2.2]]::x.2.2.2.2.2.1⟩)
      (λx=>x.1<=bs.length/\x.2.1.length=x.1/\x.2.2.1.length<=60/\x.2.2.2.1<=2500/\vr x.2.1 x.2.2.1 x.2.2.2.1 (H.sigs.drop x.1) (bs.drop x.1)=vr [] [] 0 H.sigs bs) (λx=>bs.length-x.1)
      (0,[],[],0,(.int .i64 0,.U,.bool false,.int .i64 0,.int .i64 0,.int .i64 0,.U),[],bx,[]) (by simp[o7,o4]) ⟨by simp,rfl,by simp,by simp,rfl⟩ ?_
     rintro⟨k,cs,ss,n,⟨t0,y1,y2,y3,y4,y5,y6⟩,pre,bx6,bx7⟩ ⟨hk,jO,oz,T2,hp⟩ ih;simp only at hk jO oz T2 hp ih ⊢;by_cases aX:k<bs.length;have mI:=wk k (by omega);have FB:k<H.sigs.length:=(by omega);have hm:=List.getElem_mem aX;obtain⟨hcz,CC⟩:=Qt _ hm;have Wv:=hLB _ hm;have X3:k<(bs.map Bd.row).length:=(by simpa using aX);have Ny:(bs.map Bd.row)[k]'X3=Bd.row bs[k]:=(by simp);have Fj:k<(H.sigs.map Sg.row).length:=(by simpa using FB);have yz:(H.sigs.map Sg.row)[k]'Fj=Sg.row H.sigs[k]:=(by simp);obtain⟨q1,q2⟩:=JV cs ss;have ct:=Ke (B cs ss) pre H.sigs[k] bs[k] t0 y1 y2 y3 y4 y5 y6 Wv (by omega) (by rw[q1];omega) (by rw[q2];omega);rw[q1,hX,Wx,hD,hX]at ct;obtain⟨l1,l2,l3⟩:=uT ss.length H.sigs[k] bs[k] Wv;have UU:(cp ss.length H.sigs[k] bs[k]).params=H.sigs[k].ps.length:=rfl;rw[EU k aX FB]at hp;have HY:IntKind.i64.wrap ((n:Int)+((cp ss.length H.sigs[k] bs[k]).is.length:Int))=((n+(cp ss.length H.sigs[k] bs[k]).is.length:Nat):Int):=(by rw[ee]<;>omega);obtain⟨g1',g2'⟩:aD (br H.sigs[k].ps)=true/\(br H.sigs[k].ps).view=br H.sigs[k].ps:=⟨aL,aJ⟩;obtain⟨d1,d2⟩:aD (br bs[k].vars)=true/\(br bs[k].vars).view=br bs[k].vars:=⟨aL,aJ⟩;obtain⟨d3,d4⟩:aD (aT bs[k].code)=true/\(aT bs[k].code).view=aT bs[k].code:=⟨bn,aO⟩;have lv:aD (bE 3 ((cp ss.length H.sigs[k] bs[k]).vars.map T3.cells))=true:=oZ _ _;have lr:aM (bE 3 ((cp ss.length H.sigs[k] bs[k]).vars.map T3.cells))=(cp ss.length H.sigs[k] bs[k]).vars.map T3.cells:=o5 _ _;have sv:aD (bE 4 ((ss++(gj ss.length bs[k]).ss.map (λt=>(⟨cs.length,t⟩:Sd))).map Sd.row))=true:=oZ _ _;have sr:aM (bE 4 ((ss++(gj ss.length bs[k]).ss.map (λt=>(⟨cs.length,t⟩:Sd))).map Sd.row))=(ss++(gj ss.length bs[k]).ss.map (λt=>(⟨cs.length,t⟩:Sd))).map Sd.row:=o5 _ _;have sl:((ss++(gj ss.length bs[k]).ss.map (λt=>(⟨cs.length,t⟩:Sd))).map Sd.row).length=ss.length+(gj ss.length bs[k]).ss.length:=(by simp);have vl:((cp ss.length H.sigs[k] bs[k]).vars.map T3.cells).length=(cp ss.length H.sigs[k] bs[k]).vars.length:=(by simp);have il:((cp ss.length H.sigs[k] bs[k]).is.map In.row).length=(cp ss.length H.sigs[k] bs[k]).is.length:=(by simp);have ct:(bh S).call 0 0 23 [.ptr 0 0 0 0,.agg H.sigs[k].row,.agg bs[k].row] _=_:=ct;simp only[Sg.row,Bd.row]at ct Ny yz;have Kf:((4000:Int)<((cp ss.length H.sigs[k] bs[k]).vars.length:Int))=(4000<(cp ss.length H.sigs[k] bs[k]).vars.length):=propext ⟨λ_=>by omega,λ_=>by omega⟩;have Cu:((2500:Int)<((n+(cp ss.length H.sigs[k] bs[k]).is.length:Nat):Int))=(2500<n+(cp ss.length H.sigs[k] bs[k]).is.length):=propext ⟨λ_=>by omega,λ_=>by omega⟩;have GM:((60:Int)<((ss.length+(gj ss.length bs[k]).ss.length:Nat):Int))=(60<ss.length+(gj ss.length bs[k]).ss.length):=propext ⟨λ_=>by omega,λ_=>by omega⟩;obtain⟨n',Od⟩:∃n',n'=n+(cp ss.length H.sigs[k] bs[k]).is.length:=⟨_,rfl⟩;obtain⟨s',Cg⟩:∃s',s'=ss.length+(gj ss.length bs[k]).ss.length:=⟨_,rfl⟩;rw[<-Od,<-Cg]at hp;rw[<-Od]at HY Cu;rw[<-Cg]at sl GM;by_cases kk:4000<(cp ss.length H.sigs[k] bs[k]).vars.length\/2500<n'\/60<s';rw[if_pos kk]at hp;rw[<-hp];simp only[Pb];by_cases k1:4000<(cp ss.length H.sigs[k] bs[k]).vars.length;rw[eq_true k1]at Kf;clear Cu GM Od Cg ih l1 l2 l3 EU hp kk k1;generalize cp ss.length H.sigs[k] bs[k]=c at *;generalize ss++(gj ss.length bs[k]).ss.map (λt=>(⟨cs.length,t⟩:Sd))=Pc at *;generalize bE 3 (c.vars.map T3.cells)=OV at *;generalize bE 4 (Pc.map Sd.row)=OS at *;generalize bE 7 ((cs++[c]).map Cd.row)=OC at *;generalize bE 3 (gl.map T3.cells)=OG at *;generalize H.sigs[k]=sg at *;generalize bs[k]=bd at *;generalize br sg.ps=GP at *;generalize br bd.vars=BVs at *;generalize aT bd.code=BC at *;simp[aX,FB,HY,w4,w3,v4,v3,Ny,yz,g2',d1,d2,d3,d4,ct,lv,lr,Kf,vl,il,ag,AV.view,au,an,cut];by_cases k2:2500<n';rw[eq_false k1]at Kf;rw[eq_true k2]at Cu;clear GM Od Cg ih l1 l2 l3 EU hp kk k1 k2;generalize cp ss.length H.sigs[k] bs[k]=c at *;generalize ss++(gj ss.length bs[k]).ss.map (λt=>(⟨cs.length,t⟩:Sd))=Pc at *;generalize bE 3 (c.vars.map T3.cells)=OV at *;generalize bE 4 (Pc.map Sd.row)=OS at *;generalize bE 7 ((cs++[c]).map Cd.row)=OC at *;generalize bE 3 (gl.map T3.cells)=OG at *;generalize H.sigs[k]=sg at *;generalize bs[k]=bd at *;generalize br sg.ps=GP at *;generalize br bd.vars=BVs at *;generalize aT bd.code=BC at *;simp[aX,FB,HY,w4,w3,v4,v3,Ny,yz,g2',d1,d2,d3,d4,ct,lv,lr,Kf,Cu,vl,il,ag,AV.view,au,an,cut];have k3:60<s':=(by omega);rw[eq_false k1]at Kf;rw[eq_false k2]at Cu;rw[eq_true k3]at GM;clear Od Cg ih l1 l2 l3 EU hp kk k1 k2 k3;generalize cp ss.length H.sigs[k] bs[k]=c at *;generalize ss++(gj ss.length bs[k]).ss.map (λt=>(⟨cs.length,t⟩:Sd))=Pc at *;generalize bE 3 (c.vars.map T3.cells)=OV at *;generalize bE 4 (Pc.map Sd.row)=OS at *;generalize bE 7 ((cs++[c]).map Cd.row)=OC at *;generalize bE 3 (gl.map T3.cells)=OG at *;generalize H.sigs[k]=sg at *;generalize bs[k]=bd at *;generalize br sg.ps=GP at *;generalize br bd.vars=BVs at *;generalize aT bd.code=BC at *;simp[aX,FB,HY,w4,w3,v4,v3,Ny,yz,g2',d1,d2,d3,d4,ct,lv,lr,sv,sr,sl,Kf,Cu,GM,vl,il,ag,AV.view,au,an,cut];rw[if_neg kk]at hp;have k1:¬4000<(cp ss.length H.sigs[k] bs[k]).vars.length:=λh=>kk (.inl h);have k2:¬2500<n':=λh=>kk (.inr (.inl h));have k3:¬60<s':=λh=>kk (.inr (.inr h));rw[eq_false k1]at Kf;rw[eq_false k2]at Cu;rw[eq_false k3]at GM;have dy:=λa b c d e f g pre x6 x7=>ih (k+1,cs++[cp ss.length H.sigs[k] bs[k]],ss++(gj ss.length bs[k]).ss.map (λt=>(⟨cs.length,t⟩:Sd)),n',(a,b,c,d,e,f,g),pre,x6,x7)
      ⟨by simp only;omega,by simp[jO],by simp only[List.length_append,List.length_map];omega,by simp only;omega,hp⟩ (by simp only;omega)
     simp only at dy;clear Od Cg ih l1 l2 l3 EU hp kk k1 k2 k3;generalize cp ss.length H.sigs[k] bs[k]=c at *;generalize ss++(gj ss.length bs[k]).ss.map (λt=>(⟨cs.length,t⟩:Sd))=Pc at *;generalize bE 3 (c.vars.map T3.cells)=OV at *;generalize bE 4 (Pc.map Sd.row)=OS at *;generalize bE 7 ((cs++[c]).map Cd.row)=OC at *;generalize bE 3 (gl.map T3.cells)=OG at *;generalize H.sigs[k]=sg at *;generalize bs[k]=bd at *;generalize br sg.ps=GP at *;generalize br bd.vars=BVs at *;generalize aT bd.code=BC at *;simp[aX,FB,HY,w4,w3,v4,v3,Ny,yz,g2',d1,d2,d3,d4,ct,lv,lr,sv,sr,sl,mI,Kf,Cu,GM,vl,il,ag,AV.view,au,an,cut];exact dy _ _ _ _ _ _ _ _ _ _;have eL:k=bs.length:=(by omega);rw[eL,List.drop_length,AD]at hp;rw[<-hp,aaV,eL];have e1:=iZ 3 (gl.map T3.cells);have e2:=iZ 7 (cs.map Cd.row);have e3:=iZ 4 (ss.map Sd.row);have p1:(aA 3 (gl.map T3.cells)).ax=true:=oR;have p2:(aA 7 (cs.map Cd.row)).ax=true:=oR;have p3:(aA 4 (ss.map Sd.row)).ax=true:=oR;have n1:(aA 3 (gl.map T3.cells)).cy=true:=k7;have n2:(aA 7 (cs.map Cd.row)).cy=true:=k7;have n3:(aA 4 (ss.map Sd.row)).cy=true:=k7;have m1:(aA 3 (gl.map T3.cells)).view=aA 3 (gl.map T3.cells):=aJ;have m2:(aA 7 (cs.map Cd.row)).view=aA 7 (cs.map Cd.row):=aJ;have m3:(aA 4 (ss.map Sd.row)).view=aA 4 (ss.map Sd.row):=aJ;generalize aA 3 (gl.map T3.cells)=LG at *;generalize aA 7 (cs.map Cd.row)=LC at *;generalize aA 4 (ss.map Sd.row)=LS at *;generalize bE 3 (gl.map T3.cells)=OG at *;generalize bE 7 (cs.map Cd.row)=OC at *;generalize bE 4 (ss.map Sd.row)=OS at *;simp[e1,e2,e3,n1,n2,n3,t1,t2,ag,AV.view,cut,bM,AV.cq]
end pX
