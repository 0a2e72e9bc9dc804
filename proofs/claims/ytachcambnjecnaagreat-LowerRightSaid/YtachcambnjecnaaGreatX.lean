/-
  A function, lowered.
-/
import Derived.Test.YtachcambnjecnaaGreatW
import Derived.Test.YtachcambnjecnaaGreatC
import Derived.Test.YtachcambnjecnaaGreatS
import Derived.Test.YtachcambnjecnaaGreatF

set_option maxRecDepth 100000
set_option maxHeartbeats 4000000
namespace yb
open Ax Go aT V7 lP mV vC
def WB (b:Bl)(t0 t1 t2 t3 t4 t5 t6:AV)(r:an):an:=.rows 0 12 [[b.aQ,bV 3 (b.Lu.map T3.cells),bV 7 (b.aR.map Cd.row),bV 4 (b.sites.map Sd.row),.int .i64 b.main,t0,t1,t2,t3,t4,t5,t6]]::r
def IQ (b:Bl)(g:Sg)(vs:List T3):Bl:={ b with params:=g.ps.length,vars:=vs,has:=g.has,res:=g.res,is:=[] }
theorem ZA (b:Bl)(g:Sg)(vs:List T3)(pre:an):fV (IQ b g vs) pre=WB b (.int .i64 g.ps.length) (bV 3 (vs.map T3.cells)) (.bool g.has) (.int .i64 g.res.b) (.int .i64 g.res.r) (.int .i64 g.res.d) .U pre:=by
 simp[fV,Bl.cells,J4,xX,IQ,WB]
theorem Iq (i:In)(wl:Nat)(st:an):kA wl i.row st=some (i.row,st):=by
 have h1:=Cu i.args
 have h2:=Cv i.args
 have h3:=Cw i.args
 generalize hv:kR i.args=v at *
 have h4:p7 wl v st=some (v,st):=by
  unfold p7
  split
  ·simp[AV.au]at h1
  ·rw[h1,h2,h3];rfl
 have fi:∀(n:Int) (s:an),p7 wl (.int .i64 n) s=some (.int .i64 n,s):=λ_ _=>rfl
 simp only[In.row,hv,kA,h4,fi]
theorem vW:∀(l:List In)(wl:Nat)(st:an),kW wl (l.map In.row) st=some (l.map In.row,st)
 |[],_,_=>rfl
 |i::l,wl,st=>by
  simp only[List.map_cons,kW,Iq,vW l]
def Cx (b:Bl)(ns:Nat)(g:Sg)(bd:Bd):Bl:={ b with aR:=b.aR++[ct ns g bd],sites:=b.sites++(hY ns bd).ss.map (λt=>⟨b.aR.length,t⟩) }
def Vq (c:Cd)(b:Bl)(pre:an):an:=WB b (.int .i64 c.params) (bV 3 (c.vars.map T3.cells)) (.bool c.has) (.int .i64 c.res.b) (.int .i64 c.res.r) (.int .i64 c.res.d) (.cU 6 (c.is.map In.row)) (pre++[.rows c.is.length 6 []])
theorem va (sz:Nat)(l:List (List AV)):(bV sz l).view=aD sz l:=by
 unfold bV;cases l<;>simp[AV.view,aD,cp]
theorem Nh (sz:Nat)(l:List (List AV)):(bV sz l).au=true:=by
 unfold bV;cases l<;>simp[AV.au]
theorem Ir (b:Bl)(pre:an)(g:Sg)(bd:Bd)(t0 t1 t2 t3 t4 t5 t6:AV)(hL:LB bd.code)(hn:bd.vars.length+2*Sm.dV bd.code+10<1000000000)(hs:b.sites.length+2*Sm.dV bd.code+10<1000000000)(hc:b.aR.length<1000000) :
  (aU S).call 0 0 23 [pB,.agg g.row,.agg bd.row] (WB b t0 t1 t2 t3 t4 t5 t6 pre)=some (.fz [],Vq (ct b.sites.length g bd) (Cx b b.sites.length g bd) pre):=by
 have F4:Fb (IQ b g (bd.vars.map (·.ty))) (2*Sm.dV bd.code+3):=⟨by simp[IQ];omega,by simp[IQ];omega,by simp[IQ];omega⟩
 have Vr:=iO bd.code (λs _=>sJ s) (IQ b g (bd.vars.map (·.ty))) pre hL (F4.le (by omega))
 have F5:=Ik hL bd.vars.length 0 b.sites.length
 have hf2:=F4.plus F5
 have e0:(IQ b g (bd.vars.map (·.ty))).vars.length=bd.vars.length:=by simp[IQ]
 have e0i:(IQ b g (bd.vars.map (·.ty))).is.length=0:=rfl
 have e0s:(IQ b g (bd.vars.map (·.ty))).sites.length=b.sites.length:=rfl
 rw[e0,e0i,e0s]at Vr
 obtain⟨bo,hbo⟩:∃o,o=cB bd.vars.length 0 b.sites.length bd.code:=⟨_,rfl⟩
 rw[<-hbo]at Vr F5 hf2
 have hbO:hY b.sites.length bd=bo:=hbo.symm
 obtain⟨b2,NA⟩:∃b2,b2=(IQ b g (bd.vars.map (·.ty))).plus bo:=⟨_,rfl⟩
 rw[<-NA]at Vr hf2
 have hv2:b2.vars.length=bd.vars.length+bo.vs.length:=by rw[NA];simp[Bl.plus,IQ]
 obtain⟨b3,yJ⟩:∃b3:Bl,b3={ b2 with vars:=b2.vars++(if g.has then [g.res] else []),is:=b2.is++vD g (bd.vars.length+bo.vs.length) }:=⟨_,rfl⟩
 have c1:(ct b.sites.length g bd).vars=b3.vars:=by rw[yJ,NA];simp[ct,hbO,Bl.plus,IQ]
 have c2:(ct b.sites.length g bd).is=b3.is:=by rw[yJ,NA];simp[ct,hbO,Bl.plus,IQ]
 have c3:b3.sites=(Cx b b.sites.length g bd).sites:=by rw[yJ,NA];simp[Cx,hbO,Bl.plus,IQ]
 have c4:b3.aR=b.aR:=by rw[yJ,NA];rfl
 have c5:b3.aQ=b.aQ/\b3.Lu=b.Lu/\b3.main=b.main/\b3.params=g.ps.length/\b3.has=g.has/\b3.res=g.res:=by rw[yJ,NA];exact⟨rfl,rfl,rfl,rfl,rfl,rfl⟩
 have iQ:b3.is≠[]:=by
  intro q
  rw[yJ]at q
  have q:b2.is++vD g (bd.vars.length+bo.vs.length)=[]:=q
  have:=(List.append_eq_nil_iff.1 q).2
  unfold vD at this
  split at this<;>cases this
 have hex:=J5 b3 pre iQ
 have h5:=vW b3.is 0
 have I3:¬b3.is.map In.row=[]:=by simpa using iQ
 have adV:b3.is.length-1+1=b3.is.length:=by have:=List.length_pos_iff.2 iQ;omega
 have JU:Cd.row (ct b.sites.length g bd)=[.int .i64 g.ps.length,aD 3 (b3.vars.map T3.cells),.bool g.has,.int .i64 g.res.b,.int .i64 g.res.r,.int .i64 g.res.d,.cU 6 (b3.is.map In.row)]:=by
  unfold Cd.row
  rw[c1,c2]
  have:aD 6 (b3.is.map In.row)=.cU 6 (b3.is.map In.row):=by cases hh:b3.is.map In.row with|nil=>exact absurd hh I3|cons a l=>rfl
  rw[this];rfl
 have xU:Vq (ct b.sites.length g bd) (Cx b b.sites.length g bd) pre=.rows 0 12 [[b.aQ,bV 3 (b.Lu.map T3.cells),.own 7 (b.aR.map Cd.row++[Cd.row (ct b.sites.length g bd)]),bV 4 (b3.sites.map Sd.row),.int .i64 b.main,
   .int .i64 g.ps.length,bV 3 (b3.vars.map T3.cells),.bool g.has,.int .i64 g.res.b,.int .i64 g.res.r,.int .i64 g.res.d,.cU 6 (b3.is.map In.row)]]::(pre++[.rows b3.is.length 6 []]):=by
  unfold Vq WB
  rw[c1,c2,<-c3]
  have:bV 7 ((Cx b b.sites.length g bd).aR.map Cd.row)=.own 7 (b.aR.map Cd.row++[Cd.row (ct b.sites.length g bd)]):=by simp[Cx,bV]
  rw[this];rfl
 rw[JU]at xU
 have rf:=λwl li st=>K9.Fa wl li g.res st
 have p1:aG (bT g.ps)=true:=bq
 have p2:(bT g.ps).view=bT g.ps:=br
 have p3:aP (bT g.ps)=g.ps.map Vd.row:=aO
 have v1:aG (bT bd.vars)=true:=bq
 have v2:(bT bd.vars).view=bT bd.vars:=br
 have v3:aP (bT bd.vars)=bd.vars.map Vd.row:=aO
 have v4:cD 4 (bT bd.vars)=true:=zL (by simp[fits,Vd.row])
 have s1:aG (bz bd.code)=true:=bJ
 have s2:(bz bd.code).view=bz bd.code:=bM
 rw[xU]
 refine ay (sf:=s23) rfl rfl rfl ?_
 simp only[Sg.row,Bd.row]
 generalize bT g.ps=PV at *
 generalize bT bd.vars=FV at *
 generalize bz bd.code=SV at *
 simp[s23,p1,p2,p3,v1,v2,v3,s1,cL.aF,AV.view,pB,WB,cut,af,bp,AV.ai,AV.au]
 obtain⟨Lf,hLf⟩:∃Lf:Nat->List (List AV),Lf=λk=>(bd.vars.take k).map (λv=>[.int .i64 v.ty.b,.int .i64 v.ty.r,.int .i64 v.ty.d]):=⟨_,rfl⟩
 have adX:∀k,k<=bd.vars.length->(Lf k).length=k:=λk hk=>by rw[hLf];simp;omega
 have hLS:∀k (h:k<bd.vars.length),Lf (k+1)=Lf k++[[.int .i64 bd.vars[k].ty.b,.int .i64 bd.vars[k].ty.r,.int .i64 bd.vars[k].ty.d]]:=λk h=>by
  rw[hLf];simp only;rw[List.take_succ_eq_append_getElem h,List.map_append];rfl
 have hOE:bV 3 ((bd.vars.map (·.ty)).map T3.cells)=bV 3 (Lf bd.vars.length):=by rw[hLf];simp only[List.take_length,List.map_map];rfl
 have hL0:bV 3 (Lf 0)=.U:=by rw[hLf];rfl
 clear hLf
 rw[ZA,hOE,WB]at Vr
 refine bu PC.eq_1 (λx:Nat×List AV=>⟨[(0,.val (.ptr 0 0 0 0)),(4,.fp 0 0),(5,.fp 1 0),(22,.val FV),(23,.val (.int .i64 bd.vars.length)),(24,.val (.int .i64 x.1))],
   [[.str g.nm,PV,.bool g.has,.int .i64 g.res.b,.int .i64 g.res.r,.int .i64 g.res.d],[FV,SV,.int .i64 bd.a],x.2],
   .rows 0 12 [[b.aQ,bV 3 (b.Lu.map T3.cells),bV 7 (b.aR.map Cd.row),bV 4 (b.sites.map Sd.row),.int .i64 b.main,.int .i64 g.ps.length,bV 3 (Lf x.1),.bool g.has,.int .i64 g.res.b,.int .i64 g.res.r,.int .i64 g.res.d,.U]]::pre⟩)
  (λx=>x.1<=bd.vars.length) (λx=>bd.vars.length-x.1) (0,[]) (by simp[hL0]) (by simp) ?_
 rintro⟨k,bx⟩ hk ih
 simp only at hk ih
 by_cases aV:k<bd.vars.length
 ·have vA:IntKind.i64.wrap ((k:Int)+1)=((k+1:Nat):Int):=by rw[wrap64]<;>omega
  have hg:(bd.vars.map Vd.row)[k]?=some (Vd.row bd.vars[k]):=by simp[aV]
  have nX:k<(bd.vars.map Vd.row).length:=by simpa using aV
  have Fu:(bd.vars.map Vd.row)[k]'nX=Vd.row bd.vars[k]:=by simp
  have fD:=λb=>ih (k+1,b) (by simp only;omega) (by simp only;omega)
  simp only at fD
  have hl:=adX k hk
  have ho:bV 3 (Lf (k+1))=.own 3 (Lf k++[[.int .i64 bd.vars[k].ty.b,.int .i64 bd.vars[k].ty.r,.int .i64 bd.vars[k].ty.d]]):=by rw[hLS k aV];unfold bV;rw[if_neg (by simp)]
  rw[ho]at fD
  have mH:(k+1)*24<=room:=by unfold room;omega
  have Cy:24<=room:=by decide
  simp only[Vd.row,T3.cells]at hg Fu
  by_cases k0:Lf k=[]
  ·rw[k0]at fD ⊢
   have o1:bV 3 ([]:List (List AV))=.U:=rfl
   simp only[List.nil_append]at fD
   simp[aV,v4,v3,Fu,o1,af,AV.view,aA,az,cut]
   simp[aL,fN,dL,bZ,vA,af,AV.view,cut,fits,Cy,bp,AV.ai,AV.au,AV.ir]
   exact fD _
  ·have o1:bV 3 (Lf k)=.own 3 (Lf k):=by unfold bV;rw[if_neg k0]
   rw[o1]
   simp[aV,v4,v3,Fu,af,AV.view,aA,az,cut]
   simp[aL,fN,dL,bZ,vA,hl,af,AV.view,cut,fits,mH,bp,AV.ai,AV.au,AV.ir]
   exact fD _
 ·have de:k=bd.vars.length:=by omega
  have adY:kR []=.U:=rfl
  have alR:b2.is.length<1000000000-2:=by have:=hf2.2.1;omega
  have hz:b3.is.length-1+1=b3.is.length:=adV
  have mH:(b.aR.length+1)*88<=room:=by unfold room;omega
  subst de
  have Cy:88<=room:=by decide
  have SW:(b.aR.map Cd.row).length=b.aR.length:=by simp
  have q1:=va 3 (b3.vars.map T3.cells)
  have q2:=Nh 3 (b3.vars.map T3.cells)
  have q3:(aD 3 (b3.vars.map T3.cells)).au=true:=oQ
  have q4:(aD 3 (b3.vars.map T3.cells)).cw=true:=oP
  have q5:(aD 3 (b3.vars.map T3.cells)).view=aD 3 (b3.vars.map T3.cells):=br
  have alS:(.rows 0 12 [[b.aQ,bV 3 (b.Lu.map T3.cells),bV 7 (b.aR.map Cd.row),bV 4 (b3.sites.map Sd.row),.int .i64 b.main,.int .i64 g.ps.length,bV 3 (b3.vars.map T3.cells),.bool g.has,.int .i64 g.res.b,.int .i64 g.res.r,.int .i64 g.res.d,
    .mu (pre.length+1) (b3.is.length-1)]]::(pre++[.rows (b3.is.length-1) 6 (b3.is.map In.row)])).length=pre.length+2:=by simp
  have fin:∀b0 b1 b2:List AV,W S 0 0 [] (G6 [] Mode.CP (.rows 0 12 [[b.aQ,bV 3 (b.Lu.map T3.cells),bV 7 (b.aR.map Cd.row),bV 4 (b.sites.map Sd.row),.int .i64 b.main,t0,t1,t2,t3,t4,t5,t6]]::pre)
    (.fz [],.rows 0 12 [[b.aQ,bV 3 (b.Lu.map T3.cells),.own 7 (b.aR.map Cd.row++[[.int .i64 g.ps.length,aD 3 (b3.vars.map T3.cells),.bool g.has,.int .i64 g.res.b,.int .i64 g.res.r,.int .i64 g.res.d,.cU 6 (b3.is.map In.row)]]),bV 4 (b3.sites.map Sd.row),.int .i64 b.main,
     .int .i64 g.ps.length,bV 3 (b3.vars.map T3.cells),.bool g.has,.int .i64 g.res.b,.int .i64 g.res.r,.int .i64 g.res.d,.cU 6 (b3.is.map In.row)]]::(pre++[.rows b3.is.length 6 []])))
    [Bz.code (bG.vo 0 11),Bz.code (.region [.o 64 .move [.t 0],.o 65 .move [.t 0],.o 66 .nilCheck [.t 65],
     .o 67 (.fieldAddr 0) [.T 66],.o 68 (.fieldAddr 2) [.T 67],.o 69 (.load false 1 true) [.T 68],.o 70 .move [.t 0],.o 71 .nilCheck [.t 70],
     .o 72 (.fieldAddr 5) [.T 71],.o 73 (.load true 7 false) [.T 72],
     .o 74 (.lit 7 1 [.int .i64 0,.U,.bool false,.int .i64 0,.int .i64 0,.int .i64 0,.U] [0]) [.T 73],.o 75 (.append 7 88) [.T 69,.T 74],
     .o 76 .nilCheck [.t 64],.o 77 (.fieldAddr 0) [.T 76],.o 78 (.fieldAddr 2) [.T 77],.n (.store 1) [.T 78,.T 75]] (some [(9,5)]) [0,64,65,70])]
    Ex.normal ⟨[(0,.val (.ptr 0 0 0 0))],[b0,b1,b2],.rows 0 12 [[b.aQ,bV 3 (b.Lu.map T3.cells),bV 7 (b.aR.map Cd.row),bV 4 (b3.sites.map Sd.row),.int .i64 b.main,.int .i64 g.ps.length,bV 3 (b3.vars.map T3.cells),.bool g.has,.int .i64 g.res.b,.int .i64 g.res.r,.int .i64 g.res.d,
    .mu (pre.length+1) (b3.is.length-1)]]::(pre++[.rows (b3.is.length-1) 6 (b3.is.map In.row)])⟩:=by
   intro b0 b1 b2
   rw[Xx]
   refine⟨0,0,0,0,.mu (pre.length+1) (b3.is.length-1),.cU 6 (b3.is.map In.row),.rows 0 12 [[b.aQ,bV 3 (b.Lu.map T3.cells),bV 7 (b.aR.map Cd.row),bV 4 (b3.sites.map Sd.row),.int .i64 b.main,.int .i64 g.ps.length,bV 3 (b3.vars.map T3.cells),.bool g.has,.int .i64 g.res.b,.int .i64 g.res.r,.int .i64 g.res.d,
    .mu (pre.length+1) (b3.is.length-1)]]::(pre++[.rows b3.is.length 6 []]),.rows 0 12 [[b.aQ,bV 3 (b.Lu.map T3.cells),bV 7 (b.aR.map Cd.row),bV 4 (b3.sites.map Sd.row),.int .i64 b.main,.int .i64 g.ps.length,bV 3 (b3.vars.map T3.cells),.bool g.has,.int .i64 g.res.b,.int .i64 g.res.r,.int .i64 g.res.d,
    .cU 6 (b3.is.map In.row)]]::(pre++[.rows b3.is.length 6 []]),rfl,by simp[fN,cut],?_,by simp[dL,bp,af],?_⟩
   ·simp[om,jy,h5,hz,iQ]
   generalize hCR:b.aR.map Cd.row=CR at *
   generalize hMR:b3.is.map In.row=MR at *
   generalize aD 3 (b3.vars.map T3.cells)=LV3 at *
   generalize bV 3 (b3.vars.map T3.cells)=OV3 at *
   generalize bV 4 (b3.sites.map Sd.row)=OS3 at *
   generalize bV 3 (b.Lu.map T3.cells)=OG at *
   by_cases yh:CR=[]
   ·have e0:bV 7 CR=.U:=by rw[yh];rfl
    rw[e0,yh]
    rw[rV]
    simp[dD,gW,cV,aI,cL.aF,aL,fN,dL,bZ,af,AV.view,AV.cz,cut,fits,Cy,bp,AV.ai,AV.au,AV.ir,q1,q3,q4,q5]
    refine⟨_,_,⟨rfl,rfl⟩,?_⟩
    simp[dX.same,AV.same,AV.pX,yL,jw,AV.cz,AV.view,q1]
   ·have e0:bV 7 CR=.own 7 CR:=by unfold bV;rw[if_neg yh]
    rw[e0]
    rw[rV]
    simp[dD,gW,cV,aI,cL.aF,aL,fN,dL,bZ,af,AV.view,AV.cz,cut,fits,SW,mH,bp,AV.ai,AV.au,AV.ir,q1,q3,q4,q5]
    refine⟨_,_,⟨rfl,rfl⟩,?_⟩
    simp[dX.same,AV.same,AV.pX,yL,jw,AV.cz,AV.view,q1]
  cases hh:g.has with
  |false=>
   have ha:=n7 b2 pre ⟨18,-1,0,0,0,[]⟩ (by omega)
   have e3:{ b2 with is:=b2.is++[⟨18,-1,0,0,0,[]⟩] }=b3:=by rw[yJ,hh];simp[vD,hh]
   rw[e3,hex]at ha
   simp only[In.row,adY,pB,c4,c5.1,c5.2.1,c5.2.2.1,c5.2.2.2.1,c5.2.2.2.2.1,c5.2.2.2.2.2,hh]at ha
   simp only[hh,pB]at Vr
   rw[hh]at fin
   clear hex e3 xU JU
   generalize bV 3 (Lf bd.vars.length)=OV at *
   generalize fV b2 pre=lN at *
   simp[Vr,ha,s2,af,AV.view,cut]
   exact fin _ _ _
  |true=>
   have ht:=λli=>FJ li b2 pre g.res (by have:=hf2.1;omega)
   have ha1:=n7 { b2 with vars:=b2.vars++[g.res] } pre ⟨if kX g.res then 2 else 1,(b2.vars.length:Int),0,0,0,[]⟩ (by show b2.is.length<_;omega)
   have Xd:=n7 { b2 with vars:=b2.vars++[g.res],is:=b2.is++[⟨if kX g.res then 2 else 1,(b2.vars.length:Int),0,0,0,[]⟩] } pre ⟨18,(b2.vars.length:Int),0,0,0,[]⟩ (by show (b2.is++[_]).length<_;simp;omega)
   have e3:{ b2 with vars:=b2.vars++[g.res],is:=b2.is++[⟨if kX g.res then 2 else 1,(b2.vars.length:Int),0,0,0,[]⟩]++[⟨18,(b2.vars.length:Int),0,0,0,[]⟩] }=b3:=by rw[yJ,hh,<-hv2];simp[vD,hh]
   simp only[e3]at Xd
   rw[hex]at Xd
   simp only[In.row,adY,pB,c4,c5.1,c5.2.1,c5.2.2.1,c5.2.2.2.1,c5.2.2.2.2.1,c5.2.2.2.2.2,hh]at ha1 Xd
   simp only[hh,pB]at Vr
   simp only[pB,T3.cells]at ht
   rw[hh]at fin
   clear hex e3 xU JU
   generalize bV 3 (Lf bd.vars.length)=OV at *
   generalize fV { b2 with vars:=b2.vars++[g.res],is:=b2.is++[⟨if kX g.res then 2 else 1,(b2.vars.length:Int),0,0,0,[]⟩] } pre=st4 at *
   generalize fV { b2 with vars:=b2.vars++[g.res] } pre=st3 at *
   generalize fV b2 pre=lN at *
   cases hr:kX g.res with
   |false=>
    simp only[hr,Bool.false_eq_true,if_false]at ha1
    simp[Vr,rf,hr,ht,ha1,Xd,s2,af,AV.view,cut]
    exact fin _ _ _
   |true=>
    simp only[hr,if_true]at ha1
    simp[Vr,rf,hr,ht,ha1,Xd,s2,af,AV.view,cut]
    exact fin _ _ _
end yb
namespace yb
open Ax Go aT V7 lP mV vC
open K9 (sK mz fA zX)
open N7 (jZ)
def jn (p:Pg):Bool:=decide (12<p.aQ.length)||decide (8<p.globals.length)||decide (16<p.funcs.length)||p.aQ.any (λr=>decide (8<r.fields.length))||p.funcs.any (λf=>decide (6<f.params.length))
theorem RG (wl aa:Nat)(p:Pg)(st:an)(h1:p.aQ.length<1000000000)(h3:p.funcs.length<1000000000) :
  (aU S).call wl aa 22 [.agg p.row] st=some (.bool (jn p),st):=by
 refine bf (sf:=s22) rfl rfl (by simp[Pg.row,AV.ai,AV.au]) rfl rfl ?_
 have r1:aG (aD 3 (p.aQ.map Rc.row))=true:=bq
 have r2:(aD 3 (p.aQ.map Rc.row)).view=aD 3 (p.aQ.map Rc.row):=br
 have r3:aP (aD 3 (p.aQ.map Rc.row))=p.aQ.map Rc.row:=aO
 have r4:cD 3 (aD 3 (p.aQ.map Rc.row))=true:=zL (by simp[fits,Rc.row])
 have f1:aG (aD 7 (p.funcs.map Fc.row))=true:=bq
 have f2:(aD 7 (p.funcs.map Fc.row)).view=aD 7 (p.funcs.map Fc.row):=br
 have f3:aP (aD 7 (p.funcs.map Fc.row))=p.funcs.map Fc.row:=aO
 have f4:cD 7 (aD 7 (p.funcs.map Fc.row))=true:=zL (by simp[fits,Fc.row])
 have g1:aG (aD 4 (p.globals.map PD.cells))=true:=bq
 have g2:(aD 4 (p.globals.map PD.cells)).view=aD 4 (p.globals.map PD.cells):=br
 have g3:aP (aD 4 (p.globals.map PD.cells))=p.globals.map PD.cells:=aO
 simp only[Pg.row]
 generalize aD 3 (p.aQ.map Rc.row)=PR at *
 generalize aD 7 (p.funcs.map Fc.row)=PF at *
 generalize aD 4 (p.globals.map PD.cells)=PG at *
 by_cases q1:(12:Int)<(p.aQ.length:Int)
 ·have:jn p=true:=by unfold jn;rw[decide_eq_true (by omega:12<p.aQ.length)];rfl
  rw[this]
  simp[s22,r1,r2,r3,f1,g1,AV.view,q1]
 by_cases q2:(8:Int)<(p.globals.length:Int)
 ·have:jn p=true:=by unfold jn;rw[decide_eq_true (by omega:8<p.globals.length)];simp
  rw[this]
  simp[s22,r1,r2,r3,f1,g1,g2,g3,AV.view,q1,q2]
 by_cases q3:(16:Int)<(p.funcs.length:Int)
 ·have:jn p=true:=by unfold jn;rw[decide_eq_true (by omega:16<p.funcs.length)];simp
  rw[this]
  simp[s22,r1,r2,r3,f1,f2,f3,g1,g2,g3,AV.view,q1,q2,q3]
 have hG:jn p=(p.aQ.any (λr=>decide (8<r.fields.length))||p.funcs.any (λf=>decide (6<f.params.length))):=by
  unfold jn
  rw[decide_eq_false (by omega:¬12<p.aQ.length),decide_eq_false (by omega:¬8<p.globals.length),decide_eq_false (by omega:¬16<p.funcs.length)];rfl
 simp[s22,r1,r2,r3,f1,f2,f3,g1,g2,g3,AV.view,q1,q2,q3]
 refine bu Pz.eq_1 (λx:Nat×List AV=>⟨[(1,.fp 0 0),(24,.val PR),(25,.val (.int .i64 p.aQ.length)),(26,.val (.int .i64 x.1))],[[PR,PG,PF],x.2,[]],[]⟩)
  (λx=>x.1<=p.aQ.length/\jn p=((p.aQ.drop x.1).any (λr=>decide (8<r.fields.length))||p.funcs.any (λf=>decide (6<f.params.length)))) (λx=>p.aQ.length-x.1) (0,[]) (by simp) ⟨by simp,by simpa using hG⟩ ?_
 rintro⟨k,bx⟩ ⟨hk,hp⟩ ih
 simp only at hk hp ih
 by_cases aV:k<p.aQ.length
 ·have vA:IntKind.i64.wrap ((k:Int)+1)=((k+1:Nat):Int):=by rw[wrap64]<;>omega
  rw[List.drop_eq_getElem_cons aV]at hp
  have hg:(p.aQ.map Rc.row)[k]?=some (Rc.row p.aQ[k]):=by simp[aV]
  have nX:k<(p.aQ.map Rc.row).length:=by simpa using aV
  have Fu:(p.aQ.map Rc.row)[k]'nX=Rc.row p.aQ[k]:=by simp
  have x1:aG (aD 4 (p.aQ[k].fields.map PD.cells))=true:=bq
  have x2:(aD 4 (p.aQ[k].fields.map PD.cells)).view=aD 4 (p.aQ[k].fields.map PD.cells):=br
  have x3:aP (aD 4 (p.aQ[k].fields.map PD.cells))=p.aQ[k].fields.map PD.cells:=aO
  simp only[Rc.row]at hg Fu
  by_cases c:(8:Int)<(p.aQ[k].fields.length:Int)
  ·have:jn p=true:=by rw[hp,List.any_cons,decide_eq_true (by omega:8<p.aQ[k].fields.length)];rfl
   rw[this]
   generalize aD 4 (p.aQ[k].fields.map PD.cells)=XV at *
   simp[aV,r4,r3,Fu,x1,x2,x3,c,af,AV.view]
  ·rw[List.any_cons,decide_eq_false (by omega:¬8<p.aQ[k].fields.length),Bool.false_or]at hp
   have fD:=λb=>ih (k+1,b) ⟨by simp only;omega,hp⟩ (by simp only;omega)
   simp only at fD
   generalize aD 4 (p.aQ[k].fields.map PD.cells)=XV at *
   simp[aV,vA,r4,r3,Fu,x1,x2,x3,c,af,AV.view]
   exact fD _
 ·have de:k=p.aQ.length:=by omega
  rw[de,List.drop_length]at hp
  have hG:jn p=p.funcs.any (λf=>decide (6<f.params.length)):=by simpa using hp
  simp[aV,f1,f2,f3,AV.view]
  refine bu PA.eq_1 (λx:Nat×List AV×List AV=>⟨[(36,.val PF),(37,.val (.int .i64 p.funcs.length)),(38,.val (.int .i64 x.1))],[[PR,PG,PF],x.2.1,x.2.2],[]⟩)
   (λx=>x.1<=p.funcs.length/\jn p=(p.funcs.drop x.1).any (λf=>decide (6<f.params.length))) (λx=>p.funcs.length-x.1) (0,bx,[]) (by simp) ⟨by simp,by simpa using hG⟩ ?_
  rintro⟨k,bx1,bx⟩ ⟨hk,hp⟩ ih
  simp only at hk hp ih
  by_cases aV:k<p.funcs.length
  ·have vA:IntKind.i64.wrap ((k:Int)+1)=((k+1:Nat):Int):=by rw[wrap64]<;>omega
   rw[List.drop_eq_getElem_cons aV]at hp
   have hg:(p.funcs.map Fc.row)[k]?=some (Fc.row p.funcs[k]):=by simp[aV]
   have nX:k<(p.funcs.map Fc.row).length:=by simpa using aV
   have Fu:(p.funcs.map Fc.row)[k]'nX=Fc.row p.funcs[k]:=by simp
   have x1:aG (aD 4 (p.funcs[k].params.map PD.cells))=true:=bq
   have x2:(aD 4 (p.funcs[k].params.map PD.cells)).view=aD 4 (p.funcs[k].params.map PD.cells):=br
   have x3:aP (aD 4 (p.funcs[k].params.map PD.cells))=p.funcs[k].params.map PD.cells:=aO
   have y1:aG (bz p.funcs[k].body)=true:=bJ
   have y2:(bz p.funcs[k].body).view=bz p.funcs[k].body:=bM
   simp only[Fc.row]at hg Fu
   by_cases c:(6:Int)<(p.funcs[k].params.length:Int)
   ·have:jn p=true:=by rw[hp,List.any_cons,decide_eq_true (by omega:6<p.funcs[k].params.length)];rfl
    rw[this]
    generalize aD 4 (p.funcs[k].params.map PD.cells)=XV at *
    generalize bz p.funcs[k].body=YV at *
    simp[aV,f4,f3,Fu,x1,x2,x3,y1,y2,c,af,AV.view]
   ·rw[List.any_cons,decide_eq_false (by omega:¬6<p.funcs[k].params.length),Bool.false_or]at hp
    have fD:=λa b=>ih (k+1,a,b) ⟨by simp only;omega,hp⟩ (by simp only;omega)
    simp only at fD
    generalize aD 4 (p.funcs[k].params.map PD.cells)=XV at *
    generalize bz p.funcs[k].body=YV at *
    simp[aV,vA,f4,f3,Fu,x1,x2,x3,y1,y2,c,af,AV.view]
    exact fD _ _
  ·have de:k=p.funcs.length:=by omega
   rw[de,List.drop_length]at hp
   rw[hp]
   simp[aV]
end yb
namespace yb
open Ax Go aT V7 lP mV vC
open K9 (sK mz fA zX Z5)
open N7 U7
open S9 (Cn Dd)
abbrev ZX:AV:=.agg [.U,.U,.U,.U,.int .i64 0]
def vg (H:Hd)(main:Int)(cs:List Cd)(ss:List Sd):List AV:=[aD 2 (H.bQ.map iT),aD 3 (H.globals.map (λv=>v.ty.cells)),aD 7 (cs.map Cd.row),aD 4 (ss.map Sd.row),.int .i64 main]
def ZB (H:Hd)(main:Int)(r:Except Int (List Cd×List Sd)):AV:=match r with
 |.error a=>.fz [ZX,.agg [.int .i64 4,.int .i64 a]]
 |.ok (cs,ss)=>.fz [.agg (vg H main cs ss),.agg [.int .i64 0,.int .i64 0]]
def qq (p:Pg):AV:=match kj (jZ p) with
 |some a=>.fz [ZX,.agg [.int .i64 3,.int .i64 a]]
 |none=>match qk (aS p) (aS p).sigs p.funcs with
  |.error a=>.fz [ZX,.agg [.int .i64 3,.int .i64 a]]
  |.ok bs=>match Cn p with
   |some a=>.fz [ZX,.agg [.int .i64 3,.int .i64 a]]
   |none=>if jn p then .fz [ZX,.agg [.int .i64 4,.int .i64 0]] else ZB (aS p) (fA p) (wL [] [] 0 (aS p).sigs bs)
theorem D9 (sz:Nat)(l:List (List AV)):aG (bV sz l)=true:=by unfold bV;split<;>rfl
theorem Cz (sz:Nat)(l:List (List AV)):aP (bV sz l)=l:=by
 unfold bV
 split
 ·rename_i h;rw[h];rfl
 ·rfl
theorem J6 {p:Pg}(h:jn p=false):Few p:=by
 unfold jn at h
 simp only[Bool.or_eq_false_iff,decide_eq_false_iff_not,List.any_eq_false,decide_eq_true_eq]at h
 obtain⟨⟨⟨⟨h1,h2⟩,h3⟩,h4⟩,h5⟩:=h
 exact⟨by omega,by omega,by omega,λx hx=>by have:=h4 x hx;omega,λx hx=>by have:=h5 x hx;omega⟩
theorem Ni {cs:List Cd}{ss:List Sd}{all:Nat}{s:Sg}{sg:List Sg}{b:Bd}{bs:List Bd}:wL cs ss all (s::sg) (b::bs) =
  if 4000<(ct ss.length s b).vars.length\/2500<all+(ct ss.length s b).is.length\/60<ss.length+(hY ss.length b).ss.length then .error b.a
  else wL (cs++[ct ss.length s b]) (ss++(hY ss.length b).ss.map (λt=>⟨cs.length,t⟩)) (all+(ct ss.length s b).is.length) sg bs:=by
 (conv=>lhs;unfold wL)<;>rfl
theorem RH {cs:List Cd}{ss:List Sd}{all:Nat}{sg:List Sg}:wL cs ss all sg []=.ok (cs,ss):=by cases sg<;>rfl
theorem J7 (ns:Nat)(s:Sg)(b:Bd)(hL:LB b.code):(ct ns s b).vars.length<=b.vars.length+2*Sm.dV b.code+1/\(ct ns s b).is.length<=2*Sm.dV b.code+2/\(hY ns b).ss.length<=2*Sm.dV b.code:=by
 obtain⟨h1,h2,h3⟩:=Ik hL b.vars.length 0 ns
 refine⟨?_,?_,h3⟩
 ·show (b.vars.map (·.ty)++(cB b.vars.length 0 ns b.code).vs++(if s.has then [s.res] else [])).length<=_
  cases s.has<;>simp<;>omega
 ·show ((cB b.vars.length 0 ns b.code).is++vD s _).length<=_
  unfold vD
  cases s.has<;>simp<;>omega
theorem Fi (wl aa:Nat)(p:Pg)(st:an)(hg:(jZ p).ok)(nU:GD.sm (jZ p))(dZ:∀f∈p.funcs,f.params.length+Sm.dV f.body<1000000000)
  (Bx:∀bs,qk (aS p) (aS p).sigs p.funcs=.ok bs->∀b∈bs,Sm.dV b.code<100000000/\b.vars.length<100000000) :
  (aU S).call wl aa 6 [.agg p.row] st=some (qq p,st):=by
 have ec:=λwl aa st=>K9.Ie wl aa p st hg nU dZ
 have es:=λwl aa st=>S9.Vb wl aa p st hg nU dZ λbs h b hb=>by have:=Bx bs h b hb;omega
 have Mk:p.funcs.length<1000000000:=by have:=nU.funcs;rw[oH,List.length_map]at this;exact this
 have hrn:p.aQ.length<1000000000:=by have:=nU.aQ;rw[qo,List.length_map]at this;exact this
 have eg:=λwl aa st=>RG wl aa p st hrn Mk
 unfold sK at ec
 have r1:aG (aD 3 (p.aQ.map Rc.row))=true:=bq
 have r2:(aD 3 (p.aQ.map Rc.row)).view=aD 3 (p.aQ.map Rc.row):=br
 have f1:aG (aD 7 (p.funcs.map Fc.row))=true:=bq
 have f2:(aD 7 (p.funcs.map Fc.row)).view=aD 7 (p.funcs.map Fc.row):=br
 have g1:aG (aD 4 (p.globals.map PD.cells))=true:=bq
 have g2:(aD 4 (p.globals.map PD.cells)).view=aD 4 (p.globals.map PD.cells):=br
 have Gq:(qq p).au=true:=by
  unfold qq ZB vg
  repeat' split
  all_goals simp[AV.au,AV.ai]
 refine bf (sf:=s6) rfl rfl (by simp[Pg.row,AV.ai,AV.au]) rfl Gq ?_
 unfold qq
 simp only[Pg.row]at ec es eg ⊢
 generalize aD 3 (p.aQ.map Rc.row)=PR at *
 generalize aD 7 (p.funcs.map Fc.row)=PF at *
 generalize aD 4 (p.globals.map PD.cells)=PG at *
 cases hF:kj (jZ p) with
 |some a=>
  rw[hF]at ec
  simp[s6,ec,r1,r2,f1,f2,g1,g2,af,AV.view,aA,az]
 |none=>
  rw[hF]at ec
  simp only at ec ⊢
  cases hR:qk (aS p) (aS p).sigs p.funcs with
  |error a=>
   rw[hR]at ec
   simp only[zX]at ec ⊢
   simp[s6,ec,r1,r2,f1,f2,g1,g2,af,AV.view,aA,az]
  |ok bs=>
   rw[hR]at ec
   simp only[zX,mz,List.cons_append,List.nil_append]at ec ⊢
   have t1:aG (aD 2 ((aS p).bQ.map iT))=true:=bq
   have t2:(aD 2 ((aS p).bQ.map iT)).view=aD 2 ((aS p).bQ.map iT):=br
   have u1:aG (bT (aS p).globals)=true:=bq
   have u2:(bT (aS p).globals).view=bT (aS p).globals:=br
   have u3:aP (bT (aS p).globals)=(aS p).globals.map Vd.row:=aO
   have u4:cD 4 (bT (aS p).globals)=true:=zL (by simp[fits,Vd.row])
   have v1:aG (aD 6 ((aS p).sigs.map Sg.row))=true:=bq
   have v2:(aD 6 ((aS p).sigs.map Sg.row)).view=aD 6 ((aS p).sigs.map Sg.row):=br
   have v3:aP (aD 6 ((aS p).sigs.map Sg.row))=(aS p).sigs.map Sg.row:=aO
   have v4:cD 6 (aD 6 ((aS p).sigs.map Sg.row))=true:=zL (by simp[fits,Sg.row])
   have w1:aG (aD 3 (bs.map Bd.row))=true:=bq
   have w2:(aD 3 (bs.map Bd.row)).view=aD 3 (bs.map Bd.row):=br
   have w3:aP (aD 3 (bs.map Bd.row))=bs.map Bd.row:=aO
   have w4:cD 3 (aD 3 (bs.map Bd.row))=true:=zL (by simp[fits,Bd.row])
   generalize hRV:aD 2 ((aS p).bQ.map iT)=RV at *
   generalize bT (aS p).globals=GV at *
   generalize aD 6 ((aS p).sigs.map Sg.row)=SV at *
   generalize aD 3 (bs.map Bd.row)=BV at *
   cases hS:Cn p with
   |some a=>
    rw[hS]at es
    simp only[Dd,S9.cE,S9.cX]at es
    simp[s6,ec,es,r1,r2,f1,f2,g1,g2,t1,t2,u1,u2,v1,v2,w1,w2,af,AV.view,aA,az]
   |none=>
    rw[hS]at es
    simp only[Dd,S9.cE,S9.cX]at es
    cases hgr:jn p with
    |true=>
     rw[hgr]at eg
     simp[s6,ec,es,eg,r1,r2,f1,f2,g1,g2,t1,t2,u1,u2,v1,v2,w1,w2,af,AV.view]
    |false=>
     rw[hgr]at eg
     have sZ:=Lt hF (J6 hgr)
     simp[s6,ec,es,eg,r1,r2,f1,f2,g1,g2,t1,t2,u1,u2,u3,v1,v2,w1,w2,af,AV.view,cL.aF]
     obtain⟨gl,A4⟩:∃l,l=(aS p).globals.map (·.ty):=⟨_,rfl⟩
     have hgn:(aS p).globals.length=gl.length:=by rw[A4];simp
     have alU:gl.length<1000000:=by rw[<-hgn];have:=sZ.ng;omega
     have aiD:∀cs ss,ZB (aS p) (fA p) (.ok (cs,ss))=.fz [.agg [RV,aD 3 (gl.map T3.cells),aD 7 (cs.map Cd.row),aD 4 (ss.map Sd.row),.int .i64 (fA p)],.agg [.int .i64 0,.int .i64 0]]:=λcs ss=>by
      unfold ZB vg
      rw[hRV,A4,List.map_map];rfl
     have hGr:∀k (h:k<gl.length) (h2:k<((aS p).globals.map Vd.row).length),∃nm,((aS p).globals.map Vd.row)[k]=[.str nm,.int .i64 gl[k].b,.int .i64 gl[k].r,.int .i64 gl[k].d]:=λk h h2=>
      ⟨((aS p).globals[k]'(by omega)).nm,by simp[A4,Vd.row]⟩
     have Vs:((aS p).globals.map Vd.row).length=gl.length:=by simp[A4]
     have alW:RV.view=RV:=t2
     have dM:(aS p).sigs.length=p.funcs.length:=by simp[aS]
     have SI:bs.length=p.funcs.length:=S9.xL dM hR
     have alX:p.funcs.length<=16:=(J6 hgr).f
     have hLB:=Ry sZ.gd (by have:=sZ.ng;omega) (λs hs v hv=>⟨((sZ.ok.sigs s hs).2 v hv),sZ.gd.ps s hs v hv⟩) hR
     have W6:=Bx bs hR
     have Is:∀k (h:k<bs.length) (h2:k<(aS p).sigs.length) cs ss n,wL cs ss n ((aS p).sigs.drop k) (bs.drop k)=if 4000<(ct ss.length (aS p).sigs[k] bs[k]).vars.length\/2500<n+(ct ss.length (aS p).sigs[k] bs[k]).is.length\/60<ss.length+(hY ss.length bs[k]).ss.length then .error bs[k].a
       else wL (cs++[ct ss.length (aS p).sigs[k] bs[k]]) (ss++(hY ss.length bs[k]).ss.map (λt=>⟨cs.length,t⟩)) (n+(ct ss.length (aS p).sigs[k] bs[k]).is.length) ((aS p).sigs.drop (k+1)) (bs.drop (k+1)):=λk h h2 cs ss n=>by
      rw[List.drop_eq_getElem_cons h,List.drop_eq_getElem_cons h2,Ni]
     generalize aS p=H at *
     generalize fA p=mn at *
     generalize hgV:H.globals=Hg at *
     refine bu Wc.eq_1 (λx:Nat×List AV=>⟨[(2,.fp 1 0),(3,.fp 2 0),(4,.fp 3 0),(7,.val (.ptr 0 0 0 0)),(45,.val GV),(46,.val (.int .i64 Hg.length)),(47,.val (.int .i64 x.1))],
       [[PR,PG,PF],[.U,.U,.U,.U,.int .i64 0],[.int .i64 0,.int .i64 0],[RV,GV,SV,.int .i64 mn,BV],[.int .i64 0,.int .i64 0],[.int .i64 0,.int .i64 0],x.2,[]],
       [.rows 0 12 [[RV,bV 3 ((gl.take x.1).map T3.cells),.U,.U,.int .i64 mn,.int .i64 0,.U,.bool false,.int .i64 0,.int .i64 0,.int .i64 0,.U]]]⟩)
      (λx=>x.1<=gl.length) (λx=>gl.length-x.1) (0,[]) (by simp[bV]) (by simp) ?_
     rintro⟨k,bx⟩ hk ih
     simp only at hk ih
     by_cases aV:k<gl.length
     ·have vA:IntKind.i64.wrap ((k:Int)+1)=((k+1:Nat):Int):=by rw[wrap64]<;>omega
      have pV:k<Hg.length:=by omega
      have nX:k<(Hg.map Vd.row).length:=by simpa using pV
      obtain⟨nm,Fu⟩:=hGr k aV nX
      have fD:=λb=>ih (k+1,b) (by simp only;omega) (by simp only;omega)
      simp only[List.take_succ_eq_append_getElem aV,List.map_append,List.map_cons,List.map_nil,T3.cells]at fD
      have hl:((gl.take k).map T3.cells).length=k:=by simp;omega
      have ho:∀r,bV 3 ((gl.take k).map T3.cells++[r])=.own 3 ((gl.take k).map T3.cells++[r]):=λr=>by unfold bV;rw[if_neg (by simp)]
      have mH:(k+1)*24<=room:=by unfold room;omega
      have Cy:24<=room:=by decide
      generalize (gl.take k).map T3.cells=Lk at *
      rw[ho]at fD
      by_cases k0:Lk=[]
      ·rw[k0]at fD ⊢
       have o1:bV 3 ([]:List (List AV))=.U:=rfl
       simp only[List.nil_append]at fD
       simp[pV,u4,u3,Fu,o1,af,AV.view,aA,az,cut]
       simp[aL,fN,dL,bZ,vA,af,AV.view,cut,fits,Cy,bp,AV.ai,AV.au,AV.ir]
       exact fD _
      ·have o1:bV 3 Lk=.own 3 Lk:=by unfold bV;rw[if_neg k0]
       rw[o1]
       simp[pV,u4,u3,Fu,af,AV.view,aA,az,cut]
       simp[aL,fN,dL,bZ,vA,hl,af,AV.view,cut,fits,mH,bp,AV.ai,AV.au,AV.ir]
       exact fD _
     ·have de:k=gl.length:=by omega
      subst de
      rw[List.take_length]
      simp[hgn,w1,w2,w3,AV.view]
      obtain⟨B,hB⟩:∃B:List Cd->List Sd->Bl,B=λcs ss=>⟨RV,gl,cs,ss,mn,0,[],false,T0,[]⟩:=⟨_,rfl⟩
      have hX:∀cs ss t0 t1 t2 t3 t4 t5 t6 r,WB (B cs ss) t0 t1 t2 t3 t4 t5 t6 r=.rows 0 12 [[RV,bV 3 (gl.map T3.cells),bV 7 (cs.map Cd.row),bV 4 (ss.map Sd.row),.int .i64 mn,t0,t1,t2,t3,t4,t5,t6]]::r:=λcs ss t0 t1 t2 t3 t4 t5 t6 r=>by rw[hB];rfl
      have hD:∀cs ss ns g bd,Cx (B cs ss) ns g bd=B (cs++[ct ns g bd]) (ss++(hY ns bd).ss.map (λt=>⟨cs.length,t⟩)):=λcs ss ns g bd=>by rw[hB];rfl
      have Wm:∀cs ss,(B cs ss).sites=ss/\(B cs ss).aR=cs:=λcs ss=>by rw[hB];exact⟨rfl,rfl⟩
      clear hB
      have o7:bV 7 ([]:List (List AV))=.U:=rfl
      have o4:bV 4 ([]:List (List AV))=.U:=rfl
      refine bu Wd.eq_1 (λx:Nat×List Cd×List Sd×Nat×(AV×AV×AV×AV×AV×AV×AV)×an×List AV×List AV=>⟨[(2,.fp 1 0),(3,.fp 2 0),(4,.fp 3 0),(7,.val (.ptr 0 0 0 0)),(10,.val (.int .i64 x.2.2.2.1)),(66,.val BV),(67,.val (.int .i64 bs.length)),(68,.val (.int .i64 x.1))],
        [[PR,PG,PF],[.U,.U,.U,.U,.int .i64 0],[.int .i64 0,.int .i64 0],[RV,GV,SV,.int .i64 mn,BV],[.int .i64 0,.int .i64 0],[.int .i64 0,.int .i64 0],x.2.2.2.2.2.2.1,x.2.2.2.2.2.2.2],
        .rows 0 12 [[RV,bV 3 (gl.map T3.cells),bV 7 (x.2.1.map Cd.row),bV 4 (x.2.2.1.map Sd.row),.int .i64 mn,x.2.2.2.2.1.1,x.2.2.2.2.1.2.1,x.2.2.2.2.1.2.2.1,x.2.2.2.2.1.2.2.2.1,x.2.2.2.2.1.2.2.2.2.1,x.2.2.2.2.1.2.2.2.2.2.1,x.2.2.2.2.1.2.2.2.2.2.2]]::x.2.2.2.2.2.1⟩)
       (λx=>x.1<=bs.length/\x.2.1.length=x.1/\x.2.2.1.length<=60/\x.2.2.2.1<=2500/\wL x.2.1 x.2.2.1 x.2.2.2.1 (H.sigs.drop x.1) (bs.drop x.1)=wL [] [] 0 H.sigs bs) (λx=>bs.length-x.1)
       (0,[],[],0,(.int .i64 0,.U,.bool false,.int .i64 0,.int .i64 0,.int .i64 0,.U),[],bx,[]) (by simp[o7,o4]) ⟨by simp,rfl,by simp,by simp,rfl⟩ ?_
      rintro⟨k,cs,ss,n,⟨t0,y1,y2,y3,y4,y5,y6⟩,pre,bx6,bx7⟩ ⟨hk,mI,xS,Wh,hp⟩ ih
      simp only at hk mI xS Wh hp ih ⊢
      by_cases aV:k<bs.length
      ·have vA:IntKind.i64.wrap ((k:Int)+1)=((k+1:Nat):Int):=by rw[wrap64]<;>omega
       have Nj:k<H.sigs.length:=by omega
       have hm:=List.getElem_mem aV
       obtain⟨hcz,wo⟩:=W6 _ hm
       have hLk:=hLB _ hm
       have hlb:k<(bs.map Bd.row).length:=by simpa using aV
       have Wx:(bs.map Bd.row)[k]'hlb=Bd.row bs[k]:=by simp
       have I3:k<(H.sigs.map Sg.row).length:=by simpa using Nj
       have JR:(H.sigs.map Sg.row)[k]'I3=Sg.row H.sigs[k]:=by simp
       obtain⟨q1,q2⟩:=Wm cs ss
       have dw:=Ir (B cs ss) pre H.sigs[k] bs[k] t0 y1 y2 y3 y4 y5 y6 hLk (by omega) (by rw[q1];omega) (by rw[q2];omega)
       rw[q1,hX,Vq,hD,hX]at dw
       obtain⟨l1,l2,l3⟩:=J7 ss.length H.sigs[k] bs[k] hLk
       have TK:(ct ss.length H.sigs[k] bs[k]).params=H.sigs[k].ps.length:=rfl
       rw[Is k aV Nj]at hp
       have Wp:IntKind.i64.wrap ((n:Int)+((ct ss.length H.sigs[k] bs[k]).is.length:Int))=((n+(ct ss.length H.sigs[k] bs[k]).is.length:Nat):Int):=by rw[wrap64]<;>omega
       obtain⟨g1',g2'⟩:aG (bT H.sigs[k].ps)=true/\(bT H.sigs[k].ps).view=bT H.sigs[k].ps:=⟨bq,br⟩
       obtain⟨d1,d2⟩:aG (bT bs[k].vars)=true/\(bT bs[k].vars).view=bT bs[k].vars:=⟨bq,br⟩
       obtain⟨d3,d4⟩:aG (bz bs[k].code)=true/\(bz bs[k].code).view=bz bs[k].code:=⟨bJ,bM⟩
       have lv:aG (bV 3 ((ct ss.length H.sigs[k] bs[k]).vars.map T3.cells))=true:=D9 _ _
       have lr:aP (bV 3 ((ct ss.length H.sigs[k] bs[k]).vars.map T3.cells))=(ct ss.length H.sigs[k] bs[k]).vars.map T3.cells:=Cz _ _
       have sv:aG (bV 4 ((ss++(hY ss.length bs[k]).ss.map (λt=>(⟨cs.length,t⟩:Sd))).map Sd.row))=true:=D9 _ _
       have sr:aP (bV 4 ((ss++(hY ss.length bs[k]).ss.map (λt=>(⟨cs.length,t⟩:Sd))).map Sd.row))=(ss++(hY ss.length bs[k]).ss.map (λt=>(⟨cs.length,t⟩:Sd))).map Sd.row:=Cz _ _
       have sl:((ss++(hY ss.length bs[k]).ss.map (λt=>(⟨cs.length,t⟩:Sd))).map Sd.row).length=ss.length+(hY ss.length bs[k]).ss.length:=by simp
       have vl:((ct ss.length H.sigs[k] bs[k]).vars.map T3.cells).length=(ct ss.length H.sigs[k] bs[k]).vars.length:=by simp
       have il:((ct ss.length H.sigs[k] bs[k]).is.map In.row).length=(ct ss.length H.sigs[k] bs[k]).is.length:=by simp
       have dw:(aU S).call 0 0 23 [.ptr 0 0 0 0,.agg H.sigs[k].row,.agg bs[k].row] _=_:=dw
       simp only[Sg.row,Bd.row]at dw Wx JR
       have RI:((4000:Int)<((ct ss.length H.sigs[k] bs[k]).vars.length:Int))=(4000<(ct ss.length H.sigs[k] bs[k]).vars.length):=propext ⟨λ_=>by omega,λ_=>by omega⟩
       have WD:((2500:Int)<((n+(ct ss.length H.sigs[k] bs[k]).is.length:Nat):Int))=(2500<n+(ct ss.length H.sigs[k] bs[k]).is.length):=propext ⟨λ_=>by omega,λ_=>by omega⟩
       have ZC:((60:Int)<((ss.length+(hY ss.length bs[k]).ss.length:Nat):Int))=(60<ss.length+(hY ss.length bs[k]).ss.length):=propext ⟨λ_=>by omega,λ_=>by omega⟩
       obtain⟨n',Oq⟩:∃n',n'=n+(ct ss.length H.sigs[k] bs[k]).is.length:=⟨_,rfl⟩
       obtain⟨s',zH⟩:∃s',s'=ss.length+(hY ss.length bs[k]).ss.length:=⟨_,rfl⟩
       rw[<-Oq,<-zH]at hp
       rw[<-Oq]at Wp WD
       rw[<-zH]at sl ZC
       by_cases kk:4000<(ct ss.length H.sigs[k] bs[k]).vars.length\/2500<n'\/60<s'
       ·rw[if_pos kk]at hp
        rw[<-hp]
        simp only[ZB]
        by_cases k1:4000<(ct ss.length H.sigs[k] bs[k]).vars.length
        ·rw[eq_true k1]at RI
         clear WD ZC Oq zH ih l1 l2 l3 Is hp kk k1
         generalize ct ss.length H.sigs[k] bs[k]=c at *
         generalize ss++(hY ss.length bs[k]).ss.map (λt=>(⟨cs.length,t⟩:Sd))=NL at *
         generalize bV 3 (c.vars.map T3.cells)=OV at *
         generalize bV 4 (NL.map Sd.row)=OS at *
         generalize bV 7 ((cs++[c]).map Cd.row)=OC at *
         generalize bV 3 (gl.map T3.cells)=OG at *
         generalize H.sigs[k]=sg at *
         generalize bs[k]=bd at *
         generalize bT sg.ps=GP at *
         generalize bT bd.vars=BVs at *
         generalize bz bd.code=BC at *
         simp[aV,Nj,Wp,w4,w3,v4,v3,Wx,JR,g2',d1,d2,d3,d4,dw,lv,lr,RI,vl,il,af,AV.view,aA,az,cut]
        by_cases k2:2500<n'
        ·rw[eq_false k1]at RI
         rw[eq_true k2]at WD
         clear ZC Oq zH ih l1 l2 l3 Is hp kk k1 k2
         generalize ct ss.length H.sigs[k] bs[k]=c at *
         generalize ss++(hY ss.length bs[k]).ss.map (λt=>(⟨cs.length,t⟩:Sd))=NL at *
         generalize bV 3 (c.vars.map T3.cells)=OV at *
         generalize bV 4 (NL.map Sd.row)=OS at *
         generalize bV 7 ((cs++[c]).map Cd.row)=OC at *
         generalize bV 3 (gl.map T3.cells)=OG at *
         generalize H.sigs[k]=sg at *
         generalize bs[k]=bd at *
         generalize bT sg.ps=GP at *
         generalize bT bd.vars=BVs at *
         generalize bz bd.code=BC at *
         simp[aV,Nj,Wp,w4,w3,v4,v3,Wx,JR,g2',d1,d2,d3,d4,dw,lv,lr,RI,WD,vl,il,af,AV.view,aA,az,cut]
        have k3:60<s':=by omega
        rw[eq_false k1]at RI
        rw[eq_false k2]at WD
        rw[eq_true k3]at ZC
        clear Oq zH ih l1 l2 l3 Is hp kk k1 k2 k3
        generalize ct ss.length H.sigs[k] bs[k]=c at *
        generalize ss++(hY ss.length bs[k]).ss.map (λt=>(⟨cs.length,t⟩:Sd))=NL at *
        generalize bV 3 (c.vars.map T3.cells)=OV at *
        generalize bV 4 (NL.map Sd.row)=OS at *
        generalize bV 7 ((cs++[c]).map Cd.row)=OC at *
        generalize bV 3 (gl.map T3.cells)=OG at *
        generalize H.sigs[k]=sg at *
        generalize bs[k]=bd at *
        generalize bT sg.ps=GP at *
        generalize bT bd.vars=BVs at *
        generalize bz bd.code=BC at *
        simp[aV,Nj,Wp,w4,w3,v4,v3,Wx,JR,g2',d1,d2,d3,d4,dw,lv,lr,sv,sr,sl,RI,WD,ZC,vl,il,af,AV.view,aA,az,cut]
       ·rw[if_neg kk]at hp
        have k1:¬4000<(ct ss.length H.sigs[k] bs[k]).vars.length:=λh=>kk (.inl h)
        have k2:¬2500<n':=λh=>kk (.inr (.inl h))
        have k3:¬60<s':=λh=>kk (.inr (.inr h))
        rw[eq_false k1]at RI
        rw[eq_false k2]at WD
        rw[eq_false k3]at ZC
        have fD:=λa b c d e f g pre x6 x7=>ih (k+1,cs++[ct ss.length H.sigs[k] bs[k]],ss++(hY ss.length bs[k]).ss.map (λt=>(⟨cs.length,t⟩:Sd)),n',(a,b,c,d,e,f,g),pre,x6,x7)
         ⟨by simp only;omega,by simp[mI],by simp only[List.length_append,List.length_map];omega,by simp only;omega,hp⟩ (by simp only;omega)
        simp only at fD
        clear Oq zH ih l1 l2 l3 Is hp kk k1 k2 k3
        generalize ct ss.length H.sigs[k] bs[k]=c at *
        generalize ss++(hY ss.length bs[k]).ss.map (λt=>(⟨cs.length,t⟩:Sd))=NL at *
        generalize bV 3 (c.vars.map T3.cells)=OV at *
        generalize bV 4 (NL.map Sd.row)=OS at *
        generalize bV 7 ((cs++[c]).map Cd.row)=OC at *
        generalize bV 3 (gl.map T3.cells)=OG at *
        generalize H.sigs[k]=sg at *
        generalize bs[k]=bd at *
        generalize bT sg.ps=GP at *
        generalize bT bd.vars=BVs at *
        generalize bz bd.code=BC at *
        simp[aV,Nj,Wp,w4,w3,v4,v3,Wx,JR,g2',d1,d2,d3,d4,dw,lv,lr,sv,sr,sl,vA,RI,WD,ZC,vl,il,af,AV.view,aA,az,cut]
        exact fD _ _ _ _ _ _ _ _ _ _
      ·have de:k=bs.length:=by omega
       rw[de,List.drop_length,RH]at hp
       rw[<-hp,aiD,de]
       have e1:=va 3 (gl.map T3.cells)
       have e2:=va 7 (cs.map Cd.row)
       have e3:=va 4 (ss.map Sd.row)
       have p1:(aD 3 (gl.map T3.cells)).au=true:=oQ
       have p2:(aD 7 (cs.map Cd.row)).au=true:=oQ
       have p3:(aD 4 (ss.map Sd.row)).au=true:=oQ
       have n1:(aD 3 (gl.map T3.cells)).cw=true:=oP
       have n2:(aD 7 (cs.map Cd.row)).cw=true:=oP
       have n3:(aD 4 (ss.map Sd.row)).cw=true:=oP
       have m1:(aD 3 (gl.map T3.cells)).view=aD 3 (gl.map T3.cells):=br
       have m2:(aD 7 (cs.map Cd.row)).view=aD 7 (cs.map Cd.row):=br
       have m3:(aD 4 (ss.map Sd.row)).view=aD 4 (ss.map Sd.row):=br
       generalize aD 3 (gl.map T3.cells)=LG at *
       generalize aD 7 (cs.map Cd.row)=LC at *
       generalize aD 4 (ss.map Sd.row)=LS at *
       generalize bV 3 (gl.map T3.cells)=OG at *
       generalize bV 7 (cs.map Cd.row)=OC at *
       generalize bV 4 (ss.map Sd.row)=OS at *
       simp[e1,e2,e3,n1,n2,n3,t1,t2,af,AV.view,cut,bZ,AV.cz]
end yb
