/-
  A function, lowered.
-/
import Derived.Test.YtachcambnjecnaaW
import Derived.Test.YtachcambnjecnaaC
import Derived.Test.YtachcambnjecnaaS
import Derived.Test.YtachcambnjecnaaF

set_option maxRecDepth 100000
set_option maxHeartbeats 4000000
namespace xD
open Ax Go cp V7 j4 k8 uF
def VK (b:Bl)(t0 t1 t2 t3 t4 t5 t6:AV)(r:aj):aj:=.rows 0 12 [[b.bw,bQ 3 (b.K4.map T3.cells),bQ 7 (b.fZ.map Cd.row),bQ 4 (b.sites.map Sd.row),.int .i64 b.main,t0,t1,t2,t3,t4,t5,t6]]::r
def It (b:Bl)(g:Sg)(vs:List T3):Bl:={ b with params:=g.ps.length,vars:=vs,has:=g.has,res:=g.res,is:=[] }
theorem YD (b:Bl)(g:Sg)(vs:List T3)(pre:aj):fO (It b g vs) pre=VK b (.int .i64 g.ps.length) (bQ 3 (vs.map T3.cells)) (.bool g.has) (.int .i64 g.res.b) (.int .i64 g.res.r) (.int .i64 g.res.d) .U pre:=by
 simp[fO,Bl.cells,JK,w7,It,VK]
theorem HR (i:In)(wl:Nat)(st:aj):jZ wl i.row st=some (i.row,st):=by
 have h1:=Ca i.args
 have h2:=Cb i.args
 have h3:=Cc i.args
 generalize hv:nH i.args=v at *
 have h4:pC wl v st=some (v,st):=by
  unfold pC
  split
  ·simp[AV.an]at h1
  ·rw[h1,h2,h3];rfl
 have fi:∀(n:Int) (s:aj),pC wl (.int .i64 n) s=some (.int .i64 n,s):=λ_ _=>rfl
 simp only[In.row,hv,jZ,h4,fi]
theorem u0:∀(l:List In)(wl:Nat)(st:aj),kF wl (l.map In.row) st=some (l.map In.row,st)
 |[],_,_=>rfl
 |i::l,wl,st=>by
  simp only[List.map_cons,kF,HR,u0 l]
def Ce (b:Bl)(ns:Nat)(g:Sg)(bd:Bd):Bl:={ b with fZ:=b.fZ++[cx ns g bd],sites:=b.sites++(ij ns bd).ss.map (λt=>⟨b.fZ.length,t⟩) }
def Uv (c:Cd)(b:Bl)(pre:aj):aj:=VK b (.int .i64 c.params) (bQ 3 (c.vars.map T3.cells)) (.bool c.has) (.int .i64 c.res.b) (.int .i64 c.res.r) (.int .i64 c.res.d) (.cN 6 (c.is.map In.row)) (pre++[.rows c.is.length 6 []])
theorem uu (sz:Nat)(l:List (List AV)):(bQ sz l).view=aA sz l:=by
 unfold bQ;cases l<;>simp[AV.view,aA,b8]
theorem MM (sz:Nat)(l:List (List AV)):(bQ sz l).an=true:=by
 unfold bQ;cases l<;>simp[AV.an]
theorem HT (b:Bl)(pre:aj)(g:Sg)(bd:Bd)(t0 t1 t2 t3 t4 t5 t6:AV)(hL:LB bd.code)(hn:bd.vars.length+2*Sm.dG bd.code+10<1000000000)(hs:b.sites.length+2*Sm.dG bd.code+10<1000000000)(hc:b.fZ.length<1000000) :
  (aW S).call 0 0 13 [pB,.agg g.row,.agg bd.row] (VK b t0 t1 t2 t3 t4 t5 t6 pre)=some (.fm [],Uv (cx b.sites.length g bd) (Ce b b.sites.length g bd) pre):=by
 have M4:Fb (It b g (bd.vars.map (·.ty))) (2*Sm.dG bd.code+3):=⟨by simp[It];omega,by simp[It];omega,by simp[It];omega⟩
 have Uw:=eP bd.code (λs _=>rF s) (It b g (bd.vars.map (·.ty))) pre hL (M4.le (by omega))
 have FB:=HO hL bd.vars.length 0 b.sites.length
 have hf2:=M4.plus FB
 have e0:(It b g (bd.vars.map (·.ty))).vars.length=bd.vars.length:=by simp[It]
 have e0i:(It b g (bd.vars.map (·.ty))).is.length=0:=rfl
 have e0s:(It b g (bd.vars.map (·.ty))).sites.length=b.sites.length:=rfl
 rw[e0,e0i,e0s]at Uw
 obtain⟨bo,hbo⟩:∃o,o=cB bd.vars.length 0 b.sites.length bd.code:=⟨_,rfl⟩
 rw[<-hbo]at Uw FB hf2
 have hbO:ij b.sites.length bd=bo:=hbo.symm
 obtain⟨b2,NP⟩:∃b2,b2=(It b g (bd.vars.map (·.ty))).plus bo:=⟨_,rfl⟩
 rw[<-NP]at Uw hf2
 have hv2:b2.vars.length=bd.vars.length+bo.vs.length:=by rw[NP];simp[Bl.plus,It]
 obtain⟨b3,HQ⟩:∃b3:Bl,b3={ b2 with vars:=b2.vars++(if g.has then [g.res] else []),is:=b2.is++HL g (bd.vars.length+bo.vs.length) }:=⟨_,rfl⟩
 have c1:(cx b.sites.length g bd).vars=b3.vars:=by rw[HQ,NP];simp[cx,hbO,Bl.plus,It]
 have c2:(cx b.sites.length g bd).is=b3.is:=by rw[HQ,NP];simp[cx,hbO,Bl.plus,It]
 have c3:b3.sites=(Ce b b.sites.length g bd).sites:=by rw[HQ,NP];simp[Ce,hbO,Bl.plus,It]
 have c4:b3.fZ=b.fZ:=by rw[HQ,NP];rfl
 have c5:b3.bw=b.bw/\b3.K4=b.K4/\b3.main=b.main/\b3.params=g.ps.length/\b3.has=g.has/\b3.res=g.res:=by rw[HQ,NP];exact⟨rfl,rfl,rfl,rfl,rfl,rfl⟩
 have jH:b3.is≠[]:=by
  intro q
  rw[HQ]at q
  have q:b2.is++HL g (bd.vars.length+bo.vs.length)=[]:=q
  have:=(List.append_eq_nil_iff.1 q).2
  unfold HL at this
  split at this<;>cases this
 have hex:=JL b3 pre jH
 have h5:=u0 b3.is 0
 have IG:¬b3.is.map In.row=[]:=by simpa using jH
 have ada:b3.is.length-1+1=b3.is.length:=by have:=List.length_pos_iff.2 jH;omega
 have JG:Cd.row (cx b.sites.length g bd)=[.int .i64 g.ps.length,aA 3 (b3.vars.map T3.cells),.bool g.has,.int .i64 g.res.b,.int .i64 g.res.r,.int .i64 g.res.d,.cN 6 (b3.is.map In.row)]:=by
  unfold Cd.row
  rw[c1,c2]
  have:aA 6 (b3.is.map In.row)=.cN 6 (b3.is.map In.row):=by cases hh:b3.is.map In.row with|nil=>exact absurd hh IG|cons a l=>rfl
  rw[this];rfl
 have wY:Uv (cx b.sites.length g bd) (Ce b b.sites.length g bd) pre=.rows 0 12 [[b.bw,bQ 3 (b.K4.map T3.cells),.own 7 (b.fZ.map Cd.row++[Cd.row (cx b.sites.length g bd)]),bQ 4 (b3.sites.map Sd.row),.int .i64 b.main,
   .int .i64 g.ps.length,bQ 3 (b3.vars.map T3.cells),.bool g.has,.int .i64 g.res.b,.int .i64 g.res.r,.int .i64 g.res.d,.cN 6 (b3.is.map In.row)]]::(pre++[.rows b3.is.length 6 []]):=by
  unfold Uv VK
  rw[c1,c2,<-c3]
  have:bQ 7 ((Ce b b.sites.length g bd).fZ.map Cd.row)=.own 7 (b.fZ.map Cd.row++[Cd.row (cx b.sites.length g bd)]):=by simp[Ce,bQ]
  rw[this];rfl
 rw[JG]at wY
 have rf:=λwl li st=>K9.Jy wl li g.res st
 have p1:aG (cj g.ps)=true:=aX
 have p2:(cj g.ps).view=cj g.ps:=aY
 have p3:aP (cj g.ps)=g.ps.map Vd.row:=aR
 have v1:aG (cj bd.vars)=true:=aX
 have v2:(cj bd.vars).view=cj bd.vars:=aY
 have v3:aP (cj bd.vars)=bd.vars.map Vd.row:=aR
 have v4:cI 4 (cj bd.vars)=true:=zL (by simp[fits,Vd.row])
 have s1:aG (br bd.code)=true:=bE
 have s2:(br bd.code).view=br bd.code:=bJ
 rw[wY]
 refine ax (sf:=s13) rfl rfl rfl ?_
 simp only[Sg.row,Bd.row]
 generalize cj g.ps=PV at *
 generalize cj bd.vars=FV at *
 generalize br bd.code=SV at *
 simp[s13,p1,p2,p3,v1,v2,v3,s1,fA.bq,AV.view,pB,VK,cut,af,bf,AV.ah,AV.an]
 obtain⟨Lf,hLf⟩:∃Lf:Nat->List (List AV),Lf=λk=>(bd.vars.take k).map (λv=>[.int .i64 v.ty.b,.int .i64 v.ty.r,.int .i64 v.ty.d]):=⟨_,rfl⟩
 have ade:∀k,k<=bd.vars.length->(Lf k).length=k:=λk hk=>by rw[hLf];simp;omega
 have hLS:∀k (h:k<bd.vars.length),Lf (k+1)=Lf k++[[.int .i64 bd.vars[k].ty.b,.int .i64 bd.vars[k].ty.r,.int .i64 bd.vars[k].ty.d]]:=λk h=>by
  rw[hLf];simp only;rw[List.take_succ_eq_append_getElem h,List.map_append];rfl
 have hOE:bQ 3 ((bd.vars.map (·.ty)).map T3.cells)=bQ 3 (Lf bd.vars.length):=by rw[hLf];simp only[List.take_length,List.map_map];rfl
 have hL0:bQ 3 (Lf 0)=.U:=by rw[hLf];rfl
 clear hLf
 rw[YD,hOE,VK]at Uw
 refine bC OX.eq_1 (λx:Nat×List AV=>⟨[(0,.val (.ptr 0 0 0 0)),(4,.fp 0 0),(5,.fp 1 0),(22,.val FV),(23,.val (.int .i64 bd.vars.length)),(24,.val (.int .i64 x.1))],
   [[.str g.nm,PV,.bool g.has,.int .i64 g.res.b,.int .i64 g.res.r,.int .i64 g.res.d],[FV,SV,.int .i64 bd.a],x.2],
   .rows 0 12 [[b.bw,bQ 3 (b.K4.map T3.cells),bQ 7 (b.fZ.map Cd.row),bQ 4 (b.sites.map Sd.row),.int .i64 b.main,.int .i64 g.ps.length,bQ 3 (Lf x.1),.bool g.has,.int .i64 g.res.b,.int .i64 g.res.r,.int .i64 g.res.d,.U]]::pre⟩)
  (λx=>x.1<=bd.vars.length) (λx=>bd.vars.length-x.1) (0,[]) (by simp[hL0]) (by simp) ?_
 rintro⟨k,bx⟩ hk ih
 simp only at hk ih
 by_cases aZ:k<bd.vars.length
 ·have rE:IntKind.i64.wrap ((k:Int)+1)=((k+1:Nat):Int):=by rw[wrap64]<;>omega
  have hg:(bd.vars.map Vd.row)[k]?=some (Vd.row bd.vars[k]):=by simp[aZ]
  have mw:k<(bd.vars.map Vd.row).length:=by simpa using aZ
  have E5:(bd.vars.map Vd.row)[k]'mw=Vd.row bd.vars[k]:=by simp
  have ey:=λb=>ih (k+1,b) (by simp only;omega) (by simp only;omega)
  simp only at ey
  have hl:=ade k hk
  have ho:bQ 3 (Lf (k+1))=.own 3 (Lf k++[[.int .i64 bd.vars[k].ty.b,.int .i64 bd.vars[k].ty.r,.int .i64 bd.vars[k].ty.d]]):=by rw[hLS k aZ];unfold bQ;rw[if_neg (by simp)]
  rw[ho]at ey
  have ki:(k+1)*24<=room:=by unfold room;omega
  have ym:24<=room:=by decide
  simp only[Vd.row,T3.cells]at hg E5
  by_cases k0:Lf k=[]
  ·rw[k0]at ey ⊢
   have o1:bQ 3 ([]:List (List AV))=.U:=rfl
   simp only[List.nil_append]at ey
   simp[aZ,v4,v3,E5,o1,af,AV.view,aB,az,cut]
   simp[aI,fF,dz,bU,rE,af,AV.view,cut,fits,ym,bf,AV.ah,AV.an,AV.hJ]
   exact ey _
  ·have o1:bQ 3 (Lf k)=.own 3 (Lf k):=by unfold bQ;rw[if_neg k0]
   rw[o1]
   simp[aZ,v4,v3,E5,af,AV.view,aB,az,cut]
   simp[aI,fF,dz,bU,rE,hl,af,AV.view,cut,fits,ki,bf,AV.ah,AV.an,AV.hJ]
   exact ey _
 ·have iK:k=bd.vars.length:=by omega
  have adf:nH []=.U:=rfl
  have alr:b2.is.length<1000000000-2:=by have:=hf2.2.1;omega
  have hz:b3.is.length-1+1=b3.is.length:=ada
  have ki:(b.fZ.length+1)*88<=room:=by unfold room;omega
  subst iK
  have ym:88<=room:=by decide
  have Rw:(b.fZ.map Cd.row).length=b.fZ.length:=by simp
  have q1:=uu 3 (b3.vars.map T3.cells)
  have q2:=MM 3 (b3.vars.map T3.cells)
  have q3:(aA 3 (b3.vars.map T3.cells)).an=true:=om
  have q4:(aA 3 (b3.vars.map T3.cells)).cv=true:=oh
  have q5:(aA 3 (b3.vars.map T3.cells)).view=aA 3 (b3.vars.map T3.cells):=aY
  have als:(.rows 0 12 [[b.bw,bQ 3 (b.K4.map T3.cells),bQ 7 (b.fZ.map Cd.row),bQ 4 (b3.sites.map Sd.row),.int .i64 b.main,.int .i64 g.ps.length,bQ 3 (b3.vars.map T3.cells),.bool g.has,.int .i64 g.res.b,.int .i64 g.res.r,.int .i64 g.res.d,
    .mu (pre.length+1) (b3.is.length-1)]]::(pre++[.rows (b3.is.length-1) 6 (b3.is.map In.row)])).length=pre.length+2:=by simp
  have fin:∀b0 b1 b2:List AV,W S 0 0 [] (Gy [] Mode.Cv (.rows 0 12 [[b.bw,bQ 3 (b.K4.map T3.cells),bQ 7 (b.fZ.map Cd.row),bQ 4 (b.sites.map Sd.row),.int .i64 b.main,t0,t1,t2,t3,t4,t5,t6]]::pre)
    (.fm [],.rows 0 12 [[b.bw,bQ 3 (b.K4.map T3.cells),.own 7 (b.fZ.map Cd.row++[[.int .i64 g.ps.length,aA 3 (b3.vars.map T3.cells),.bool g.has,.int .i64 g.res.b,.int .i64 g.res.r,.int .i64 g.res.d,.cN 6 (b3.is.map In.row)]]),bQ 4 (b3.sites.map Sd.row),.int .i64 b.main,
     .int .i64 g.ps.length,bQ 3 (b3.vars.map T3.cells),.bool g.has,.int .i64 g.res.b,.int .i64 g.res.r,.int .i64 g.res.d,.cN 6 (b3.is.map In.row)]]::(pre++[.rows b3.is.length 6 []])))
    [Bf.code (bG.uw 0 11),Bf.code (.region [.o 64 .move [.t 0],.o 65 .move [.t 0],.o 66 .nilCheck [.t 65],
     .o 67 (.fieldAddr 0) [.T 66],.o 68 (.fieldAddr 2) [.T 67],.o 69 (.load false 1 true) [.T 68],.o 70 .move [.t 0],.o 71 .nilCheck [.t 70],
     .o 72 (.fieldAddr 5) [.T 71],.o 73 (.load true 7 false) [.T 72],
     .o 74 (.lit 7 1 [.int .i64 0,.U,.bool false,.int .i64 0,.int .i64 0,.int .i64 0,.U] [0]) [.T 73],.o 75 (.append 7 88) [.T 69,.T 74],
     .o 76 .nilCheck [.t 64],.o 77 (.fieldAddr 0) [.T 76],.o 78 (.fieldAddr 2) [.T 77],.n (.store 1) [.T 78,.T 75]] (some [(9,5)]) [0,64,65,70])]
    Ex.normal ⟨[(0,.val (.ptr 0 0 0 0))],[b0,b1,b2],.rows 0 12 [[b.bw,bQ 3 (b.K4.map T3.cells),bQ 7 (b.fZ.map Cd.row),bQ 4 (b3.sites.map Sd.row),.int .i64 b.main,.int .i64 g.ps.length,bQ 3 (b3.vars.map T3.cells),.bool g.has,.int .i64 g.res.b,.int .i64 g.res.r,.int .i64 g.res.d,
    .mu (pre.length+1) (b3.is.length-1)]]::(pre++[.rows (b3.is.length-1) 6 (b3.is.map In.row)])⟩:=by
   intro b0 b1 b2
   rw[WL]
   refine⟨0,0,0,0,.mu (pre.length+1) (b3.is.length-1),.cN 6 (b3.is.map In.row),.rows 0 12 [[b.bw,bQ 3 (b.K4.map T3.cells),bQ 7 (b.fZ.map Cd.row),bQ 4 (b3.sites.map Sd.row),.int .i64 b.main,.int .i64 g.ps.length,bQ 3 (b3.vars.map T3.cells),.bool g.has,.int .i64 g.res.b,.int .i64 g.res.r,.int .i64 g.res.d,
    .mu (pre.length+1) (b3.is.length-1)]]::(pre++[.rows b3.is.length 6 []]),.rows 0 12 [[b.bw,bQ 3 (b.K4.map T3.cells),bQ 7 (b.fZ.map Cd.row),bQ 4 (b3.sites.map Sd.row),.int .i64 b.main,.int .i64 g.ps.length,bQ 3 (b3.vars.map T3.cells),.bool g.has,.int .i64 g.res.b,.int .i64 g.res.r,.int .i64 g.res.d,
    .cN 6 (b3.is.map In.row)]]::(pre++[.rows b3.is.length 6 []]),rfl,by simp[fF,cut],?_,by simp[dz,bf,af],?_⟩
   ·simp[nP,jq,h5,hz,jH]
   generalize hCR:b.fZ.map Cd.row=CR at *
   generalize hMR:b3.is.map In.row=MR at *
   generalize aA 3 (b3.vars.map T3.cells)=LV3 at *
   generalize bQ 3 (b3.vars.map T3.cells)=OV3 at *
   generalize bQ 4 (b3.sites.map Sd.row)=OS3 at *
   generalize bQ 3 (b.K4.map T3.cells)=OG at *
   by_cases xJ:CR=[]
   ·have e0:bQ 7 CR=.U:=by rw[xJ];rfl
    rw[e0,xJ]
    rw[q8]
    simp[dm,gG,cT,bp,fA.bq,aI,fF,dz,bU,af,AV.view,AV.cy,cut,fits,ym,bf,AV.ah,AV.an,AV.hJ,q1,q3,q4,q5]
    refine⟨_,_,⟨rfl,rfl⟩,?_⟩
    simp[dK.same,AV.same,AV.pq,yh,jm,AV.cy,AV.view,q1]
   ·have e0:bQ 7 CR=.own 7 CR:=by unfold bQ;rw[if_neg xJ]
    rw[e0]
    rw[q8]
    simp[dm,gG,cT,bp,fA.bq,aI,fF,dz,bU,af,AV.view,AV.cy,cut,fits,Rw,ki,bf,AV.ah,AV.an,AV.hJ,q1,q3,q4,q5]
    refine⟨_,_,⟨rfl,rfl⟩,?_⟩
    simp[dK.same,AV.same,AV.pq,yh,jm,AV.cy,AV.view,q1]
  cases hh:g.has with
  |false=>
   have ha:=nI b2 pre ⟨18,-1,0,0,0,[]⟩ (by omega)
   have e3:{ b2 with is:=b2.is++[⟨18,-1,0,0,0,[]⟩] }=b3:=by rw[HQ,hh];simp[HL,hh]
   rw[e3,hex]at ha
   simp only[In.row,adf,pB,c4,c5.1,c5.2.1,c5.2.2.1,c5.2.2.2.1,c5.2.2.2.2.1,c5.2.2.2.2.2,hh]at ha
   simp only[hh,pB]at Uw
   rw[hh]at fin
   clear hex e3 wY JG
   generalize bQ 3 (Lf bd.vars.length)=OV at *
   generalize fO b2 pre=lf at *
   simp[Uw,ha,s2,af,AV.view,cut]
   exact fin _ _ _
  |true=>
   have ht:=λli=>Fe li b2 pre g.res (by have:=hf2.1;omega)
   have ha1:=nI { b2 with vars:=b2.vars++[g.res] } pre ⟨if vz g.res then 2 else 1,(b2.vars.length:Int),0,0,0,[]⟩ (by show b2.is.length<_;omega)
   have Wo:=nI { b2 with vars:=b2.vars++[g.res],is:=b2.is++[⟨if vz g.res then 2 else 1,(b2.vars.length:Int),0,0,0,[]⟩] } pre ⟨18,(b2.vars.length:Int),0,0,0,[]⟩ (by show (b2.is++[_]).length<_;simp;omega)
   have e3:{ b2 with vars:=b2.vars++[g.res],is:=b2.is++[⟨if vz g.res then 2 else 1,(b2.vars.length:Int),0,0,0,[]⟩]++[⟨18,(b2.vars.length:Int),0,0,0,[]⟩] }=b3:=by rw[HQ,hh,<-hv2];simp[HL,hh]
   simp only[e3]at Wo
   rw[hex]at Wo
   simp only[In.row,adf,pB,c4,c5.1,c5.2.1,c5.2.2.1,c5.2.2.2.1,c5.2.2.2.2.1,c5.2.2.2.2.2,hh]at ha1 Wo
   simp only[hh,pB]at Uw
   simp only[pB,T3.cells]at ht
   rw[hh]at fin
   clear hex e3 wY JG
   generalize bQ 3 (Lf bd.vars.length)=OV at *
   generalize fO { b2 with vars:=b2.vars++[g.res],is:=b2.is++[⟨if vz g.res then 2 else 1,(b2.vars.length:Int),0,0,0,[]⟩] } pre=st4 at *
   generalize fO { b2 with vars:=b2.vars++[g.res] } pre=st3 at *
   generalize fO b2 pre=lf at *
   cases hr:vz g.res with
   |false=>
    simp only[hr,Bool.false_eq_true,if_false]at ha1
    simp[Uw,rf,hr,ht,ha1,Wo,s2,af,AV.view,cut]
    exact fin _ _ _
   |true=>
    simp only[hr,if_true]at ha1
    simp[Uw,rf,hr,ht,ha1,Wo,s2,af,AV.view,cut]
    exact fin _ _ _
end xD
namespace xD
open Ax Go cp V7 j4 k8 uF
open K9 (tn mS gW B5)
open N7 (j8)
def je (p:Pg):Bool:=decide (12<p.bw.length)||decide (8<p.globals.length)||decide (16<p.funcs.length)||p.bw.any (λr=>decide (8<r.fields.length))||p.funcs.any (λf=>decide (6<f.params.length))
theorem QW (wl aa:Nat)(p:Pg)(st:aj)(h1:p.bw.length<1000000000)(h3:p.funcs.length<1000000000) :
  (aW S).call wl aa 12 [.agg p.row] st=some (.bool (je p),st):=by
 refine bT (sf:=ZV) rfl rfl (by simp[Pg.row,AV.ah,AV.an]) rfl rfl ?_
 have r1:aG (aA 3 (p.bw.map Rc.row))=true:=aX
 have r2:(aA 3 (p.bw.map Rc.row)).view=aA 3 (p.bw.map Rc.row):=aY
 have r3:aP (aA 3 (p.bw.map Rc.row))=p.bw.map Rc.row:=aR
 have r4:cI 3 (aA 3 (p.bw.map Rc.row))=true:=zL (by simp[fits,Rc.row])
 have f1:aG (aA 7 (p.funcs.map Fc.row))=true:=aX
 have f2:(aA 7 (p.funcs.map Fc.row)).view=aA 7 (p.funcs.map Fc.row):=aY
 have f3:aP (aA 7 (p.funcs.map Fc.row))=p.funcs.map Fc.row:=aR
 have f4:cI 7 (aA 7 (p.funcs.map Fc.row))=true:=zL (by simp[fits,Fc.row])
 have g1:aG (aA 4 (p.globals.map PD.cells))=true:=aX
 have g2:(aA 4 (p.globals.map PD.cells)).view=aA 4 (p.globals.map PD.cells):=aY
 have g3:aP (aA 4 (p.globals.map PD.cells))=p.globals.map PD.cells:=aR
 simp only[Pg.row]
 generalize aA 3 (p.bw.map Rc.row)=PR at *
 generalize aA 7 (p.funcs.map Fc.row)=PF at *
 generalize aA 4 (p.globals.map PD.cells)=PG at *
 by_cases q1:(12:Int)<(p.bw.length:Int)
 ·have:je p=true:=by unfold je;rw[decide_eq_true (by omega:12<p.bw.length)];rfl
  rw[this]
  simp[ZV,r1,r2,r3,f1,g1,AV.view,q1]
 by_cases q2:(8:Int)<(p.globals.length:Int)
 ·have:je p=true:=by unfold je;rw[decide_eq_true (by omega:8<p.globals.length)];simp
  rw[this]
  simp[ZV,r1,r2,r3,f1,g1,g2,g3,AV.view,q1,q2]
 by_cases q3:(16:Int)<(p.funcs.length:Int)
 ·have:je p=true:=by unfold je;rw[decide_eq_true (by omega:16<p.funcs.length)];simp
  rw[this]
  simp[ZV,r1,r2,r3,f1,f2,f3,g1,g2,g3,AV.view,q1,q2,q3]
 have hG:je p=(p.bw.any (λr=>decide (8<r.fields.length))||p.funcs.any (λf=>decide (6<f.params.length))):=by
  unfold je
  rw[decide_eq_false (by omega:¬12<p.bw.length),decide_eq_false (by omega:¬8<p.globals.length),decide_eq_false (by omega:¬16<p.funcs.length)];rfl
 simp[ZV,r1,r2,r3,f1,f2,f3,g1,g2,g3,AV.view,q1,q2,q3]
 refine bC OU.eq_1 (λx:Nat×List AV=>⟨[(1,.fp 0 0),(24,.val PR),(25,.val (.int .i64 p.bw.length)),(26,.val (.int .i64 x.1))],[[PR,PG,PF],x.2,[]],[]⟩)
  (λx=>x.1<=p.bw.length/\je p=((p.bw.drop x.1).any (λr=>decide (8<r.fields.length))||p.funcs.any (λf=>decide (6<f.params.length)))) (λx=>p.bw.length-x.1) (0,[]) (by simp) ⟨by simp,by simpa using hG⟩ ?_
 rintro⟨k,bx⟩ ⟨hk,hp⟩ ih
 simp only at hk hp ih
 by_cases aZ:k<p.bw.length
 ·have rE:IntKind.i64.wrap ((k:Int)+1)=((k+1:Nat):Int):=by rw[wrap64]<;>omega
  rw[List.drop_eq_getElem_cons aZ]at hp
  have hg:(p.bw.map Rc.row)[k]?=some (Rc.row p.bw[k]):=by simp[aZ]
  have mw:k<(p.bw.map Rc.row).length:=by simpa using aZ
  have E5:(p.bw.map Rc.row)[k]'mw=Rc.row p.bw[k]:=by simp
  have x1:aG (aA 4 (p.bw[k].fields.map PD.cells))=true:=aX
  have x2:(aA 4 (p.bw[k].fields.map PD.cells)).view=aA 4 (p.bw[k].fields.map PD.cells):=aY
  have x3:aP (aA 4 (p.bw[k].fields.map PD.cells))=p.bw[k].fields.map PD.cells:=aR
  simp only[Rc.row]at hg E5
  by_cases c:(8:Int)<(p.bw[k].fields.length:Int)
  ·have:je p=true:=by rw[hp,List.any_cons,decide_eq_true (by omega:8<p.bw[k].fields.length)];rfl
   rw[this]
   generalize aA 4 (p.bw[k].fields.map PD.cells)=XV at *
   simp[aZ,r4,r3,E5,x1,x2,x3,c,af,AV.view]
  ·rw[List.any_cons,decide_eq_false (by omega:¬8<p.bw[k].fields.length),Bool.false_or]at hp
   have ey:=λb=>ih (k+1,b) ⟨by simp only;omega,hp⟩ (by simp only;omega)
   simp only at ey
   generalize aA 4 (p.bw[k].fields.map PD.cells)=XV at *
   simp[aZ,rE,r4,r3,E5,x1,x2,x3,c,af,AV.view]
   exact ey _
 ·have iK:k=p.bw.length:=by omega
  rw[iK,List.drop_length]at hp
  have hG:je p=p.funcs.any (λf=>decide (6<f.params.length)):=by simpa using hp
  simp[aZ,f1,f2,f3,AV.view]
  refine bC OW.eq_1 (λx:Nat×List AV×List AV=>⟨[(36,.val PF),(37,.val (.int .i64 p.funcs.length)),(38,.val (.int .i64 x.1))],[[PR,PG,PF],x.2.1,x.2.2],[]⟩)
   (λx=>x.1<=p.funcs.length/\je p=(p.funcs.drop x.1).any (λf=>decide (6<f.params.length))) (λx=>p.funcs.length-x.1) (0,bx,[]) (by simp) ⟨by simp,by simpa using hG⟩ ?_
  rintro⟨k,bx1,bx⟩ ⟨hk,hp⟩ ih
  simp only at hk hp ih
  by_cases aZ:k<p.funcs.length
  ·have rE:IntKind.i64.wrap ((k:Int)+1)=((k+1:Nat):Int):=by rw[wrap64]<;>omega
   rw[List.drop_eq_getElem_cons aZ]at hp
   have hg:(p.funcs.map Fc.row)[k]?=some (Fc.row p.funcs[k]):=by simp[aZ]
   have mw:k<(p.funcs.map Fc.row).length:=by simpa using aZ
   have E5:(p.funcs.map Fc.row)[k]'mw=Fc.row p.funcs[k]:=by simp
   have x1:aG (aA 4 (p.funcs[k].params.map PD.cells))=true:=aX
   have x2:(aA 4 (p.funcs[k].params.map PD.cells)).view=aA 4 (p.funcs[k].params.map PD.cells):=aY
   have x3:aP (aA 4 (p.funcs[k].params.map PD.cells))=p.funcs[k].params.map PD.cells:=aR
   have y1:aG (br p.funcs[k].body)=true:=bE
   have y2:(br p.funcs[k].body).view=br p.funcs[k].body:=bJ
   simp only[Fc.row]at hg E5
   by_cases c:(6:Int)<(p.funcs[k].params.length:Int)
   ·have:je p=true:=by rw[hp,List.any_cons,decide_eq_true (by omega:6<p.funcs[k].params.length)];rfl
    rw[this]
    generalize aA 4 (p.funcs[k].params.map PD.cells)=XV at *
    generalize br p.funcs[k].body=YV at *
    simp[aZ,f4,f3,E5,x1,x2,x3,y1,y2,c,af,AV.view]
   ·rw[List.any_cons,decide_eq_false (by omega:¬6<p.funcs[k].params.length),Bool.false_or]at hp
    have ey:=λa b=>ih (k+1,a,b) ⟨by simp only;omega,hp⟩ (by simp only;omega)
    simp only at ey
    generalize aA 4 (p.funcs[k].params.map PD.cells)=XV at *
    generalize br p.funcs[k].body=YV at *
    simp[aZ,rE,f4,f3,E5,x1,x2,x3,y1,y2,c,af,AV.view]
    exact ey _ _
  ·have iK:k=p.funcs.length:=by omega
   rw[iK,List.drop_length]at hp
   rw[hp]
   simp[aZ]
end xD
namespace xD
open Ax Go cp V7 j4 k8 uF
open K9 (tn mS gW B5 Z5)
open N7 U7
open S9 (zf E7)
abbrev ZX:AV:=.agg [.U,.U,.U,.U,.int .i64 0]
def rH (H:Hd)(main:Int)(cs:List Cd)(ss:List Sd):List AV:=[aA 2 (H.ct.map gV),aA 3 (H.globals.map (λv=>v.ty.cells)),aA 7 (cs.map Cd.row),aA 4 (ss.map Sd.row),.int .i64 main]
def YE (H:Hd)(main:Int)(r:Except Int (List Cd×List Sd)):AV:=match r with
 |.error a=>.fm [ZX,.agg [.int .i64 4,.int .i64 a]]
 |.ok (cs,ss)=>.fm [.agg (rH H main cs ss),.agg [.int .i64 0,.int .i64 0]]
def zh (p:Pg):AV:=match lS (j8 p) with
 |some a=>.fm [ZX,.agg [.int .i64 3,.int .i64 a]]
 |none=>match qj (aQ p) (aQ p).sigs p.funcs with
  |.error a=>.fm [ZX,.agg [.int .i64 3,.int .i64 a]]
  |.ok bs=>match zf p with
   |some a=>.fm [ZX,.agg [.int .i64 3,.int .i64 a]]
   |none=>if je p then .fm [ZX,.agg [.int .i64 4,.int .i64 0]] else YE (aQ p) (gW p) (B8 [] [] 0 (aQ p).sigs bs)
theorem DK (sz:Nat)(l:List (List AV)):aG (bQ sz l)=true:=by unfold bQ;split<;>rfl
theorem Cf (sz:Nat)(l:List (List AV)):aP (bQ sz l)=l:=by
 unfold bQ
 split
 ·rename_i h;rw[h];rfl
 ·rfl
theorem QX {p:Pg}(h:je p=false):Few p:=by
 unfold je at h
 simp only[Bool.or_eq_false_iff,decide_eq_false_iff_not,List.any_eq_false,decide_eq_true_eq]at h
 obtain⟨⟨⟨⟨h1,h2⟩,h3⟩,h4⟩,h5⟩:=h
 exact⟨by omega,by omega,by omega,λx hx=>by have:=h4 x hx;omega,λx hx=>by have:=h5 x hx;omega⟩
theorem yp {cs:List Cd}{ss:List Sd}{all:Nat}{s:Sg}{sg:List Sg}{b:Bd}{bs:List Bd}:B8 cs ss all (s::sg) (b::bs) =
  if 4000<(cx ss.length s b).vars.length\/2500<all+(cx ss.length s b).is.length\/60<ss.length+(ij ss.length b).ss.length then .error b.a
  else B8 (cs++[cx ss.length s b]) (ss++(ij ss.length b).ss.map (λt=>⟨cs.length,t⟩)) (all+(cx ss.length s b).is.length) sg bs:=by
 (conv=>lhs;unfold B8)<;>rfl
theorem Cg {cs:List Cd}{ss:List Sd}{all:Nat}{sg:List Sg}:B8 cs ss all sg []=.ok (cs,ss):=by cases sg<;>rfl
theorem JM (ns:Nat)(s:Sg)(b:Bd)(hL:LB b.code):(cx ns s b).vars.length<=b.vars.length+2*Sm.dG b.code+1/\(cx ns s b).is.length<=2*Sm.dG b.code+2/\(ij ns b).ss.length<=2*Sm.dG b.code:=by
 obtain⟨h1,h2,h3⟩:=HO hL b.vars.length 0 ns
 refine⟨?_,?_,h3⟩
 ·show (b.vars.map (·.ty)++(cB b.vars.length 0 ns b.code).vs++(if s.has then [s.res] else [])).length<=_
  cases s.has<;>simp<;>omega
 ·show ((cB b.vars.length 0 ns b.code).is++HL s _).length<=_
  unfold HL
  cases s.has<;>simp<;>omega
theorem EP (wl aa:Nat)(p:Pg)(st:aj)(hg:(j8 p).ok)(rX:GD.sm (j8 p))(dL:∀f∈p.funcs,f.params.length+Sm.dG f.body<1000000000)
  (Bc:∀bs,qj (aQ p) (aQ p).sigs p.funcs=.ok bs->∀b∈bs,Sm.dG b.code<100000000/\b.vars.length<100000000) :
  (aW S).call wl aa 7 [.agg p.row] st=some (zh p,st):=by
 have ec:=λwl aa st=>K9.HH wl aa p st hg rX dL
 have es:=λwl aa st=>S9.Ul wl aa p st hg rX dL λbs h b hb=>by have:=Bc bs h b hb;omega
 have FC:p.funcs.length<1000000000:=by have:=rX.funcs;rw[pW,List.length_map]at this;exact this
 have hrn:p.bw.length<1000000000:=by have:=rX.bw;rw[pV,List.length_map]at this;exact this
 have eg:=λwl aa st=>QW wl aa p st hrn FC
 unfold tn at ec
 have r1:aG (aA 3 (p.bw.map Rc.row))=true:=aX
 have r2:(aA 3 (p.bw.map Rc.row)).view=aA 3 (p.bw.map Rc.row):=aY
 have f1:aG (aA 7 (p.funcs.map Fc.row))=true:=aX
 have f2:(aA 7 (p.funcs.map Fc.row)).view=aA 7 (p.funcs.map Fc.row):=aY
 have g1:aG (aA 4 (p.globals.map PD.cells))=true:=aX
 have g2:(aA 4 (p.globals.map PD.cells)).view=aA 4 (p.globals.map PD.cells):=aY
 have F1:(zh p).an=true:=by
  unfold zh YE rH
  repeat' split
  all_goals simp[AV.an,AV.ah]
 refine bT (sf:=s7) rfl rfl (by simp[Pg.row,AV.ah,AV.an]) rfl F1 ?_
 unfold zh
 simp only[Pg.row]at ec es eg ⊢
 generalize aA 3 (p.bw.map Rc.row)=PR at *
 generalize aA 7 (p.funcs.map Fc.row)=PF at *
 generalize aA 4 (p.globals.map PD.cells)=PG at *
 cases hF:lS (j8 p) with
 |some a=>
  rw[hF]at ec
  simp[s7,ec,r1,r2,f1,f2,g1,g2,af,AV.view,aB,az]
 |none=>
  rw[hF]at ec
  simp only at ec ⊢
  cases hR:qj (aQ p) (aQ p).sigs p.funcs with
  |error a=>
   rw[hR]at ec
   simp only[B5]at ec ⊢
   simp[s7,ec,r1,r2,f1,f2,g1,g2,af,AV.view,aB,az]
  |ok bs=>
   rw[hR]at ec
   simp only[B5,mS,List.cons_append,List.nil_append]at ec ⊢
   have t1:aG (aA 2 ((aQ p).ct.map gV))=true:=aX
   have t2:(aA 2 ((aQ p).ct.map gV)).view=aA 2 ((aQ p).ct.map gV):=aY
   have u1:aG (cj (aQ p).globals)=true:=aX
   have u2:(cj (aQ p).globals).view=cj (aQ p).globals:=aY
   have u3:aP (cj (aQ p).globals)=(aQ p).globals.map Vd.row:=aR
   have u4:cI 4 (cj (aQ p).globals)=true:=zL (by simp[fits,Vd.row])
   have v1:aG (aA 6 ((aQ p).sigs.map Sg.row))=true:=aX
   have v2:(aA 6 ((aQ p).sigs.map Sg.row)).view=aA 6 ((aQ p).sigs.map Sg.row):=aY
   have v3:aP (aA 6 ((aQ p).sigs.map Sg.row))=(aQ p).sigs.map Sg.row:=aR
   have v4:cI 6 (aA 6 ((aQ p).sigs.map Sg.row))=true:=zL (by simp[fits,Sg.row])
   have w1:aG (aA 3 (bs.map Bd.row))=true:=aX
   have w2:(aA 3 (bs.map Bd.row)).view=aA 3 (bs.map Bd.row):=aY
   have w3:aP (aA 3 (bs.map Bd.row))=bs.map Bd.row:=aR
   have w4:cI 3 (aA 3 (bs.map Bd.row))=true:=zL (by simp[fits,Bd.row])
   generalize hRV:aA 2 ((aQ p).ct.map gV)=RV at *
   generalize cj (aQ p).globals=GV at *
   generalize aA 6 ((aQ p).sigs.map Sg.row)=SV at *
   generalize aA 3 (bs.map Bd.row)=BV at *
   cases hS:zf p with
   |some a=>
    rw[hS]at es
    simp only[E7,S9.cE,S9.cX]at es
    simp[s7,ec,es,r1,r2,f1,f2,g1,g2,t1,t2,u1,u2,v1,v2,w1,w2,af,AV.view,aB,az]
   |none=>
    rw[hS]at es
    simp only[E7,S9.cE,S9.cX]at es
    cases QY:je p with
    |true=>
     rw[QY]at eg
     simp[s7,ec,es,eg,r1,r2,f1,f2,g1,g2,t1,t2,u1,u2,v1,v2,w1,w2,af,AV.view]
    |false=>
     rw[QY]at eg
     have HU:=Uq hF (QX QY)
     simp[s7,ec,es,eg,r1,r2,f1,f2,g1,g2,t1,t2,u1,u2,u3,v1,v2,w1,w2,af,AV.view,fA.bq]
     obtain⟨gl,Ry⟩:∃l,l=(aQ p).globals.map (·.ty):=⟨_,rfl⟩
     have hgn:(aQ p).globals.length=gl.length:=by rw[Ry];simp
     have alv:gl.length<1000000:=by rw[<-hgn];have:=HU.ng;omega
     have ah0:∀cs ss,YE (aQ p) (gW p) (.ok (cs,ss))=.fm [.agg [RV,aA 3 (gl.map T3.cells),aA 7 (cs.map Cd.row),aA 4 (ss.map Sd.row),.int .i64 (gW p)],.agg [.int .i64 0,.int .i64 0]]:=λcs ss=>by
      unfold YE rH
      rw[hRV,Ry,List.map_map];rfl
     have hGr:∀k (h:k<gl.length) (h2:k<((aQ p).globals.map Vd.row).length),∃nm,((aQ p).globals.map Vd.row)[k]=[.str nm,.int .i64 gl[k].b,.int .i64 gl[k].r,.int .i64 gl[k].d]:=λk h h2=>
      ⟨((aQ p).globals[k]'(by omega)).nm,by simp[Ry,Vd.row]⟩
     have hGl:((aQ p).globals.map Vd.row).length=gl.length:=by simp[Ry]
     have alx:RV.view=RV:=t2
     have dA:(aQ p).sigs.length=p.funcs.length:=by simp[aQ]
     have RX:bs.length=p.funcs.length:=S9.wN dA hR
     have aly:p.funcs.length<=16:=(QX QY).f
     have hLB:=QN HU.gd (by have:=HU.ng;omega) (λs hs v hv=>⟨((HU.ok.sigs s hs).2 v hv),HU.gd.ps s hs v hv⟩) hR
     have Wh:=Bc bs hR
     have HV:∀k (h:k<bs.length) (h2:k<(aQ p).sigs.length) cs ss n,B8 cs ss n ((aQ p).sigs.drop k) (bs.drop k)=if 4000<(cx ss.length (aQ p).sigs[k] bs[k]).vars.length\/2500<n+(cx ss.length (aQ p).sigs[k] bs[k]).is.length\/60<ss.length+(ij ss.length bs[k]).ss.length then .error bs[k].a
       else B8 (cs++[cx ss.length (aQ p).sigs[k] bs[k]]) (ss++(ij ss.length bs[k]).ss.map (λt=>⟨cs.length,t⟩)) (n+(cx ss.length (aQ p).sigs[k] bs[k]).is.length) ((aQ p).sigs.drop (k+1)) (bs.drop (k+1)):=λk h h2 cs ss n=>by
      rw[List.drop_eq_getElem_cons h,List.drop_eq_getElem_cons h2,yp]
     generalize aQ p=H at *
     generalize gW p=mn at *
     generalize hgV:H.globals=Hg at *
     refine bC Vp.eq_1 (λx:Nat×List AV=>⟨[(2,.fp 1 0),(3,.fp 2 0),(4,.fp 3 0),(7,.val (.ptr 0 0 0 0)),(45,.val GV),(46,.val (.int .i64 Hg.length)),(47,.val (.int .i64 x.1))],
       [[PR,PG,PF],[.U,.U,.U,.U,.int .i64 0],[.int .i64 0,.int .i64 0],[RV,GV,SV,.int .i64 mn,BV],[.int .i64 0,.int .i64 0],[.int .i64 0,.int .i64 0],x.2,[]],
       [.rows 0 12 [[RV,bQ 3 ((gl.take x.1).map T3.cells),.U,.U,.int .i64 mn,.int .i64 0,.U,.bool false,.int .i64 0,.int .i64 0,.int .i64 0,.U]]]⟩)
      (λx=>x.1<=gl.length) (λx=>gl.length-x.1) (0,[]) (by simp[bQ]) (by simp) ?_
     rintro⟨k,bx⟩ hk ih
     simp only at hk ih
     by_cases aZ:k<gl.length
     ·have rE:IntKind.i64.wrap ((k:Int)+1)=((k+1:Nat):Int):=by rw[wrap64]<;>omega
      have uE:k<Hg.length:=by omega
      have mw:k<(Hg.map Vd.row).length:=by simpa using uE
      obtain⟨nm,E5⟩:=hGr k aZ mw
      have ey:=λb=>ih (k+1,b) (by simp only;omega) (by simp only;omega)
      simp only[List.take_succ_eq_append_getElem aZ,List.map_append,List.map_cons,List.map_nil,T3.cells]at ey
      have hl:((gl.take k).map T3.cells).length=k:=by simp;omega
      have ho:∀r,bQ 3 ((gl.take k).map T3.cells++[r])=.own 3 ((gl.take k).map T3.cells++[r]):=λr=>by unfold bQ;rw[if_neg (by simp)]
      have ki:(k+1)*24<=room:=by unfold room;omega
      have ym:24<=room:=by decide
      generalize (gl.take k).map T3.cells=Lk at *
      rw[ho]at ey
      by_cases k0:Lk=[]
      ·rw[k0]at ey ⊢
       have o1:bQ 3 ([]:List (List AV))=.U:=rfl
       simp only[List.nil_append]at ey
       simp[uE,u4,u3,E5,o1,af,AV.view,aB,az,cut]
       simp[aI,fF,dz,bU,rE,af,AV.view,cut,fits,ym,bf,AV.ah,AV.an,AV.hJ]
       exact ey _
      ·have o1:bQ 3 Lk=.own 3 Lk:=by unfold bQ;rw[if_neg k0]
       rw[o1]
       simp[uE,u4,u3,E5,af,AV.view,aB,az,cut]
       simp[aI,fF,dz,bU,rE,hl,af,AV.view,cut,fits,ki,bf,AV.ah,AV.an,AV.hJ]
       exact ey _
     ·have iK:k=gl.length:=by omega
      subst iK
      rw[List.take_length]
      simp[hgn,w1,w2,w3,AV.view]
      obtain⟨B,hB⟩:∃B:List Cd->List Sd->Bl,B=λcs ss=>⟨RV,gl,cs,ss,mn,0,[],false,T0,[]⟩:=⟨_,rfl⟩
      have hX:∀cs ss t0 t1 t2 t3 t4 t5 t6 r,VK (B cs ss) t0 t1 t2 t3 t4 t5 t6 r=.rows 0 12 [[RV,bQ 3 (gl.map T3.cells),bQ 7 (cs.map Cd.row),bQ 4 (ss.map Sd.row),.int .i64 mn,t0,t1,t2,t3,t4,t5,t6]]::r:=λcs ss t0 t1 t2 t3 t4 t5 t6 r=>by rw[hB];rfl
      have hD:∀cs ss ns g bd,Ce (B cs ss) ns g bd=B (cs++[cx ns g bd]) (ss++(ij ns bd).ss.map (λt=>⟨cs.length,t⟩)):=λcs ss ns g bd=>by rw[hB];rfl
      have Vz:∀cs ss,(B cs ss).sites=ss/\(B cs ss).fZ=cs:=λcs ss=>by rw[hB];exact⟨rfl,rfl⟩
      clear hB
      have o7:bQ 7 ([]:List (List AV))=.U:=rfl
      have o4:bQ 4 ([]:List (List AV))=.U:=rfl
      refine bC Vq.eq_1 (λx:Nat×List Cd×List Sd×Nat×(AV×AV×AV×AV×AV×AV×AV)×aj×List AV×List AV=>⟨[(2,.fp 1 0),(3,.fp 2 0),(4,.fp 3 0),(7,.val (.ptr 0 0 0 0)),(10,.val (.int .i64 x.2.2.2.1)),(66,.val BV),(67,.val (.int .i64 bs.length)),(68,.val (.int .i64 x.1))],
        [[PR,PG,PF],[.U,.U,.U,.U,.int .i64 0],[.int .i64 0,.int .i64 0],[RV,GV,SV,.int .i64 mn,BV],[.int .i64 0,.int .i64 0],[.int .i64 0,.int .i64 0],x.2.2.2.2.2.2.1,x.2.2.2.2.2.2.2],
        .rows 0 12 [[RV,bQ 3 (gl.map T3.cells),bQ 7 (x.2.1.map Cd.row),bQ 4 (x.2.2.1.map Sd.row),.int .i64 mn,x.2.2.2.2.1.1,x.2.2.2.2.1.2.1,x.2.2.2.2.1.2.2.1,x.2.2.2.2.1.2.2.2.1,x.2.2.2.2.1.2.2.2.2.1,x.2.2.2.2.1.2.2.2.2.2.1,x.2.2.2.2.1.2.2.2.2.2.2]]::x.2.2.2.2.2.1⟩)
       (λx=>x.1<=bs.length/\x.2.1.length=x.1/\x.2.2.1.length<=60/\x.2.2.2.1<=2500/\B8 x.2.1 x.2.2.1 x.2.2.2.1 (H.sigs.drop x.1) (bs.drop x.1)=B8 [] [] 0 H.sigs bs) (λx=>bs.length-x.1)
       (0,[],[],0,(.int .i64 0,.U,.bool false,.int .i64 0,.int .i64 0,.int .i64 0,.U),[],bx,[]) (by simp[o7,o4]) ⟨by simp,rfl,by simp,by simp,rfl⟩ ?_
      rintro⟨k,cs,ss,n,⟨t0,y1,y2,y3,y4,y5,y6⟩,pre,bx6,bx7⟩ ⟨hk,nt,wW,Mc,hp⟩ ih
      simp only at hk nt wW Mc hp ih ⊢
      by_cases aZ:k<bs.length
      ·have rE:IntKind.i64.wrap ((k:Int)+1)=((k+1:Nat):Int):=by rw[wrap64]<;>omega
       have MN:k<H.sigs.length:=by omega
       have hm:=List.getElem_mem aZ
       obtain⟨hcz,vK⟩:=Wh _ hm
       have hLk:=hLB _ hm
       have hlb:k<(bs.map Bd.row).length:=by simpa using aZ
       have VI:(bs.map Bd.row)[k]'hlb=Bd.row bs[k]:=by simp
       have IG:k<(H.sigs.map Sg.row).length:=by simpa using MN
       have JD:(H.sigs.map Sg.row)[k]'IG=Sg.row H.sigs[k]:=by simp
       obtain⟨q1,q2⟩:=Vz cs ss
       have dh:=HT (B cs ss) pre H.sigs[k] bs[k] t0 y1 y2 y3 y4 y5 y6 hLk (by omega) (by rw[q1];omega) (by rw[q2];omega)
       rw[q1,hX,Uv,hD,hX]at dh
       obtain⟨l1,l2,l3⟩:=JM ss.length H.sigs[k] bs[k] hLk
       have L1:(cx ss.length H.sigs[k] bs[k]).params=H.sigs[k].ps.length:=rfl
       rw[HV k aZ MN]at hp
       have VB:IntKind.i64.wrap ((n:Int)+((cx ss.length H.sigs[k] bs[k]).is.length:Int))=((n+(cx ss.length H.sigs[k] bs[k]).is.length:Nat):Int):=by rw[wrap64]<;>omega
       obtain⟨g1',g2'⟩:aG (cj H.sigs[k].ps)=true/\(cj H.sigs[k].ps).view=cj H.sigs[k].ps:=⟨aX,aY⟩
       obtain⟨d1,d2⟩:aG (cj bs[k].vars)=true/\(cj bs[k].vars).view=cj bs[k].vars:=⟨aX,aY⟩
       obtain⟨d3,d4⟩:aG (br bs[k].code)=true/\(br bs[k].code).view=br bs[k].code:=⟨bE,bJ⟩
       have lv:aG (bQ 3 ((cx ss.length H.sigs[k] bs[k]).vars.map T3.cells))=true:=DK _ _
       have lr:aP (bQ 3 ((cx ss.length H.sigs[k] bs[k]).vars.map T3.cells))=(cx ss.length H.sigs[k] bs[k]).vars.map T3.cells:=Cf _ _
       have sv:aG (bQ 4 ((ss++(ij ss.length bs[k]).ss.map (λt=>(⟨cs.length,t⟩:Sd))).map Sd.row))=true:=DK _ _
       have sr:aP (bQ 4 ((ss++(ij ss.length bs[k]).ss.map (λt=>(⟨cs.length,t⟩:Sd))).map Sd.row))=(ss++(ij ss.length bs[k]).ss.map (λt=>(⟨cs.length,t⟩:Sd))).map Sd.row:=Cf _ _
       have sl:((ss++(ij ss.length bs[k]).ss.map (λt=>(⟨cs.length,t⟩:Sd))).map Sd.row).length=ss.length+(ij ss.length bs[k]).ss.length:=by simp
       have vl:((cx ss.length H.sigs[k] bs[k]).vars.map T3.cells).length=(cx ss.length H.sigs[k] bs[k]).vars.length:=by simp
       have il:((cx ss.length H.sigs[k] bs[k]).is.map In.row).length=(cx ss.length H.sigs[k] bs[k]).is.length:=by simp
       have dh:(aW S).call 0 0 13 [.ptr 0 0 0 0,.agg H.sigs[k].row,.agg bs[k].row] _=_:=dh
       simp only[Sg.row,Bd.row]at dh VI JD
       have QZ:((4000:Int)<((cx ss.length H.sigs[k] bs[k]).vars.length:Int))=(4000<(cx ss.length H.sigs[k] bs[k]).vars.length):=propext ⟨λ_=>by omega,λ_=>by omega⟩
       have Q0:((2500:Int)<((n+(cx ss.length H.sigs[k] bs[k]).is.length:Nat):Int))=(2500<n+(cx ss.length H.sigs[k] bs[k]).is.length):=propext ⟨λ_=>by omega,λ_=>by omega⟩
       have RM:((60:Int)<((ss.length+(ij ss.length bs[k]).ss.length:Nat):Int))=(60<ss.length+(ij ss.length bs[k]).ss.length):=propext ⟨λ_=>by omega,λ_=>by omega⟩
       obtain⟨n',NR⟩:∃n',n'=n+(cx ss.length H.sigs[k] bs[k]).is.length:=⟨_,rfl⟩
       obtain⟨s',zo⟩:∃s',s'=ss.length+(ij ss.length bs[k]).ss.length:=⟨_,rfl⟩
       rw[<-NR,<-zo]at hp
       rw[<-NR]at VB Q0
       rw[<-zo]at sl RM
       by_cases kk:4000<(cx ss.length H.sigs[k] bs[k]).vars.length\/2500<n'\/60<s'
       ·rw[if_pos kk]at hp
        rw[<-hp]
        simp only[YE]
        by_cases k1:4000<(cx ss.length H.sigs[k] bs[k]).vars.length
        ·rw[eq_true k1]at QZ
         clear Q0 RM NR zo ih l1 l2 l3 HV hp kk k1
         generalize cx ss.length H.sigs[k] bs[k]=c at *
         generalize ss++(ij ss.length bs[k]).ss.map (λt=>(⟨cs.length,t⟩:Sd))=YF at *
         generalize bQ 3 (c.vars.map T3.cells)=OV at *
         generalize bQ 4 (YF.map Sd.row)=OS at *
         generalize bQ 7 ((cs++[c]).map Cd.row)=OC at *
         generalize bQ 3 (gl.map T3.cells)=OG at *
         generalize H.sigs[k]=sg at *
         generalize bs[k]=bd at *
         generalize cj sg.ps=GP at *
         generalize cj bd.vars=BVs at *
         generalize br bd.code=BC at *
         simp[aZ,MN,VB,w4,w3,v4,v3,VI,JD,g2',d1,d2,d3,d4,dh,lv,lr,QZ,vl,il,af,AV.view,aB,az,cut]
        by_cases k2:2500<n'
        ·rw[eq_false k1]at QZ
         rw[eq_true k2]at Q0
         clear RM NR zo ih l1 l2 l3 HV hp kk k1 k2
         generalize cx ss.length H.sigs[k] bs[k]=c at *
         generalize ss++(ij ss.length bs[k]).ss.map (λt=>(⟨cs.length,t⟩:Sd))=YF at *
         generalize bQ 3 (c.vars.map T3.cells)=OV at *
         generalize bQ 4 (YF.map Sd.row)=OS at *
         generalize bQ 7 ((cs++[c]).map Cd.row)=OC at *
         generalize bQ 3 (gl.map T3.cells)=OG at *
         generalize H.sigs[k]=sg at *
         generalize bs[k]=bd at *
         generalize cj sg.ps=GP at *
         generalize cj bd.vars=BVs at *
         generalize br bd.code=BC at *
         simp[aZ,MN,VB,w4,w3,v4,v3,VI,JD,g2',d1,d2,d3,d4,dh,lv,lr,QZ,Q0,vl,il,af,AV.view,aB,az,cut]
        have k3:60<s':=by omega
        rw[eq_false k1]at QZ
        rw[eq_false k2]at Q0
        rw[eq_true k3]at RM
        clear NR zo ih l1 l2 l3 HV hp kk k1 k2 k3
        generalize cx ss.length H.sigs[k] bs[k]=c at *
        generalize ss++(ij ss.length bs[k]).ss.map (λt=>(⟨cs.length,t⟩:Sd))=YF at *
        generalize bQ 3 (c.vars.map T3.cells)=OV at *
        generalize bQ 4 (YF.map Sd.row)=OS at *
        generalize bQ 7 ((cs++[c]).map Cd.row)=OC at *
        generalize bQ 3 (gl.map T3.cells)=OG at *
        generalize H.sigs[k]=sg at *
        generalize bs[k]=bd at *
        generalize cj sg.ps=GP at *
        generalize cj bd.vars=BVs at *
        generalize br bd.code=BC at *
        simp[aZ,MN,VB,w4,w3,v4,v3,VI,JD,g2',d1,d2,d3,d4,dh,lv,lr,sv,sr,sl,QZ,Q0,RM,vl,il,af,AV.view,aB,az,cut]
       ·rw[if_neg kk]at hp
        have k1:¬4000<(cx ss.length H.sigs[k] bs[k]).vars.length:=λh=>kk (.inl h)
        have k2:¬2500<n':=λh=>kk (.inr (.inl h))
        have k3:¬60<s':=λh=>kk (.inr (.inr h))
        rw[eq_false k1]at QZ
        rw[eq_false k2]at Q0
        rw[eq_false k3]at RM
        have ey:=λa b c d e f g pre x6 x7=>ih (k+1,cs++[cx ss.length H.sigs[k] bs[k]],ss++(ij ss.length bs[k]).ss.map (λt=>(⟨cs.length,t⟩:Sd)),n',(a,b,c,d,e,f,g),pre,x6,x7)
         ⟨by simp only;omega,by simp[nt],by simp only[List.length_append,List.length_map];omega,by simp only;omega,hp⟩ (by simp only;omega)
        simp only at ey
        clear NR zo ih l1 l2 l3 HV hp kk k1 k2 k3
        generalize cx ss.length H.sigs[k] bs[k]=c at *
        generalize ss++(ij ss.length bs[k]).ss.map (λt=>(⟨cs.length,t⟩:Sd))=YF at *
        generalize bQ 3 (c.vars.map T3.cells)=OV at *
        generalize bQ 4 (YF.map Sd.row)=OS at *
        generalize bQ 7 ((cs++[c]).map Cd.row)=OC at *
        generalize bQ 3 (gl.map T3.cells)=OG at *
        generalize H.sigs[k]=sg at *
        generalize bs[k]=bd at *
        generalize cj sg.ps=GP at *
        generalize cj bd.vars=BVs at *
        generalize br bd.code=BC at *
        simp[aZ,MN,VB,w4,w3,v4,v3,VI,JD,g2',d1,d2,d3,d4,dh,lv,lr,sv,sr,sl,rE,QZ,Q0,RM,vl,il,af,AV.view,aB,az,cut]
        exact ey _ _ _ _ _ _ _ _ _ _
      ·have iK:k=bs.length:=by omega
       rw[iK,List.drop_length,Cg]at hp
       rw[<-hp,ah0,iK]
       have e1:=uu 3 (gl.map T3.cells)
       have e2:=uu 7 (cs.map Cd.row)
       have e3:=uu 4 (ss.map Sd.row)
       have p1:(aA 3 (gl.map T3.cells)).an=true:=om
       have p2:(aA 7 (cs.map Cd.row)).an=true:=om
       have p3:(aA 4 (ss.map Sd.row)).an=true:=om
       have n1:(aA 3 (gl.map T3.cells)).cv=true:=oh
       have n2:(aA 7 (cs.map Cd.row)).cv=true:=oh
       have n3:(aA 4 (ss.map Sd.row)).cv=true:=oh
       have m1:(aA 3 (gl.map T3.cells)).view=aA 3 (gl.map T3.cells):=aY
       have m2:(aA 7 (cs.map Cd.row)).view=aA 7 (cs.map Cd.row):=aY
       have m3:(aA 4 (ss.map Sd.row)).view=aA 4 (ss.map Sd.row):=aY
       generalize aA 3 (gl.map T3.cells)=LG at *
       generalize aA 7 (cs.map Cd.row)=LC at *
       generalize aA 4 (ss.map Sd.row)=LS at *
       generalize bQ 3 (gl.map T3.cells)=OG at *
       generalize bQ 7 (cs.map Cd.row)=OC at *
       generalize bQ 4 (ss.map Sd.row)=OS at *
       simp[e1,e2,e3,n1,n2,n3,t1,t2,af,AV.view,cut,bU,AV.cy]
end xD
