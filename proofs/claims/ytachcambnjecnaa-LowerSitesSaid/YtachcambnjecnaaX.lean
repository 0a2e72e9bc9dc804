/-
  A function, lowered.
-/
import Derived.Test.YtachcambnjecnaaW
import Derived.Test.YtachcambnjecnaaC
import Derived.Test.YtachcambnjecnaaS
import Derived.Test.YtachcambnjecnaaF

set_option maxRecDepth 100000
set_option maxHeartbeats 4000000
namespace yB
open Ax Go cz V7 kL lV wo
def Xl(b:Bl)(t0 t1 t2 t3 t4 t5 t6:AV)(r:aj):aj:=.rows 0 12 [[b.bG,bY 3 (b.Mp.map T3.cells),bY 7 (b.gy.map Cd.row),bY 4 (b.aI.map Sd.row),.int .i64 b.main,t0,t1,t2,t3,t4,t5,t6]]::r
def Jt(b:Bl)(g:Sg)(vs:List T3):Bl:={ b with params:=g.ps.length,vars:=vs,bO:=g.bO,br:=g.br,is:=[] }
theorem aae(b:Bl)(g:Sg)(vs:List T3)(pre:aj):gm (Jt b g vs) pre=Xl b (.int .i64 g.ps.length) (bY 3 (vs.map T3.cells)) (.bool g.bO) (.int .i64 g.br.b) (.int .i64 g.br.r) (.int .i64 g.br.d) .U pre:=by
 simp[gm,Bl.cells,KI,ye,Jt,Xl]
theorem I2(i:In)(wl:Nat)(st:aj):kI wl i.row st=some (i.row,st):=by
 have h1:=C4 i.args
 have h2:=C5 i.args
 have h3:=C6 i.args
 generalize hv:ou i.args=v at *
 have h4:qm wl v st=some (v,st):=by
  unfold qm
  split
  ·simp[AV.an]at h1
  ·rw[h1,h2,h3];rfl
 have fi:∀(n:Int) (s:aj),qm wl (.int .i64 n) s=some (.int .i64 n,s):=λ_ _=>rfl
 simp only[In.row,hv,kI,h4,fi]
theorem wu:∀(l:List In)(wl:Nat)(st:aj),lf wl (l.map In.row) st=some (l.map In.row,st)
 |[],_,_=>rfl
 |i::l,wl,st=>by
  simp only[List.map_cons,lf,I2,wu l]
def C7(b:Bl)(ns:Nat)(g:Sg)(bd:Bd):Bl:={ b with gy:=b.gy++[ct ns g bd],aI:=b.aI++(iq ns bd).ss.map (λt=>⟨b.gy.length,t⟩) }
def VT(c:Cd)(b:Bl)(pre:aj):aj:=Xl b (.int .i64 c.params) (bY 3 (c.vars.map T3.cells)) (.bool c.bO) (.int .i64 c.br.b) (.int .i64 c.br.r) (.int .i64 c.br.d) (.dj 6 (c.is.map In.row)) (pre++[.rows c.is.length 6 []])
theorem vF(sz:Nat)(l:List (List AV)):(bY sz l).view=aB sz l:=by
 unfold bY;cases l<;>simp[AV.view,aB,cD]
theorem Oc(sz:Nat)(l:List (List AV)):(bY sz l).an=true:=by
 unfold bY;cases l<;>simp[AV.an]
theorem I3(b:Bl)(pre:aj)(g:Sg)(bd:Bd)(t0 t1 t2 t3 t4 t5 t6:AV)(hL:LB bd.code)(hn:bd.vars.length+2*Sm.eA bd.code+10<1000000000)(hs:b.aI.length+2*Sm.eA bd.code+10<1000000000)(hc:b.gy.length<1000000) :
  (bg S).call 0 0 13 [pB,.agg g.row,.agg bd.row] (Xl b t0 t1 t2 t3 t4 t5 t6 pre)=some (.fK [],VT (ct b.aI.length g bd) (C7 b b.aI.length g bd) pre):=by
 have Ot:Fb (Jt b g (bd.vars.map (·.ty))) (2*Sm.eA bd.code+3):=⟨by simp[Jt];omega,by simp[Jt];omega,by simp[Jt];omega⟩
 have VU:=fB bd.code (λs _=>sP s) (Jt b g (bd.vars.map (·.ty))) pre hL (Ot.le (by omega))
 have GJ:=IZ hL bd.vars.length 0 b.aI.length
 have hf2:=Ot.plus GJ
 have e0:(Jt b g (bd.vars.map (·.ty))).vars.length=bd.vars.length:=by simp[Jt]
 have e0i:(Jt b g (bd.vars.map (·.ty))).is.length=0:=rfl
 have e0s:(Jt b g (bd.vars.map (·.ty))).aI.length=b.aI.length:=rfl
 rw[e0,e0i,e0s]at VU
 obtain⟨bo,hbo⟩:∃o,o=cB bd.vars.length 0 b.aI.length bd.code:=⟨_,rfl⟩
 rw[<-hbo]at VU GJ hf2
 have hbO:iq b.aI.length bd=bo:=hbo.symm
 obtain⟨b2,T7⟩:∃b2,b2=(Jt b g (bd.vars.map (·.ty))).plus bo:=⟨_,rfl⟩
 rw[<-T7]at VU hf2
 have hv2:b2.vars.length=bd.vars.length+bo.vs.length:=by rw[T7];simp[Bl.plus,Jt]
 obtain⟨b3,I1⟩:∃b3:Bl,b3={ b2 with vars:=b2.vars++(if g.bO then [g.br] else []),is:=b2.is++Gf g (bd.vars.length+bo.vs.length) }:=⟨_,rfl⟩
 have c1:(ct b.aI.length g bd).vars=b3.vars:=by rw[I1,T7];simp[ct,hbO,Bl.plus,Jt]
 have c2:(ct b.aI.length g bd).is=b3.is:=by rw[I1,T7];simp[ct,hbO,Bl.plus,Jt]
 have c3:b3.aI=(C7 b b.aI.length g bd).aI:=by rw[I1,T7];simp[C7,hbO,Bl.plus,Jt]
 have c4:b3.gy=b.gy:=by rw[I1,T7];rfl
 have c5:b3.bG=b.bG/\b3.Mp=b.Mp/\b3.main=b.main/\b3.params=g.ps.length/\b3.bO=g.bO/\b3.br=g.br:=by rw[I1,T7];exact⟨rfl,rfl,rfl,rfl,rfl,rfl⟩
 have ku:b3.is≠[]:=by
  intro q
  rw[I1]at q
  have q:b2.is++Gf g (bd.vars.length+bo.vs.length)=[]:=q
  have:=(List.append_eq_nil_iff.1 q).2
  unfold Gf at this
  split at this<;>cases this
 have hex:=KJ b3 pre ku
 have h5:=wu b3.is 0
 have JH:¬b3.is.map In.row=[]:=by simpa using ku
 have aeJ:b3.is.length-1+1=b3.is.length:=by have:=List.length_pos_iff.2 ku;omega
 have KF:Cd.row (ct b.aI.length g bd)=[.int .i64 g.ps.length,aB 3 (b3.vars.map T3.cells),.bool g.bO,.int .i64 g.br.b,.int .i64 g.br.r,.int .i64 g.br.d,.dj 6 (b3.is.map In.row)]:=by
  unfold Cd.row
  rw[c1,c2]
  have:aB 6 (b3.is.map In.row)=.dj 6 (b3.is.map In.row):=by cases hh:b3.is.map In.row with|nil=>exact absurd hh JH|cons a l=>rfl
  rw[this];rfl
 have yb:VT (ct b.aI.length g bd) (C7 b b.aI.length g bd) pre=.rows 0 12 [[b.bG,bY 3 (b.Mp.map T3.cells),.je 7 (b.gy.map Cd.row++[Cd.row (ct b.aI.length g bd)]),bY 4 (b3.aI.map Sd.row),.int .i64 b.main,
   .int .i64 g.ps.length,bY 3 (b3.vars.map T3.cells),.bool g.bO,.int .i64 g.br.b,.int .i64 g.br.r,.int .i64 g.br.d,.dj 6 (b3.is.map In.row)]]::(pre++[.rows b3.is.length 6 []]):=by
  unfold VT Xl
  rw[c1,c2,<-c3]
  have:bY 7 ((C7 b b.aI.length g bd).gy.map Cd.row)=.je 7 (b.gy.map Cd.row++[Cd.row (ct b.aI.length g bd)]):=by simp[C7,bY]
  rw[this];rfl
 rw[KF]at yb
 have rf:=λwl li st=>K9.Kx wl li g.br st
 have p1:aJ (cw g.ps)=true:=bp
 have p2:(cw g.ps).view=cw g.ps:=bq
 have p3:aZ (cw g.ps)=g.ps.map Vd.row:=aT
 have v1:aJ (cw bd.vars)=true:=bp
 have v2:(cw bd.vars).view=cw bd.vars:=bq
 have v3:aZ (cw bd.vars)=bd.vars.map Vd.row:=aT
 have v4:dc 4 (cw bd.vars)=true:=zL (by simp[bU,Vd.row])
 have s1:aJ (bD bd.code)=true:=bL
 have s2:(bD bd.code).view=bD bd.code:=bR
 rw[yb]
 refine ax (sf:=s13) rfl rfl rfl ?_
 simp only[Sg.row,Bd.row]
 generalize cw g.ps=PV at *
 generalize cw bd.vars=FV at *
 generalize bD bd.code=SV at *
 simp[s13,p1,p2,p3,v1,v2,v3,s1,fQ.bz,AV.view,pB,Xl,cut,af,bh,AV.ah,AV.an]
 obtain⟨Lf,hLf⟩:∃Lf:Nat->List (List AV),Lf=λk=>(bd.vars.take k).map (λv=>[.int .i64 v.ty.b,.int .i64 v.ty.r,.int .i64 v.ty.d]):=⟨_,rfl⟩
 have aeL:∀k,k<=bd.vars.length->(Lf k).length=k:=λk hk=>by rw[hLf];simp;omega
 have hLS:∀k (h:k<bd.vars.length),Lf (k+1)=Lf k++[[.int .i64 bd.vars[k].ty.b,.int .i64 bd.vars[k].ty.r,.int .i64 bd.vars[k].ty.d]]:=λk h=>by
  rw[hLf];simp only;rw[List.take_succ_eq_append_getElem h,List.map_append];rfl
 have hOE:bY 3 ((bd.vars.map (·.ty)).map T3.cells)=bY 3 (Lf bd.vars.length):=by rw[hLf];simp only[List.take_length,List.map_map];rfl
 have hL0:bY 3 (Lf 0)=.U:=by rw[hLf];rfl
 clear hLf
 rw[aae,hOE,Xl]at VU
 refine bM Qs.eq_1 (λx:Nat×List AV=>⟨[(0,.val (.ptr 0 0 0 0)),(4,.fp 0 0),(5,.fp 1 0),(22,.val FV),(23,.val (.int .i64 bd.vars.length)),(24,.val (.int .i64 x.1))],
   [[.str g.nm,PV,.bool g.bO,.int .i64 g.br.b,.int .i64 g.br.r,.int .i64 g.br.d],[FV,SV,.int .i64 bd.a],x.2],
   .rows 0 12 [[b.bG,bY 3 (b.Mp.map T3.cells),bY 7 (b.gy.map Cd.row),bY 4 (b.aI.map Sd.row),.int .i64 b.main,.int .i64 g.ps.length,bY 3 (Lf x.1),.bool g.bO,.int .i64 g.br.b,.int .i64 g.br.r,.int .i64 g.br.d,.U]]::pre⟩)
  (λx=>x.1<=bd.vars.length) (λx=>bd.vars.length-x.1) (0,[]) (by simp[hL0]) (by simp) ?_
 rintro⟨k,bx⟩ hk ih
 simp only at hk ih
 by_cases bn:k<bd.vars.length
 ·have tE:IntKind.i64.wrap ((k:Int)+1)=((k+1:Nat):Int):=by rw[aY]<;>omega
  have hg:(bd.vars.map Vd.row)[k]?=some (Vd.row bd.vars[k]):=by simp[bn]
  have oo:k<(bd.vars.map Vd.row).length:=by simpa using bn
  have Gb:(bd.vars.map Vd.row)[k]'oo=Vd.row bd.vars[k]:=by simp
  have eU:=λb=>ih (k+1,b) (by simp only;omega) (by simp only;omega)
  simp only at eU
  have hl:=aeL k hk
  have ho:bY 3 (Lf (k+1))=.je 3 (Lf k++[[.int .i64 bd.vars[k].ty.b,.int .i64 bd.vars[k].ty.r,.int .i64 bd.vars[k].ty.d]]):=by rw[hLS k bn];unfold bY;rw[if_neg (by simp)]
  rw[ho]at eU
  have mR:(k+1)*24<=dQ:=by unfold dQ;omega
  have C8:24<=dQ:=by decide
  simp only[Vd.row,T3.cells]at hg Gb
  by_cases k0:Lf k=[]
  ·rw[k0]at eU ⊢
   have o1:bY 3 ([]:List (List AV))=.U:=rfl
   simp only[List.nil_append]at eU
   simp[bn,v4,v3,Gb,o1,af,AV.view,aC,aA,cut]
   simp[aL,fY,dR,b9,tE,af,AV.view,cut,bU,C8,bh,AV.ah,AV.an,AV.iM]
   exact eU _
  ·have o1:bY 3 (Lf k)=.je 3 (Lf k):=by unfold bY;rw[if_neg k0]
   rw[o1]
   simp[bn,v4,v3,Gb,af,AV.view,aC,aA,cut]
   simp[aL,fY,dR,b9,tE,hl,af,AV.view,cut,bU,mR,bh,AV.ah,AV.an,AV.iM]
   exact eU _
 ·have jq:k=bd.vars.length:=by omega
  have aeM:ou []=.U:=rfl
  have anq:b2.is.length<1000000000-2:=by have:=hf2.2.1;omega
  have hz:b3.is.length-1+1=b3.is.length:=aeJ
  have mR:(b.gy.length+1)*88<=dQ:=by unfold dQ;omega
  subst jq
  have C8:88<=dQ:=by decide
  have TE:(b.gy.map Cd.row).length=b.gy.length:=by simp
  have q1:=vF 3 (b3.vars.map T3.cells)
  have q2:=Oc 3 (b3.vars.map T3.cells)
  have q3:(aB 3 (b3.vars.map T3.cells)).an=true:=oY
  have q4:(aB 3 (b3.vars.map T3.cells)).cH=true:=oX
  have q5:(aB 3 (b3.vars.map T3.cells)).view=aB 3 (b3.vars.map T3.cells):=bq
  have anr:(.rows 0 12 [[b.bG,bY 3 (b.Mp.map T3.cells),bY 7 (b.gy.map Cd.row),bY 4 (b3.aI.map Sd.row),.int .i64 b.main,.int .i64 g.ps.length,bY 3 (b3.vars.map T3.cells),.bool g.bO,.int .i64 g.br.b,.int .i64 g.br.r,.int .i64 g.br.d,
    .mu (pre.length+1) (b3.is.length-1)]]::(pre++[.rows (b3.is.length-1) 6 (b3.is.map In.row)])).length=pre.length+2:=by simp
  have kJ:∀b0 b1 b2:List AV,W S 0 0 [] (HQ [] Mode.Ds (.rows 0 12 [[b.bG,bY 3 (b.Mp.map T3.cells),bY 7 (b.gy.map Cd.row),bY 4 (b.aI.map Sd.row),.int .i64 b.main,t0,t1,t2,t3,t4,t5,t6]]::pre)
    (.fK [],.rows 0 12 [[b.bG,bY 3 (b.Mp.map T3.cells),.je 7 (b.gy.map Cd.row++[[.int .i64 g.ps.length,aB 3 (b3.vars.map T3.cells),.bool g.bO,.int .i64 g.br.b,.int .i64 g.br.r,.int .i64 g.br.d,.dj 6 (b3.is.map In.row)]]),bY 4 (b3.aI.map Sd.row),.int .i64 b.main,
     .int .i64 g.ps.length,bY 3 (b3.vars.map T3.cells),.bool g.bO,.int .i64 g.br.b,.int .i64 g.br.r,.int .i64 g.br.d,.dj 6 (b3.is.map In.row)]]::(pre++[.rows b3.is.length 6 []])))
    [Cb.code (bQ.vI 0 11),Cb.code (.region [.o 64 .move [.t 0],.o 65 .move [.t 0],.o 66 .nilCheck [.t 65],
     .o 67 (.fieldAddr 0) [.T 66],.o 68 (.fieldAddr 2) [.T 67],.o 69 (.load false 1 true) [.T 68],.o 70 .move [.t 0],.o 71 .nilCheck [.t 70],
     .o 72 (.fieldAddr 5) [.T 71],.o 73 (.load true 7 false) [.T 72],
     .o 74 (.lit 7 1 [.int .i64 0,.U,.bool false,.int .i64 0,.int .i64 0,.int .i64 0,.U] [0]) [.T 73],.o 75 (.append 7 88) [.T 69,.T 74],
     .o 76 .nilCheck [.t 64],.o 77 (.fieldAddr 0) [.T 76],.o 78 (.fieldAddr 2) [.T 77],.n (.store 1) [.T 78,.T 75]] (some [(9,5)]) [0,64,65,70])]
    Ex.normal ⟨[(0,.val (.ptr 0 0 0 0))],[b0,b1,b2],.rows 0 12 [[b.bG,bY 3 (b.Mp.map T3.cells),bY 7 (b.gy.map Cd.row),bY 4 (b3.aI.map Sd.row),.int .i64 b.main,.int .i64 g.ps.length,bY 3 (b3.vars.map T3.cells),.bool g.bO,.int .i64 g.br.b,.int .i64 g.br.r,.int .i64 g.br.d,
    .mu (pre.length+1) (b3.is.length-1)]]::(pre++[.rows (b3.is.length-1) 6 (b3.is.map In.row)])⟩:=by
   intro b0 b1 b2
   rw[Yp]
   refine⟨0,0,0,0,.mu (pre.length+1) (b3.is.length-1),.dj 6 (b3.is.map In.row),.rows 0 12 [[b.bG,bY 3 (b.Mp.map T3.cells),bY 7 (b.gy.map Cd.row),bY 4 (b3.aI.map Sd.row),.int .i64 b.main,.int .i64 g.ps.length,bY 3 (b3.vars.map T3.cells),.bool g.bO,.int .i64 g.br.b,.int .i64 g.br.r,.int .i64 g.br.d,
    .mu (pre.length+1) (b3.is.length-1)]]::(pre++[.rows b3.is.length 6 []]),.rows 0 12 [[b.bG,bY 3 (b.Mp.map T3.cells),bY 7 (b.gy.map Cd.row),bY 4 (b3.aI.map Sd.row),.int .i64 b.main,.int .i64 g.ps.length,bY 3 (b3.vars.map T3.cells),.bool g.bO,.int .i64 g.br.b,.int .i64 g.br.r,.int .i64 g.br.d,
    .dj 6 (b3.is.map In.row)]]::(pre++[.rows b3.is.length 6 []]),rfl,by simp[fY,cut],?_,by simp[dR,bh,af],?_⟩
   ·simp[oD,jL,h5,hz,ku]
   generalize hCR:b.gy.map Cd.row=CR at *
   generalize hMR:b3.is.map In.row=MR at *
   generalize aB 3 (b3.vars.map T3.cells)=LV3 at *
   generalize bY 3 (b3.vars.map T3.cells)=OV3 at *
   generalize bY 4 (b3.aI.map Sd.row)=OS3 at *
   generalize bY 3 (b.Mp.map T3.cells)=OG at *
   by_cases yH:CR=[]
   ·have e0:bY 7 CR=.U:=by rw[yH];rfl
    rw[e0,yH]
    rw[sy]
    simp[dJ,iy,dm,bw,fQ.bz,aL,fY,dR,b9,af,AV.view,AV.cL,cut,bU,C8,bh,AV.ah,AV.an,AV.iM,q1,q3,q4,q5]
    refine⟨_,_,⟨rfl,rfl⟩,?_⟩
    simp[eG.fU,AV.fU,AV.qh,zg,jI,AV.cL,AV.view,q1]
   ·have e0:bY 7 CR=.je 7 CR:=by unfold bY;rw[if_neg yH]
    rw[e0]
    rw[sy]
    simp[dJ,iy,dm,bw,fQ.bz,aL,fY,dR,b9,af,AV.view,AV.cL,cut,bU,TE,mR,bh,AV.ah,AV.an,AV.iM,q1,q3,q4,q5]
    refine⟨_,_,⟨rfl,rfl⟩,?_⟩
    simp[eG.fU,AV.fU,AV.qh,zg,jI,AV.cL,AV.view,q1]
  cases hh:g.bO with
  |false=>
   have ha:=ov b2 pre ⟨18,-1,0,0,0,[]⟩ (by omega)
   have e3:{ b2 with is:=b2.is++[⟨18,-1,0,0,0,[]⟩] }=b3:=by rw[I1,hh];simp[Gf,hh]
   rw[e3,hex]at ha
   simp only[In.row,aeM,pB,c4,c5.1,c5.2.1,c5.2.2.1,c5.2.2.2.1,c5.2.2.2.2.1,c5.2.2.2.2.2,hh]at ha
   simp only[hh,pB]at VU
   rw[hh]at kJ
   clear hex e3 yb KF
   generalize bY 3 (Lf bd.vars.length)=OV at *
   generalize gm b2 pre=lZ at *
   simp[VU,ha,s2,af,AV.view,cut]
   exact kJ _ _ _
  |true=>
   have ht:=λli=>Gj li b2 pre g.br (by have:=hf2.1;omega)
   have ha1:=ov { b2 with vars:=b2.vars++[g.br] } pre ⟨if xM g.br then 2 else 1,(b2.vars.length:Int),0,0,0,[]⟩ (by show b2.is.length<_;omega)
   have X6:=ov { b2 with vars:=b2.vars++[g.br],is:=b2.is++[⟨if xM g.br then 2 else 1,(b2.vars.length:Int),0,0,0,[]⟩] } pre ⟨18,(b2.vars.length:Int),0,0,0,[]⟩ (by show (b2.is++[_]).length<_;simp;omega)
   have e3:{ b2 with vars:=b2.vars++[g.br],is:=b2.is++[⟨if xM g.br then 2 else 1,(b2.vars.length:Int),0,0,0,[]⟩]++[⟨18,(b2.vars.length:Int),0,0,0,[]⟩] }=b3:=by rw[I1,hh,<-hv2];simp[Gf,hh]
   simp only[e3]at X6
   rw[hex]at X6
   simp only[In.row,aeM,pB,c4,c5.1,c5.2.1,c5.2.2.1,c5.2.2.2.1,c5.2.2.2.2.1,c5.2.2.2.2.2,hh]at ha1 X6
   simp only[hh,pB]at VU
   simp only[pB,T3.cells]at ht
   rw[hh]at kJ
   clear hex e3 yb KF
   generalize bY 3 (Lf bd.vars.length)=OV at *
   generalize gm { b2 with vars:=b2.vars++[g.br],is:=b2.is++[⟨if xM g.br then 2 else 1,(b2.vars.length:Int),0,0,0,[]⟩] } pre=st4 at *
   generalize gm { b2 with vars:=b2.vars++[g.br] } pre=st3 at *
   generalize gm b2 pre=lZ at *
   cases hr:xM g.br with
   |false=>
    simp only[hr,Bool.false_eq_true,if_false]at ha1
    simp[VU,rf,hr,ht,ha1,X6,s2,af,AV.view,cut]
    exact kJ _ _ _
   |true=>
    simp only[hr,if_true]at ha1
    simp[VU,rf,hr,ht,ha1,X6,s2,af,AV.view,cut]
    exact kJ _ _ _
end yB
namespace yB
open Ax Go cz V7 kL lV wo
open K9 (uA nK iG CZ)
open N7 (kO)
def jB(p:Pg):Bool:=decide (12<p.bG.length)||decide (8<p.globals.length)||decide (16<p.funcs.length)||p.bG.any (λr=>decide (8<r.cq.length))||p.funcs.any (λf=>decide (6<f.params.length))
theorem Sk(wl aa:Nat)(p:Pg)(st:aj)(h1:p.bG.length<1000000000)(h3:p.funcs.length<1000000000) :
  (bg S).call wl aa 12 [.agg p.row] st=some (.bool (jB p),st):=by
 refine b8 (sf:=s12) rfl rfl (by simp[Pg.row,AV.ah,AV.an]) rfl rfl ?_
 have r1:aJ (aB 3 (p.bG.map Rc.row))=true:=bp
 have r2:(aB 3 (p.bG.map Rc.row)).view=aB 3 (p.bG.map Rc.row):=bq
 have r3:aZ (aB 3 (p.bG.map Rc.row))=p.bG.map Rc.row:=aT
 have r4:dc 3 (aB 3 (p.bG.map Rc.row))=true:=zL (by simp[bU,Rc.row])
 have f1:aJ (aB 7 (p.funcs.map Fc.row))=true:=bp
 have f2:(aB 7 (p.funcs.map Fc.row)).view=aB 7 (p.funcs.map Fc.row):=bq
 have f3:aZ (aB 7 (p.funcs.map Fc.row))=p.funcs.map Fc.row:=aT
 have f4:dc 7 (aB 7 (p.funcs.map Fc.row))=true:=zL (by simp[bU,Fc.row])
 have g1:aJ (aB 4 (p.globals.map PD.cells))=true:=bp
 have g2:(aB 4 (p.globals.map PD.cells)).view=aB 4 (p.globals.map PD.cells):=bq
 have g3:aZ (aB 4 (p.globals.map PD.cells))=p.globals.map PD.cells:=aT
 simp only[Pg.row]
 generalize aB 3 (p.bG.map Rc.row)=PR at *
 generalize aB 7 (p.funcs.map Fc.row)=PF at *
 generalize aB 4 (p.globals.map PD.cells)=PG at *
 by_cases q1:(12:Int)<(p.bG.length:Int)
 ·have:jB p=true:=by unfold jB;rw[decide_eq_true (by omega:12<p.bG.length)];rfl
  rw[this]
  simp[s12,r1,r2,r3,f1,g1,AV.view,q1]
 by_cases q2:(8:Int)<(p.globals.length:Int)
 ·have:jB p=true:=by unfold jB;rw[decide_eq_true (by omega:8<p.globals.length)];simp
  rw[this]
  simp[s12,r1,r2,r3,f1,g1,g2,g3,AV.view,q1,q2]
 by_cases q3:(16:Int)<(p.funcs.length:Int)
 ·have:jB p=true:=by unfold jB;rw[decide_eq_true (by omega:16<p.funcs.length)];simp
  rw[this]
  simp[s12,r1,r2,r3,f1,f2,f3,g1,g2,g3,AV.view,q1,q2,q3]
 have hG:jB p=(p.bG.any (λr=>decide (8<r.cq.length))||p.funcs.any (λf=>decide (6<f.params.length))):=by
  unfold jB
  rw[decide_eq_false (by omega:¬12<p.bG.length),decide_eq_false (by omega:¬8<p.globals.length),decide_eq_false (by omega:¬16<p.funcs.length)];rfl
 simp[s12,r1,r2,r3,f1,f2,f3,g1,g2,g3,AV.view,q1,q2,q3]
 refine bM Qq.eq_1 (λx:Nat×List AV=>⟨[(1,.fp 0 0),(24,.val PR),(25,.val (.int .i64 p.bG.length)),(26,.val (.int .i64 x.1))],[[PR,PG,PF],x.2,[]],[]⟩)
  (λx=>x.1<=p.bG.length/\jB p=((p.bG.drop x.1).any (λr=>decide (8<r.cq.length))||p.funcs.any (λf=>decide (6<f.params.length)))) (λx=>p.bG.length-x.1) (0,[]) (by simp) ⟨by simp,by simpa using hG⟩ ?_
 rintro⟨k,bx⟩ ⟨hk,hp⟩ ih
 simp only at hk hp ih
 by_cases bn:k<p.bG.length
 ·have tE:IntKind.i64.wrap ((k:Int)+1)=((k+1:Nat):Int):=by rw[aY]<;>omega
  rw[List.drop_eq_getElem_cons bn]at hp
  have hg:(p.bG.map Rc.row)[k]?=some (Rc.row p.bG[k]):=by simp[bn]
  have oo:k<(p.bG.map Rc.row).length:=by simpa using bn
  have Gb:(p.bG.map Rc.row)[k]'oo=Rc.row p.bG[k]:=by simp
  have x1:aJ (aB 4 (p.bG[k].cq.map PD.cells))=true:=bp
  have x2:(aB 4 (p.bG[k].cq.map PD.cells)).view=aB 4 (p.bG[k].cq.map PD.cells):=bq
  have x3:aZ (aB 4 (p.bG[k].cq.map PD.cells))=p.bG[k].cq.map PD.cells:=aT
  simp only[Rc.row]at hg Gb
  by_cases c:(8:Int)<(p.bG[k].cq.length:Int)
  ·have:jB p=true:=by rw[hp,List.any_cons,decide_eq_true (by omega:8<p.bG[k].cq.length)];rfl
   rw[this]
   generalize aB 4 (p.bG[k].cq.map PD.cells)=XV at *
   simp[bn,r4,r3,Gb,x1,x2,x3,c,af,AV.view]
  ·rw[List.any_cons,decide_eq_false (by omega:¬8<p.bG[k].cq.length),Bool.false_or]at hp
   have eU:=λb=>ih (k+1,b) ⟨by simp only;omega,hp⟩ (by simp only;omega)
   simp only at eU
   generalize aB 4 (p.bG[k].cq.map PD.cells)=XV at *
   simp[bn,tE,r4,r3,Gb,x1,x2,x3,c,af,AV.view]
   exact eU _
 ·have jq:k=p.bG.length:=by omega
  rw[jq,List.drop_length]at hp
  have hG:jB p=p.funcs.any (λf=>decide (6<f.params.length)):=by simpa using hp
  simp[bn,f1,f2,f3,AV.view]
  refine bM Qr.eq_1 (λx:Nat×List AV×List AV=>⟨[(36,.val PF),(37,.val (.int .i64 p.funcs.length)),(38,.val (.int .i64 x.1))],[[PR,PG,PF],x.2.1,x.2.2],[]⟩)
   (λx=>x.1<=p.funcs.length/\jB p=(p.funcs.drop x.1).any (λf=>decide (6<f.params.length))) (λx=>p.funcs.length-x.1) (0,bx,[]) (by simp) ⟨by simp,by simpa using hG⟩ ?_
  rintro⟨k,bx1,bx⟩ ⟨hk,hp⟩ ih
  simp only at hk hp ih
  by_cases bn:k<p.funcs.length
  ·have tE:IntKind.i64.wrap ((k:Int)+1)=((k+1:Nat):Int):=by rw[aY]<;>omega
   rw[List.drop_eq_getElem_cons bn]at hp
   have hg:(p.funcs.map Fc.row)[k]?=some (Fc.row p.funcs[k]):=by simp[bn]
   have oo:k<(p.funcs.map Fc.row).length:=by simpa using bn
   have Gb:(p.funcs.map Fc.row)[k]'oo=Fc.row p.funcs[k]:=by simp
   have x1:aJ (aB 4 (p.funcs[k].params.map PD.cells))=true:=bp
   have x2:(aB 4 (p.funcs[k].params.map PD.cells)).view=aB 4 (p.funcs[k].params.map PD.cells):=bq
   have x3:aZ (aB 4 (p.funcs[k].params.map PD.cells))=p.funcs[k].params.map PD.cells:=aT
   have y1:aJ (bD p.funcs[k].body)=true:=bL
   have y2:(bD p.funcs[k].body).view=bD p.funcs[k].body:=bR
   simp only[Fc.row]at hg Gb
   by_cases c:(6:Int)<(p.funcs[k].params.length:Int)
   ·have:jB p=true:=by rw[hp,List.any_cons,decide_eq_true (by omega:6<p.funcs[k].params.length)];rfl
    rw[this]
    generalize aB 4 (p.funcs[k].params.map PD.cells)=XV at *
    generalize bD p.funcs[k].body=YV at *
    simp[bn,f4,f3,Gb,x1,x2,x3,y1,y2,c,af,AV.view]
   ·rw[List.any_cons,decide_eq_false (by omega:¬6<p.funcs[k].params.length),Bool.false_or]at hp
    have eU:=λa b=>ih (k+1,a,b) ⟨by simp only;omega,hp⟩ (by simp only;omega)
    simp only at eU
    generalize aB 4 (p.funcs[k].params.map PD.cells)=XV at *
    generalize bD p.funcs[k].body=YV at *
    simp[bn,tE,f4,f3,Gb,x1,x2,x3,y1,y2,c,af,AV.view]
    exact eU _ _
  ·have jq:k=p.funcs.length:=by omega
   rw[jq,List.drop_length]at hp
   rw[hp]
   simp[bn]
end yB
namespace yB
open Ax Go cz V7 kL lV wo
open K9 (uA nK iG CZ Z5)
open N7 U7
open S9 (Af Gd)
abbrev ZX:AV:=.agg [.U,.U,.U,.U,.int .i64 0]
def sR(H:Hd)(main:Int)(cs:List Cd)(ss:List Sd):List AV:=[aB 2 (H.cF.map iF),aB 3 (H.globals.map (λv=>v.ty.cells)),aB 7 (cs.map Cd.row),aB 4 (ss.map Sd.row),.int .i64 main]
def Xm(H:Hd)(main:Int)(r:Except Int (List Cd×List Sd)):AV:=match r with
 |.error a=>.fK [ZX,.agg [.int .i64 4,.int .i64 a]]
 |.ok (cs,ss)=>.fK [.agg (sR H main cs ss),.agg [.int .i64 0,.int .i64 0]]
def uF(p:Pg):AV:=match mK (kO p) with
 |some a=>.fK [ZX,.agg [.int .i64 3,.int .i64 a]]
 |none=>match q8 (aS p) (aS p).sigs p.funcs with
  |.error a=>.fK [ZX,.agg [.int .i64 3,.int .i64 a]]
  |.ok bs=>match Af p with
   |some a=>.fK [ZX,.agg [.int .i64 3,.int .i64 a]]
   |none=>if jB p then .fK [ZX,.agg [.int .i64 4,.int .i64 0]] else Xm (aS p) (iG p) (C2 [] [] 0 (aS p).sigs bs)
theorem EL(sz:Nat)(l:List (List AV)):aJ (bY sz l)=true:=by unfold bY;split<;>rfl
theorem C9(sz:Nat)(l:List (List AV)):aZ (bY sz l)=l:=by
 unfold bY
 split
 ·rename_i h;rw[h];rfl
 ·rfl
theorem Sl{p:Pg}(h:jB p=false):Few p:=by
 unfold jB at h
 simp only[Bool.or_eq_false_iff,decide_eq_false_iff_not,List.any_eq_false,decide_eq_true_eq]at h
 obtain⟨⟨⟨⟨h1,h2⟩,h3⟩,h4⟩,h5⟩:=h
 exact⟨by omega,by omega,by omega,λx hx=>by have:=h4 x hx;omega,λx hx=>by have:=h5 x hx;omega⟩
theorem rJ{cs:List Cd}{ss:List Sd}{all:Nat}{s:Sg}{sg:List Sg}{b:Bd}{bs:List Bd}:C2 cs ss all (s::sg) (b::bs) =
  if 4000<(ct ss.length s b).vars.length\/2500<all+(ct ss.length s b).is.length\/60<ss.length+(iq ss.length b).ss.length then .error b.a
  else C2 (cs++[ct ss.length s b]) (ss++(iq ss.length b).ss.map (λt=>⟨cs.length,t⟩)) (all+(ct ss.length s b).is.length) sg bs:=by
 (conv=>lhs;unfold C2)<;>rfl
theorem Da{cs:List Cd}{ss:List Sd}{all:Nat}{sg:List Sg}:C2 cs ss all sg []=.ok (cs,ss):=by cases sg<;>rfl
theorem KK(ns:Nat)(s:Sg)(b:Bd)(hL:LB b.code):(ct ns s b).vars.length<=b.vars.length+2*Sm.eA b.code+1/\(ct ns s b).is.length<=2*Sm.eA b.code+2/\(iq ns b).ss.length<=2*Sm.eA b.code:=by
 obtain⟨h1,h2,h3⟩:=IZ hL b.vars.length 0 ns
 refine⟨?_,?_,h3⟩
 ·show (b.vars.map (·.ty)++(cB b.vars.length 0 ns b.code).vs++(if s.bO then [s.br] else [])).length<=_
  cases s.bO<;>simp<;>omega
 ·show ((cB b.vars.length 0 ns b.code).is++Gf s _).length<=_
  unfold Gf
  cases s.bO<;>simp<;>omega
theorem FZ(wl aa:Nat)(p:Pg)(st:aj)(hg:(kO p).ok)(tD:GD.sm (kO p))(eH:∀f∈p.funcs,f.params.length+Sm.eA f.body<1000000000)
  (B9:∀bs,q8 (aS p) (aS p).sigs p.funcs=.ok bs->∀b∈bs,Sm.eA b.code<100000000/\b.vars.length<100000000) :
  (bg S).call wl aa 7 [.agg p.row] st=some (uF p,st):=by
 have ec:=λwl aa st=>K9.IQ wl aa p st hg tD eH
 have es:=λwl aa st=>S9.VJ wl aa p st hg tD eH λbs h b hb=>by have:=B9 bs h b hb;omega
 have J8:p.funcs.length<1000000000:=by have:=tD.funcs;rw[qH,List.length_map]at this;exact this
 have hrn:p.bG.length<1000000000:=by have:=tD.bG;rw[qG,List.length_map]at this;exact this
 have eg:=λwl aa st=>Sk wl aa p st hrn J8
 unfold uA at ec
 have r1:aJ (aB 3 (p.bG.map Rc.row))=true:=bp
 have r2:(aB 3 (p.bG.map Rc.row)).view=aB 3 (p.bG.map Rc.row):=bq
 have f1:aJ (aB 7 (p.funcs.map Fc.row))=true:=bp
 have f2:(aB 7 (p.funcs.map Fc.row)).view=aB 7 (p.funcs.map Fc.row):=bq
 have g1:aJ (aB 4 (p.globals.map PD.cells))=true:=bp
 have g2:(aB 4 (p.globals.map PD.cells)).view=aB 4 (p.globals.map PD.cells):=bq
 have Hf:(uF p).an=true:=by
  unfold uF Xm sR
  repeat' split
  all_goals simp[AV.an,AV.ah]
 refine b8 (sf:=s7) rfl rfl (by simp[Pg.row,AV.ah,AV.an]) rfl Hf ?_
 unfold uF
 simp only[Pg.row]at ec es eg ⊢
 generalize aB 3 (p.bG.map Rc.row)=PR at *
 generalize aB 7 (p.funcs.map Fc.row)=PF at *
 generalize aB 4 (p.globals.map PD.cells)=PG at *
 cases hF:mK (kO p) with
 |some a=>
  rw[hF]at ec
  simp[s7,ec,r1,r2,f1,f2,g1,g2,af,AV.view,aC,aA]
 |none=>
  rw[hF]at ec
  simp only at ec ⊢
  cases hR:q8 (aS p) (aS p).sigs p.funcs with
  |error a=>
   rw[hR]at ec
   simp only[CZ]at ec ⊢
   simp[s7,ec,r1,r2,f1,f2,g1,g2,af,AV.view,aC,aA]
  |ok bs=>
   rw[hR]at ec
   simp only[CZ,nK,List.cons_append,List.nil_append]at ec ⊢
   have t1:aJ (aB 2 ((aS p).cF.map iF))=true:=bp
   have t2:(aB 2 ((aS p).cF.map iF)).view=aB 2 ((aS p).cF.map iF):=bq
   have u1:aJ (cw (aS p).globals)=true:=bp
   have u2:(cw (aS p).globals).view=cw (aS p).globals:=bq
   have u3:aZ (cw (aS p).globals)=(aS p).globals.map Vd.row:=aT
   have u4:dc 4 (cw (aS p).globals)=true:=zL (by simp[bU,Vd.row])
   have v1:aJ (aB 6 ((aS p).sigs.map Sg.row))=true:=bp
   have v2:(aB 6 ((aS p).sigs.map Sg.row)).view=aB 6 ((aS p).sigs.map Sg.row):=bq
   have v3:aZ (aB 6 ((aS p).sigs.map Sg.row))=(aS p).sigs.map Sg.row:=aT
   have v4:dc 6 (aB 6 ((aS p).sigs.map Sg.row))=true:=zL (by simp[bU,Sg.row])
   have w1:aJ (aB 3 (bs.map Bd.row))=true:=bp
   have w2:(aB 3 (bs.map Bd.row)).view=aB 3 (bs.map Bd.row):=bq
   have w3:aZ (aB 3 (bs.map Bd.row))=bs.map Bd.row:=aT
   have w4:dc 3 (aB 3 (bs.map Bd.row))=true:=zL (by simp[bU,Bd.row])
   generalize hRV:aB 2 ((aS p).cF.map iF)=RV at *
   generalize cw (aS p).globals=GV at *
   generalize aB 6 ((aS p).sigs.map Sg.row)=SV at *
   generalize aB 3 (bs.map Bd.row)=BV at *
   cases hS:Af p with
   |some a=>
    rw[hS]at es
    simp only[Gd,S9.cE,S9.cX]at es
    simp[s7,ec,es,r1,r2,f1,f2,g1,g2,t1,t2,u1,u2,v1,v2,w1,w2,af,AV.view,aC,aA]
   |none=>
    rw[hS]at es
    simp only[Gd,S9.cE,S9.cX]at es
    cases hgr:jB p with
    |true=>
     rw[hgr]at eg
     simp[s7,ec,es,eg,r1,r2,f1,f2,g1,g2,t1,t2,u1,u2,v1,v2,w1,w2,af,AV.view]
    |false=>
     rw[hgr]at eg
     have I4:=VO hF (Sl hgr)
     simp[s7,ec,es,eg,r1,r2,f1,f2,g1,g2,t1,t2,u1,u2,u3,v1,v2,w1,w2,af,AV.view,fQ.bz]
     obtain⟨gl,S7⟩:∃l,l=(aS p).globals.map (·.ty):=⟨_,rfl⟩
     have hgn:(aS p).globals.length=gl.length:=by rw[S7];simp
     have ant:gl.length<1000000:=by rw[<-hgn];have:=I4.ng;omega
     have ajV:∀cs ss,Xm (aS p) (iG p) (.ok (cs,ss))=.fK [.agg [RV,aB 3 (gl.map T3.cells),aB 7 (cs.map Cd.row),aB 4 (ss.map Sd.row),.int .i64 (iG p)],.agg [.int .i64 0,.int .i64 0]]:=λcs ss=>by
      unfold Xm sR
      rw[hRV,S7,List.map_map];rfl
     have hGr:∀k (h:k<gl.length) (h2:k<((aS p).globals.map Vd.row).length),∃nm,((aS p).globals.map Vd.row)[k]=[.str nm,.int .i64 gl[k].b,.int .i64 gl[k].r,.int .i64 gl[k].d]:=λk h h2=>
      ⟨((aS p).globals[k]'(by omega)).nm,by simp[S7,Vd.row]⟩
     have hGl:((aS p).globals.map Vd.row).length=gl.length:=by simp[S7]
     have anv:RV.view=RV:=t2
     have dV:(aS p).sigs.length=p.funcs.length:=by simp[aS]
     have Tu:bs.length=p.funcs.length:=S9.xT dV hR
     have anw:p.funcs.length<=16:=(Sl hgr).f
     have hLB:=Sc I4.gd (by have:=I4.ng;omega) (λs hs v hv=>⟨((I4.ok.sigs s hs).2 v hv),I4.gd.ps s hs v hv⟩) hR
     have XY:=B9 bs hR
     have I5:∀k (h:k<bs.length) (h2:k<(aS p).sigs.length) cs ss n,C2 cs ss n ((aS p).sigs.drop k) (bs.drop k)=if 4000<(ct ss.length (aS p).sigs[k] bs[k]).vars.length\/2500<n+(ct ss.length (aS p).sigs[k] bs[k]).is.length\/60<ss.length+(iq ss.length bs[k]).ss.length then .error bs[k].a
       else C2 (cs++[ct ss.length (aS p).sigs[k] bs[k]]) (ss++(iq ss.length bs[k]).ss.map (λt=>⟨cs.length,t⟩)) (n+(ct ss.length (aS p).sigs[k] bs[k]).is.length) ((aS p).sigs.drop (k+1)) (bs.drop (k+1)):=λk h h2 cs ss n=>by
      rw[List.drop_eq_getElem_cons h,List.drop_eq_getElem_cons h2,rJ]
     generalize aS p=H at *
     generalize iG p=mn at *
     generalize hgV:H.globals=Hg at *
     refine bM WX.eq_1 (λx:Nat×List AV=>⟨[(2,.fp 1 0),(3,.fp 2 0),(4,.fp 3 0),(7,.val (.ptr 0 0 0 0)),(45,.val GV),(46,.val (.int .i64 Hg.length)),(47,.val (.int .i64 x.1))],
       [[PR,PG,PF],[.U,.U,.U,.U,.int .i64 0],[.int .i64 0,.int .i64 0],[RV,GV,SV,.int .i64 mn,BV],[.int .i64 0,.int .i64 0],[.int .i64 0,.int .i64 0],x.2,[]],
       [.rows 0 12 [[RV,bY 3 ((gl.take x.1).map T3.cells),.U,.U,.int .i64 mn,.int .i64 0,.U,.bool false,.int .i64 0,.int .i64 0,.int .i64 0,.U]]]⟩)
      (λx=>x.1<=gl.length) (λx=>gl.length-x.1) (0,[]) (by simp[bY]) (by simp) ?_
     rintro⟨k,bx⟩ hk ih
     simp only at hk ih
     by_cases bn:k<gl.length
     ·have tE:IntKind.i64.wrap ((k:Int)+1)=((k+1:Nat):Int):=by rw[aY]<;>omega
      have vO:k<Hg.length:=by omega
      have oo:k<(Hg.map Vd.row).length:=by simpa using vO
      obtain⟨nm,Gb⟩:=hGr k bn oo
      have eU:=λb=>ih (k+1,b) (by simp only;omega) (by simp only;omega)
      simp only[List.take_succ_eq_append_getElem bn,List.map_append,List.map_cons,List.map_nil,T3.cells]at eU
      have hl:((gl.take k).map T3.cells).length=k:=by simp;omega
      have ho:∀r,bY 3 ((gl.take k).map T3.cells++[r])=.je 3 ((gl.take k).map T3.cells++[r]):=λr=>by unfold bY;rw[if_neg (by simp)]
      have mR:(k+1)*24<=dQ:=by unfold dQ;omega
      have C8:24<=dQ:=by decide
      generalize (gl.take k).map T3.cells=Lk at *
      rw[ho]at eU
      by_cases k0:Lk=[]
      ·rw[k0]at eU ⊢
       have o1:bY 3 ([]:List (List AV))=.U:=rfl
       simp only[List.nil_append]at eU
       simp[vO,u4,u3,Gb,o1,af,AV.view,aC,aA,cut]
       simp[aL,fY,dR,b9,tE,af,AV.view,cut,bU,C8,bh,AV.ah,AV.an,AV.iM]
       exact eU _
      ·have o1:bY 3 Lk=.je 3 Lk:=by unfold bY;rw[if_neg k0]
       rw[o1]
       simp[vO,u4,u3,Gb,af,AV.view,aC,aA,cut]
       simp[aL,fY,dR,b9,tE,hl,af,AV.view,cut,bU,mR,bh,AV.ah,AV.an,AV.iM]
       exact eU _
     ·have jq:k=gl.length:=by omega
      subst jq
      rw[List.take_length]
      simp[hgn,w1,w2,w3,AV.view]
      obtain⟨B,hB⟩:∃B:List Cd->List Sd->Bl,B=λcs ss=>⟨RV,gl,cs,ss,mn,0,[],false,T0,[]⟩:=⟨_,rfl⟩
      have hX:∀cs ss t0 t1 t2 t3 t4 t5 t6 r,Xl (B cs ss) t0 t1 t2 t3 t4 t5 t6 r=.rows 0 12 [[RV,bY 3 (gl.map T3.cells),bY 7 (cs.map Cd.row),bY 4 (ss.map Sd.row),.int .i64 mn,t0,t1,t2,t3,t4,t5,t6]]::r:=λcs ss t0 t1 t2 t3 t4 t5 t6 r=>by rw[hB];rfl
      have hD:∀cs ss ns g bd,C7 (B cs ss) ns g bd=B (cs++[ct ns g bd]) (ss++(iq ns bd).ss.map (λt=>⟨cs.length,t⟩)):=λcs ss ns g bd=>by rw[hB];rfl
      have W9:∀cs ss,(B cs ss).aI=ss/\(B cs ss).gy=cs:=λcs ss=>by rw[hB];exact⟨rfl,rfl⟩
      clear hB
      have o7:bY 7 ([]:List (List AV))=.U:=rfl
      have o4:bY 4 ([]:List (List AV))=.U:=rfl
      refine bM WY.eq_1 (λx:Nat×List Cd×List Sd×Nat×(AV×AV×AV×AV×AV×AV×AV)×aj×List AV×List AV=>⟨[(2,.fp 1 0),(3,.fp 2 0),(4,.fp 3 0),(7,.val (.ptr 0 0 0 0)),(10,.val (.int .i64 x.2.2.2.1)),(66,.val BV),(67,.val (.int .i64 bs.length)),(68,.val (.int .i64 x.1))],
        [[PR,PG,PF],[.U,.U,.U,.U,.int .i64 0],[.int .i64 0,.int .i64 0],[RV,GV,SV,.int .i64 mn,BV],[.int .i64 0,.int .i64 0],[.int .i64 0,.int .i64 0],x.2.2.2.2.2.2.1,x.2.2.2.2.2.2.2],
        .rows 0 12 [[RV,bY 3 (gl.map T3.cells),bY 7 (x.2.1.map Cd.row),bY 4 (x.2.2.1.map Sd.row),.int .i64 mn,x.2.2.2.2.1.1,x.2.2.2.2.1.2.1,x.2.2.2.2.1.2.2.1,x.2.2.2.2.1.2.2.2.1,x.2.2.2.2.1.2.2.2.2.1,x.2.2.2.2.1.2.2.2.2.2.1,x.2.2.2.2.1.2.2.2.2.2.2]]::x.2.2.2.2.2.1⟩)
       (λx=>x.1<=bs.length/\x.2.1.length=x.1/\x.2.2.1.length<=60/\x.2.2.2.1<=2500/\C2 x.2.1 x.2.2.1 x.2.2.2.1 (H.sigs.drop x.1) (bs.drop x.1)=C2 [] [] 0 H.sigs bs) (λx=>bs.length-x.1)
       (0,[],[],0,(.int .i64 0,.U,.bool false,.int .i64 0,.int .i64 0,.int .i64 0,.U),[],bx,[]) (by simp[o7,o4]) ⟨by simp,rfl,by simp,by simp,rfl⟩ ?_
      rintro⟨k,cs,ss,n,⟨t0,y1,y2,y3,y4,y5,y6⟩,pre,bx6,bx7⟩ ⟨hk,n5,x9,Np,hp⟩ ih
      simp only at hk n5 x9 Np hp ih ⊢
      by_cases bn:k<bs.length
      ·have tE:IntKind.i64.wrap ((k:Int)+1)=((k+1:Nat):Int):=by rw[aY]<;>omega
       have Od:k<H.sigs.length:=by omega
       have hm:=List.getElem_mem bn
       obtain⟨hcz,BB⟩:=XY _ hm
       have hLk:=hLB _ hm
       have hlb:k<(bs.map Bd.row).length:=by simpa using bn
       have Xj:(bs.map Bd.row)[k]'hlb=Bd.row bs[k]:=by simp
       have JH:k<(H.sigs.map Sg.row).length:=by simpa using Od
       have KC:(H.sigs.map Sg.row)[k]'JH=Sg.row H.sigs[k]:=by simp
       obtain⟨q1,q2⟩:=W9 cs ss
       have dF:=I3 (B cs ss) pre H.sigs[k] bs[k] t0 y1 y2 y3 y4 y5 y6 hLk (by omega) (by rw[q1];omega) (by rw[q2];omega)
       rw[q1,hX,VT,hD,hX]at dF
       obtain⟨l1,l2,l3⟩:=KK ss.length H.sigs[k] bs[k] hLk
       have Nc:(ct ss.length H.sigs[k] bs[k]).params=H.sigs[k].ps.length:=rfl
       rw[I5 k bn Od]at hp
       have Xc:IntKind.i64.wrap ((n:Int)+((ct ss.length H.sigs[k] bs[k]).is.length:Int))=((n+(ct ss.length H.sigs[k] bs[k]).is.length:Nat):Int):=by rw[aY]<;>omega
       obtain⟨g1',g2'⟩:aJ (cw H.sigs[k].ps)=true/\(cw H.sigs[k].ps).view=cw H.sigs[k].ps:=⟨bp,bq⟩
       obtain⟨d1,d2⟩:aJ (cw bs[k].vars)=true/\(cw bs[k].vars).view=cw bs[k].vars:=⟨bp,bq⟩
       obtain⟨d3,d4⟩:aJ (bD bs[k].code)=true/\(bD bs[k].code).view=bD bs[k].code:=⟨bL,bR⟩
       have lv:aJ (bY 3 ((ct ss.length H.sigs[k] bs[k]).vars.map T3.cells))=true:=EL _ _
       have lr:aZ (bY 3 ((ct ss.length H.sigs[k] bs[k]).vars.map T3.cells))=(ct ss.length H.sigs[k] bs[k]).vars.map T3.cells:=C9 _ _
       have sv:aJ (bY 4 ((ss++(iq ss.length bs[k]).ss.map (λt=>(⟨cs.length,t⟩:Sd))).map Sd.row))=true:=EL _ _
       have sr:aZ (bY 4 ((ss++(iq ss.length bs[k]).ss.map (λt=>(⟨cs.length,t⟩:Sd))).map Sd.row))=(ss++(iq ss.length bs[k]).ss.map (λt=>(⟨cs.length,t⟩:Sd))).map Sd.row:=C9 _ _
       have sl:((ss++(iq ss.length bs[k]).ss.map (λt=>(⟨cs.length,t⟩:Sd))).map Sd.row).length=ss.length+(iq ss.length bs[k]).ss.length:=by simp
       have vl:((ct ss.length H.sigs[k] bs[k]).vars.map T3.cells).length=(ct ss.length H.sigs[k] bs[k]).vars.length:=by simp
       have il:((ct ss.length H.sigs[k] bs[k]).is.map In.row).length=(ct ss.length H.sigs[k] bs[k]).is.length:=by simp
       have dF:(bg S).call 0 0 13 [.ptr 0 0 0 0,.agg H.sigs[k].row,.agg bs[k].row] _=_:=dF
       simp only[Sg.row,Bd.row]at dF Xj KC
       have Sn:((4000:Int)<((ct ss.length H.sigs[k] bs[k]).vars.length:Int))=(4000<(ct ss.length H.sigs[k] bs[k]).vars.length):=propext ⟨λ_=>by omega,λ_=>by omega⟩
       have So:((2500:Int)<((n+(ct ss.length H.sigs[k] bs[k]).is.length:Nat):Int))=(2500<n+(ct ss.length H.sigs[k] bs[k]).is.length):=propext ⟨λ_=>by omega,λ_=>by omega⟩
       have Tn:((60:Int)<((ss.length+(iq ss.length bs[k]).ss.length:Nat):Int))=(60<ss.length+(iq ss.length bs[k]).ss.length):=propext ⟨λ_=>by omega,λ_=>by omega⟩
       obtain⟨n',Ph⟩:∃n',n'=n+(ct ss.length H.sigs[k] bs[k]).is.length:=⟨_,rfl⟩
       obtain⟨s',Am⟩:∃s',s'=ss.length+(iq ss.length bs[k]).ss.length:=⟨_,rfl⟩
       rw[<-Ph,<-Am]at hp
       rw[<-Ph]at Xc So
       rw[<-Am]at sl Tn
       by_cases kk:4000<(ct ss.length H.sigs[k] bs[k]).vars.length\/2500<n'\/60<s'
       ·rw[if_pos kk]at hp
        rw[<-hp]
        simp only[Xm]
        by_cases k1:4000<(ct ss.length H.sigs[k] bs[k]).vars.length
        ·rw[eq_true k1]at Sn
         clear So Tn Ph Am ih l1 l2 l3 I5 hp kk k1
         generalize ct ss.length H.sigs[k] bs[k]=c at *
         generalize ss++(iq ss.length bs[k]).ss.map (λt=>(⟨cs.length,t⟩:Sd))=ss' at *
         generalize bY 3 (c.vars.map T3.cells)=OV at *
         generalize bY 4 (ss'.map Sd.row)=OS at *
         generalize bY 7 ((cs++[c]).map Cd.row)=OC at *
         generalize bY 3 (gl.map T3.cells)=OG at *
         generalize H.sigs[k]=sg at *
         generalize bs[k]=bd at *
         generalize cw sg.ps=GP at *
         generalize cw bd.vars=BVs at *
         generalize bD bd.code=BC at *
         simp[bn,Od,Xc,w4,w3,v4,v3,Xj,KC,g2',d1,d2,d3,d4,dF,lv,lr,Sn,vl,il,af,AV.view,aC,aA,cut]
        by_cases k2:2500<n'
        ·rw[eq_false k1]at Sn
         rw[eq_true k2]at So
         clear Tn Ph Am ih l1 l2 l3 I5 hp kk k1 k2
         generalize ct ss.length H.sigs[k] bs[k]=c at *
         generalize ss++(iq ss.length bs[k]).ss.map (λt=>(⟨cs.length,t⟩:Sd))=ss' at *
         generalize bY 3 (c.vars.map T3.cells)=OV at *
         generalize bY 4 (ss'.map Sd.row)=OS at *
         generalize bY 7 ((cs++[c]).map Cd.row)=OC at *
         generalize bY 3 (gl.map T3.cells)=OG at *
         generalize H.sigs[k]=sg at *
         generalize bs[k]=bd at *
         generalize cw sg.ps=GP at *
         generalize cw bd.vars=BVs at *
         generalize bD bd.code=BC at *
         simp[bn,Od,Xc,w4,w3,v4,v3,Xj,KC,g2',d1,d2,d3,d4,dF,lv,lr,Sn,So,vl,il,af,AV.view,aC,aA,cut]
        have k3:60<s':=by omega
        rw[eq_false k1]at Sn
        rw[eq_false k2]at So
        rw[eq_true k3]at Tn
        clear Ph Am ih l1 l2 l3 I5 hp kk k1 k2 k3
        generalize ct ss.length H.sigs[k] bs[k]=c at *
        generalize ss++(iq ss.length bs[k]).ss.map (λt=>(⟨cs.length,t⟩:Sd))=ss' at *
        generalize bY 3 (c.vars.map T3.cells)=OV at *
        generalize bY 4 (ss'.map Sd.row)=OS at *
        generalize bY 7 ((cs++[c]).map Cd.row)=OC at *
        generalize bY 3 (gl.map T3.cells)=OG at *
        generalize H.sigs[k]=sg at *
        generalize bs[k]=bd at *
        generalize cw sg.ps=GP at *
        generalize cw bd.vars=BVs at *
        generalize bD bd.code=BC at *
        simp[bn,Od,Xc,w4,w3,v4,v3,Xj,KC,g2',d1,d2,d3,d4,dF,lv,lr,sv,sr,sl,Sn,So,Tn,vl,il,af,AV.view,aC,aA,cut]
       ·rw[if_neg kk]at hp
        have k1:¬4000<(ct ss.length H.sigs[k] bs[k]).vars.length:=λh=>kk (.inl h)
        have k2:¬2500<n':=λh=>kk (.inr (.inl h))
        have k3:¬60<s':=λh=>kk (.inr (.inr h))
        rw[eq_false k1]at Sn
        rw[eq_false k2]at So
        rw[eq_false k3]at Tn
        have eU:=λa b c d e f g pre x6 x7=>ih (k+1,cs++[ct ss.length H.sigs[k] bs[k]],ss++(iq ss.length bs[k]).ss.map (λt=>(⟨cs.length,t⟩:Sd)),n',(a,b,c,d,e,f,g),pre,x6,x7)
         ⟨by simp only;omega,by simp[n5],by simp only[List.length_append,List.length_map];omega,by simp only;omega,hp⟩ (by simp only;omega)
        simp only at eU
        clear Ph Am ih l1 l2 l3 I5 hp kk k1 k2 k3
        generalize ct ss.length H.sigs[k] bs[k]=c at *
        generalize ss++(iq ss.length bs[k]).ss.map (λt=>(⟨cs.length,t⟩:Sd))=ss' at *
        generalize bY 3 (c.vars.map T3.cells)=OV at *
        generalize bY 4 (ss'.map Sd.row)=OS at *
        generalize bY 7 ((cs++[c]).map Cd.row)=OC at *
        generalize bY 3 (gl.map T3.cells)=OG at *
        generalize H.sigs[k]=sg at *
        generalize bs[k]=bd at *
        generalize cw sg.ps=GP at *
        generalize cw bd.vars=BVs at *
        generalize bD bd.code=BC at *
        simp[bn,Od,Xc,w4,w3,v4,v3,Xj,KC,g2',d1,d2,d3,d4,dF,lv,lr,sv,sr,sl,tE,Sn,So,Tn,vl,il,af,AV.view,aC,aA,cut]
        exact eU _ _ _ _ _ _ _ _ _ _
      ·have jq:k=bs.length:=by omega
       rw[jq,List.drop_length,Da]at hp
       rw[<-hp,ajV,jq]
       have e1:=vF 3 (gl.map T3.cells)
       have e2:=vF 7 (cs.map Cd.row)
       have e3:=vF 4 (ss.map Sd.row)
       have p1:(aB 3 (gl.map T3.cells)).an=true:=oY
       have p2:(aB 7 (cs.map Cd.row)).an=true:=oY
       have p3:(aB 4 (ss.map Sd.row)).an=true:=oY
       have n1:(aB 3 (gl.map T3.cells)).cH=true:=oX
       have n2:(aB 7 (cs.map Cd.row)).cH=true:=oX
       have n3:(aB 4 (ss.map Sd.row)).cH=true:=oX
       have m1:(aB 3 (gl.map T3.cells)).view=aB 3 (gl.map T3.cells):=bq
       have m2:(aB 7 (cs.map Cd.row)).view=aB 7 (cs.map Cd.row):=bq
       have m3:(aB 4 (ss.map Sd.row)).view=aB 4 (ss.map Sd.row):=bq
       generalize aB 3 (gl.map T3.cells)=LG at *
       generalize aB 7 (cs.map Cd.row)=LC at *
       generalize aB 4 (ss.map Sd.row)=LS at *
       generalize bY 3 (gl.map T3.cells)=OG at *
       generalize bY 7 (cs.map Cd.row)=OC at *
       generalize bY 4 (ss.map Sd.row)=OS at *
       simp[e1,e2,e3,n1,n2,n3,t1,t2,af,AV.view,cut,b9,AV.cL]
end yB
