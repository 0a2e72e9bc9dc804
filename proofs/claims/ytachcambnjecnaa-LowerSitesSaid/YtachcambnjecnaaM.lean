/- Part of a proof. -/
import Derived.Test.YtachcambnjecnaaCode2
import Derived.Test.YtachcambnjecnaaP
import Derived.KernelRfl

set_option maxRecDepth 100000
set_option maxHeartbeats 4000000
namespace U7
open Ax Go cz V7
theorem It(wl aa:Nat)(l:AV)(s:List UInt8)(st:aj)(hl:sY l=true)(hn:(gp l).length<1000000000) :
  (bg S).call wl aa 69 [l,.str s] st=some (.int .i64 (tr (gp l) s),st):=by
 have h1:=AT hl
 have h2:=Cv hl
 have h3:=Q9 hl
 refine b8 (sf:=s69) rfl rfl (by simp[cC h1]) rfl (by simp) ?_
 simp[s69,h1,h2,h3]
 refine bM Kh.eq_1 (λq:Nat×Int=>⟨[(0,.val l),(1,.val (.str s)),(7,.val (.int .i64 (gp l).length)),(8,.val (.int .i64 q.1))],[],[]⟩)
  (λq=>q.1<=(gp l).length/\Ie (λx=>decide (x=s)) (gp l) q.1) (λq=>(gp l).length-q.1) (0,0) (by simp) ⟨by simp,yV⟩ ?_
 rintro⟨k,bb⟩ ⟨hk,hp⟩ ih
 simp only at hk hp ih
 by_cases bn:k<(gp l).length
 ·have hw:IntKind.i64.wrap ((k:Int)+1)=((k+1:Nat):Int):=by rw[aY]<;>omega
  by_cases e:(gp l)[k]=s
  ·have hi:=L1 hp bn e
   simp[hl,h2,h3,bn,e,hi]
  ·have e':¬s=(gp l)[k]:=λh=>e h.symm
   simp[hl,h2,h3,bn,e',hw]
   exact ih (k+1,0) ⟨by simp;omega,yW hp bn (by simpa using e)⟩ (by simp;omega)
 ·have jq:k=(gp l).length:=by omega
  have hi:=Ep (jq ▸ hp)
  simp[bn,hi]
theorem Mc{l:List (List UInt8)}{s:List UInt8}{d:Int}(h:d<0\/3<d):dh l s d=(T0,false):=if_pos h
theorem xX(wl aa:Nat)(l:AV)(s:List UInt8)(d:Int)(st:aj)(hl:sY l=true)(hn:(gp l).length<1000000000) :
  (bg S).call wl aa 70 [l,.agg [.str s,.int .i64 d]] st=some (.fK [.agg (dh (gp l) s d).1.cells,.bool (dh (gp l) s d).2],st):=by
 have h1:=AT hl
 have h2:=Cv hl
 have hi:=It 0 0 l s [] hl hn
 refine b8 (sf:=Ki) rfl rfl (by simp[cC h1]) rfl (by simp[AV.an,AV.ah]) ?_
 by_cases d0:d<0
 ·rw[Mc (.inl d0)]
  simp[Ki,d0]
 by_cases d3:3<d
 ·rw[Mc (.inr d3)]
  simp[Ki,d0,d3]
 have hd:¬(d<0\/3<d):=by omega
 unfold dh
 rw[if_neg hd]
 by_cases i1:s=[105,110,116]
 ·simp[Ki,d0,d3,i1]
 by_cases i2:s=[98,111,111,108]
 ·simp[Ki,d0,d3,i2]
 rw[if_neg i1,if_neg i2]
 by_cases i3:tr (gp l) s<0
 ·simp[Ki,d0,d3,i1,i2,hi,i3]
 ·simp[Ki,d0,d3,i1,i2,hi,i3]
theorem Kx(wl aa:Nat)(t:T3)(st:aj):(bg S).call wl aa 28 [.agg t.cells] st=some (.bool (xM t),st):=by
 refine b8 (sf:=YS) rfl rfl (by simp) rfl (by simp) ?_
 unfold xM
 by_cases b:t.b=3
 ·simp[YS,b]
 ·simp[YS,b]
end U7
namespace U7
open Ax Go cz V7
def fE(f:Option Int):Int:=match f with|some _=>3|none=>0
def fX(f:Option Int):Int:=match f with|some x=>x|none=>0
@[simp]def mk(rl:AV)(f:Option Int):fL:=.rows 0 3 [[rl,.int .i64 (fE f),.int .i64 (fX f)]]
theorem eu(aa:Nat)(a:Int)(rl:AV)(f:Option Int)(r:aj) :
  (bg S).call 0 aa 41 [.ptr 0 0 0 0,.int .i64 a] (mk rl f::r)=some (.fK [],mk rl (wk f (some a))::r):=by
 refine ax (sf:=s41) rfl rfl rfl ?_
 cases f with
 |none=>simp[s41,fE,fX,wk,bh,af,cut,AV.ah,AV.an]
 |some x=>simp[s41,fE,fX,wk,cut,AV.ah,AV.an]
theorem xY(aa:Nat)(s:List UInt8)(d a:Int)(rl:AV)(f:Option Int)(r:aj)(hl:sY rl.view=true)(hn:(gp rl).length<1000000000) :
  (bg S).call 0 aa 58 [.ptr 0 0 0 0,.agg [.str s,.int .i64 d],.int .i64 a] (mk rl f::r)=some (.agg (dh (gp rl) s d).1.cells,mk rl (if (dh (gp rl) s d).2 then f else wk f (some a))::r):=by
 have h1:aJ rl=true:=by simpa using AT hl
 have e1:=λwl aa st=>xX wl aa rl.view s d st hl (by simpa using hn)
 have e2:=λaa=>eu aa a rl f r
 simp only[Eo]at e1
 refine ax (sf:=s58) rfl rfl rfl ?_
 generalize dh (gp rl) s d=z at *
 obtain⟨u,o⟩:=z
 simp only[T3.cells]at e1
 simp only[mk]at e2
 cases o with
 |true=>simp[s58,cut,e1,aQ,bw,fQ.bz,n7,AV.ah,AV.an]
 |false=>simp[s58,cut,e1,e2,aQ,bw,fQ.bz,n7,AV.ah,AV.an]
theorem Iu(wl aa:Nat)(l:AV)(s:List UInt8)(st:aj)(hl:sY l=true)(hn:(gp l).length<1000000000) :
  (bg S).call wl aa 57 [l,.str s] st=some (.bool (decide (0<=tr (gp l) s)),st):=by
 have h1:=AT hl
 have h2:=Cv hl
 have e:=It 0 0 l s [] hl hn
 refine b8 (sf:=s57) rfl rfl (by simp[cC h1]) rfl (by simp) ?_
 simp[s57,e]
def wR(ks:List (List UInt8)):List (AV×AV):=ks.map λs=>(.str s,.agg [])
theorem EE(s:List UInt8):∀ks,qi .str (.str s) (wR ks)=some (if s∈ks then some (.agg []) else none)
 |[]=>rfl
 |a::ks=>by
  have ih:=EE s ks
  simp only[wR]at ih
  simp only[wR,List.map_cons,qi,Dk]
  by_cases h:a=s
  ·simp[h]
  ·have:(s==a)=false:=beq_eq_false_iff_ne.2 λe=>h e.symm
   have h':¬s=a:=λe=>h e.symm
   rw[this]
   simp[ih,h']
def CL(ks:List (List UInt8))(s:List UInt8):List (List UInt8):=if s∈ks then ks else ks++[s]
theorem Iv(s:List UInt8):∀ks,Dt .str (.str s) (.agg []) (wR ks)=some (wR (CL ks s))
 |[]=>rfl
 |a::ks=>by
  have ih:=Iv s ks
  simp only[wR]at ih
  simp only[wR,List.map_cons,Dt,Dk]
  by_cases h:a=s
  ·simp[h,CL]
  ·have:(s==a)=false:=beq_eq_false_iff_ne.2 λe=>h e.symm
   have h':¬s=a:=λe=>h e.symm
   rw[this]
   simp only[ih]
   by_cases hm:s∈ks
   ·simp[CL,hm]
   ·simp[CL,hm,h']
theorem Iw(ks:List (List UInt8))(s t:List UInt8):t∈CL ks s↔t∈ks\/t=s:=by
 unfold CL
 split
 ·constructor
  ·exact .inl
  ·rintro (h|rfl)<;>assumption
 ·simp
@[simp]theorem abF{wl aa:Nat}{st:aj}{bx:aU}:aL wl aa .makeMap [] st bx=some (.val (.map st.length),st++[.map []],bx):=rfl
theorem W8{aa:Nat}{o:fL}{r:aj}{bx:aU}{ks:List (List UInt8)}(s:List UInt8) :
  aL 0 aa (.mapUpdate .str) [.val (.map (r.length+1)),.val (.str s),.val (.agg [])] (o::(r++[.map (wR ks)])) bx=some (.none,o::(r++[.map (wR (CL ks s))]),bx):=by
 simp[aL,DP,bh,AV.ah,AV.an,AV.view,AV.cL,Iv]
theorem Rq{aa:Nat}{o:fL}{r:aj}{bx:aU}{ks:List (List UInt8)}(s:List UInt8) :
  aL 0 aa (.lookup .str (.agg []) true) [.val (.map (r.length+1)),.val (.str s)] (o::(r++[.map (wR ks)])) bx=some (.val (.fK [.agg [],.bool (decide (s∈ks))]),o::(r++[.map (wR ks)]),bx):=by
 simp only[aL,List.getElem?_cons_succ,DP,if_true]
 by_cases h:s∈ks<;>simp[h,EE]
theorem qF{α:Type}{zY:List α->α->Option Int}{l:List α}{k:Nat}(h:k<l.length):gw zY l (k+1)=wk (gw zY l k) (zY (l.take k) l[k]):=by
 simp[gw,h]
theorem rH(a b c:Option Int):wk (wk a b) c=wk a (wk b c):=by cases a<;>rfl
theorem kG(a:Option Int):wk a none=a:=by cases a<;>rfl
theorem Vt(a:Option Int)(x:Int):wk (wk a (some x)) (some x)=wk a (some x):=by cases a<;>rfl
theorem FR{rs:List (List UInt8)}{l:List PD}{k:Nat}(h:k<l.length):gZ rs (l.take (k+1))=gZ rs (l.take k)++[FE rs l[k]]:=by
 simp only[gZ,List.take_succ_eq_append_getElem h,List.map_append,List.map_cons,List.map_nil]
theorem o8(aa:Nat)(l:AV)(rl:AV)(f:Option Int)(r:aj)(hl:sY rl.view=true)(hn:(gp rl).length<1000000000)(hp:Aw l=true)(hpn:(oq l).length<1000000000) :
  (bg S).call 0 aa 37 [.ptr 0 0 0 0,l] (mk rl f::r)=some (cD 4 (gZ (gp rl) (oq l)),mk rl (wk f (gw (xO (gp rl)) (oq l) (oq l).length))::r):=by
 have p1:=Cw hp
 have p2:=xN hp
 have p3:=Vg hp
 have e1:=λaa s d a f r=>xY aa s d a rl f r hl hn
 have e2:=λaa a f r=>eu aa a rl f r
 simp only[T3.cells,mk]at e1 e2
 refine ax (sf:=s37) rfl rfl rfl ?_
 simp[s37,p1,p2,p3]
 refine bM QE.eq_1 (λq:Nat×List (List UInt8)×List AV=>⟨[(0,.val (.ptr 0 0 0 0)),(5,.val (cD 4 (gZ (gp rl) ((oq l).take q.1)))),(6,.val (.map (r.length+1))),(12,.val l),(13,.val (.int .i64 (oq l).length)),(14,.val (.int .i64 q.1))],[q.2.2,[]],
   mk rl (wk f (gw (xO (gp rl)) (oq l) q.1))::(r++[.map (wR q.2.1)])⟩)
  (λq=>q.1<=(oq l).length/\∀s,s∈q.2.1↔((oq l).take q.1).any (λp=>decide (p.name=s))=true) (λq=>(oq l).length-q.1) ((0,[],[]):Nat×List (List UInt8)×List AV) (by simp[gZ,nE,gw,kG,wR]) (by simp) ?_
 rintro⟨k,ks,bb⟩ ⟨hk,oy⟩ ih
 simp only at hk oy ih
 by_cases bn:k<(oq l).length
 ·have hw:IntKind.i64.wrap ((k:Int)+1)=((k+1:Nat):Int):=by rw[aY]<;>omega
  have hb:=qF (zY:=xO (gp rl)) bn
  have hr:=FR (rs:=gp rl) bn
  have hlen:(gZ (gp rl) ((oq l).take k)).length=k:=by simp[gZ];omega
  have ha:vN 4 40 (cD 4 (gZ (gp rl) ((oq l).take k))) [FE (gp rl) (oq l)[k]]=some (cD 4 (gZ (gp rl) ((oq l).take (k+1)))):=by
   rw[fW (by rfl) (by rw[hlen];simp[dQ];omega),hr]
  have Zg:∀s,s∈CL ks (oq l)[k].name↔((oq l).take (k+1)).any (λp=>decide (p.name=s))=true:=by
   intro s
   rw[Iw,oy,List.take_succ_eq_append_getElem bn,List.any_append]
   simp only[List.any_cons,List.any_nil,Bool.or_false,Bool.or_eq_true,decide_eq_true_eq]
   exact or_congr Iff.rfl eq_comm
  have Rr:=oy (oq l)[k].name
  generalize hq:(oq l)[k]=p at *
  simp only[FE,T3.cells]at ha
  have hi:=ih (k+1,CL ks p.name,p.cells) ⟨by simp;omega,Zg⟩ (by simp;omega)
  simp only[hb,PD.cells]at hi
  have lk:=λaa o bx=>Rq (aa:=aa) (o:=o) (r:=r) (bx:=bx) (ks:=ks) p.name
  have up:=λaa o bx=>W8 (aa:=aa) (o:=o) (r:=r) (bx:=bx) (ks:=ks) p.name
  by_cases hd:p.name∈ks
  ·have FU:xO (gp rl) ((oq l).take k) p=some p.at_:=by
    unfold xO;rw[Rr.1 hd];rfl
   rw[FU,<-rH]at hi
   have DF:decide (p.name∈ks)=true:=decide_eq_true hd
   cases ho:(dh (gp rl) p.on p.od).2 with
   |true=>
    simp[p2,p3,hp,bn,PD.cells,hw,hq,lk,up,DF,e1,e2,ho,ha,aQ,bw,fQ.bz,n7]
    exact hi
   |false=>
    simp[p2,p3,hp,bn,PD.cells,hw,hq,lk,up,DF,e1,e2,ho,Vt,ha,aQ,bw,fQ.bz,n7]
    exact hi
  ·have DF:decide (p.name∈ks)=false:=decide_eq_false hd
   have ad5:((oq l).take k).any (λq=>decide (q.name=p.name))=false:=by
    cases e:((oq l).take k).any (λq=>decide (q.name=p.name)) with
    |false=>rfl
    |true=>exact absurd (Rr.2 e) hd
   cases ho:(dh (gp rl) p.on p.od).2 with
   |true=>
    have FU:xO (gp rl) ((oq l).take k) p=none:=by unfold xO;rw[ad5,ho];rfl
    rw[FU,kG]at hi
    simp[p2,p3,hp,bn,PD.cells,hw,hq,lk,up,DF,e1,ho,ha,aQ,bw,fQ.bz,n7]
    exact hi
   |false=>
    have FU:xO (gp rl) ((oq l).take k) p=some p.at_:=by unfold xO;rw[ad5,ho];rfl
    rw[FU,<-rH]at hi
    simp[p2,p3,hp,bn,PD.cells,hw,hq,lk,up,DF,e1,ho,ha,aQ,bw,fQ.bz,n7]
    exact hi
 ·have jq:k=(oq l).length:=by omega
  simp[jq]
end U7
namespace U7
open Ax Go cz V7
def gT(l:List (List UInt8)):List (List AV):=l.map λs=>[.str s]
theorem sM(l:List (List UInt8)):gp (cD 1 (gT l))=l:=by simp[gp,gT,List.map_map,Function.comp_def,dSt]
theorem xZ(l:List (List UInt8)):sY (cD 1 (gT l)).view=true:=by
 have h1:dc 1 (cD 1 (gT l)).view=true:=by
  rw[yO,AP]
  simp[bU,gT]
 simp only[sY,kY,Ic,h1,Cf,uf,Bool.true_and,List.all_eq_true]
 intro r hr
 obtain⟨s,_,rfl⟩:=List.mem_map.1 hr
 rfl
theorem Ix(l:List (List UInt8))(s:List UInt8):0<=tr l s↔s∈l:=by
 unfold tr
 cases e:l.findIdx? λx=>decide (x=s) with
 |none=>
  rw[List.findIdx?_eq_none_iff]at e
  constructor
  ·intro h;exact absurd h (by decide)
  ·intro h;have:=e s h;simp at this
 |some k=>
  obtain⟨hk,h1,_⟩:=List.findIdx?_eq_some_iff_getElem.1 e
  constructor
  ·intro _
   have:l[k]=s:=by simpa using h1
   exact this ▸ List.getElem_mem hk
  ·intro _;show (0:Int)<=(k:Int);omega
theorem Zh{aa:Nat}{rl:AV}{e x:AV}{r:aj}{bx:aU}(h:aJ rl=true) :
  aL 0 aa (.load false 1 true) [.val (.ptr 0 0 0 0)] (.rows 0 3 [[rl,e,x]]::r) bx=some (.val rl,.rows 0 3 [[rl.iM,e,x]]::r,bx):=by
 cases rl<;>simp[aJ]at h<;>simp[aL,fY,cut,dR,bh,AV.iM,AV.ah,AV.an,af,b9]
def FX(before:List CR)(x:CR):Option Int:=if before.any (λq=>decide (q.name=x.name)) then some x.at_ else none
def NG(rs:List (List UInt8))(_:List CR)(x:CR):Option Int:=gw (xO rs) (oq x.cq) (oq x.cq).length
def FY(rs:List (List UInt8))(x:CR):List AV:=[.str x.name,(cD 4 (gZ rs (oq x.cq))).view]
def nJ(rs:List (List UInt8))(l:List CR):List (List AV):=l.map (FY rs)
theorem Ky(aa:Nat)(l:AV)(f:Option Int)(r:aj)(hp:zW l=true)(hpn:(dA l).length<1000000000)(J8:∀x∈dA l,(oq x.cq).length<1000000000) :
  (bg S).call 0 aa 36 [.ptr 0 0 0 0,l] (mk .U f::r)=some (cD 2 (nJ (kA (dA l)) (dA l)),
   mk (cD 1 (gT (kA (dA l)))) (wk (wk f (gw FX (dA l) (dA l).length)) (gw (NG (kA (dA l))) (dA l) (dA l).length))::r):=by
 have p1:=L3 hp
 have p2:=Ig hp
 have p3:=Rd hp
 have e2:=λaa a rl f r=>eu aa a rl f r
 simp only[mk]at e2
 refine ax (sf:=s36) rfl rfl rfl ?_
 simp[s36,p1,p2,p3]
 refine bM QC.eq_1 (λq:Nat×List AV=>⟨[(0,.val (.ptr 0 0 0 0)),(1,.val l),(10,.val l),(11,.val (.int .i64 (dA l).length)),(12,.val (.int .i64 q.1))],[q.2,[]],
   mk (cD 1 (gT (kA ((dA l).take q.1)))) (wk f (gw FX (dA l) q.1))::r⟩)
  (λq=>q.1<=(dA l).length) (λq=>(dA l).length-q.1) ((0,[]):Nat×List AV) (by simp[kA,gT,nE,gw,kG]) (by simp) ?_
 rintro⟨k,bb⟩ hk ih
 simp only at hk ih
 by_cases bn:k<(dA l).length
 ·have hw:IntKind.i64.wrap ((k:Int)+1)=((k+1:Nat):Int):=by rw[aY]<;>omega
  have hb:=qF (zY:=FX) bn
  have hF:=Es hp _ (List.getElem_mem bn)
  have Rs:=Cw hF
  have Rt:=xN hF
  have Vu:=λwl aa s st=>Iu wl aa (cD 1 (gT (kA ((dA l).take k)))).view s st (xZ _) (by simp[sM,kA];omega)
  simp only[Eo,sM]at Vu
  have dV:aJ (cD 1 (gT (kA ((dA l).take k))))=true:=dz
  have ha:vN 1 16 (cD 1 (gT (kA ((dA l).take k)))) [[.str (dA l)[k].name]]=some (cD 1 (gT (kA ((dA l).take (k+1))))):=by
   rw[fW (by rfl) (by simp[gT,kA,dQ];omega)]
   simp only[kA,gT,List.take_succ_eq_append_getElem bn,List.map_append,List.map_cons,List.map_nil]
  have hi:=ih (k+1,(dA l)[k].cells) (by simp;omega) (by simp;omega)
  simp only[hb]at hi
  have yF:(dA l)[k].name∈kA ((dA l).take k)↔((dA l).take k).any (λq=>decide (q.name=(dA l)[k].name))=true:=by
   simp only[kA,List.mem_map,List.any_eq_true,decide_eq_true_eq]
  generalize hq:(dA l)[k]=p at *
  simp only[CR.cells]at hi
  have tk:=λaa e x r bx=>Zh (aa:=aa) (e:=e) (x:=x) (r:=r) (bx:=bx) dV
  by_cases hd:p.name∈kA ((dA l).take k)
  ·have FU:FX ((dA l).take k) p=some p.at_:=by
    unfold FX;rw[yF.1 hd];rfl
   rw[FU,<-rH]at hi
   have DF:decide (0<=tr (kA ((dA l).take k)) p.name)=true:=decide_eq_true ((Ix _ _).2 hd)
   simp[p2,p3,hp,bn,CR.cells,hw,hq,Rs,Rt,Vu,DF,e2,ha,tk,aQ,bw,fQ.bz,n7]
   exact hi
  ·have FU:FX ((dA l).take k) p=none:=by
    unfold FX
    cases e:((dA l).take k).any (λq=>decide (q.name=p.name)) with
    |false=>rfl
    |true=>exact absurd (yF.2 e) hd
   rw[FU,kG]at hi
   have DF:decide (0<=tr (kA ((dA l).take k)) p.name)=false:=decide_eq_false λh=>hd ((Ix _ _).1 h)
   simp[p2,p3,hp,bn,CR.cells,hw,hq,Rs,Rt,Vu,DF,ha,tk,aQ,bw,fQ.bz,n7]
   exact hi
 ·have jq:k=(dA l).length:=by omega
  subst jq
  obtain⟨g,hg⟩:∃g,g=wk f (gw FX (dA l) (dA l).length):=⟨_,rfl⟩
  obtain⟨rs,hrs⟩:∃rs,rs=kA (dA l):=⟨_,rfl⟩
  have rU:rs.length<1000000000:=by rw[hrs];simpa [kA] using hpn
  simp only[<-hg,<-hrs,List.take_length]
  simp[p1,p2,p3]
  refine bM QD.eq_1 (λq:Nat×List AV=>⟨[(0,.val (.ptr 0 0 0 0)),(7,.val (cD 2 (nJ rs ((dA l).take q.1)))),(39,.val l),(40,.val (.int .i64 (dA l).length)),(41,.val (.int .i64 q.1))],[bb,q.2],
    mk (cD 1 (gT rs)) (wk g (gw (NG rs) (dA l) q.1))::r⟩)
   (λq=>q.1<=(dA l).length) (λq=>(dA l).length-q.1) ((0,[]):Nat×List AV) (by simp[nJ,nE,gw,kG]) (by simp) ?_
  rintro⟨k,bb2⟩ hk ih
  simp only at hk ih
  by_cases bn:k<(dA l).length
  ·have hw:IntKind.i64.wrap ((k:Int)+1)=((k+1:Nat):Int):=by rw[aY]<;>omega
   have hb:=qF (zY:=NG rs) bn
   have hF:=Es hp _ (List.getElem_mem bn)
   have Rs:=Cw hF
   have Rt:=xN hF
   have hFn:=J8 _ (List.getElem_mem bn)
   have e3:=λaa f r=>o8 aa (dA l)[k].cq (cD 1 (gT rs)) f r (xZ _) (by rw[sM];exact rU) hF hFn
   simp only[sM,mk]at e3
   have ha:vN 2 40 (cD 2 (nJ rs ((dA l).take k))) [FY rs (dA l)[k]]=some (cD 2 (nJ rs ((dA l).take (k+1)))):=by
    rw[fW (by rfl) (by simp[nJ,dQ];omega)]
    simp only[nJ,List.take_succ_eq_append_getElem bn,List.map_append,List.map_cons,List.map_nil]
   have hi:=ih (k+1,(dA l)[k].cells) (by simp;omega) (by simp;omega)
   simp only[hb,NG,<-rH]at hi
   generalize hq:(dA l)[k]=p at *
   simp only[CR.cells]at hi
   simp only[FY]at ha
   simp[p2,p3,hp,bn,CR.cells,hw,hq,Rs,Rt,e3,ha,aQ,bw,fQ.bz,n7]
   exact hi
  ·have jq:k=(dA l).length:=by omega
   subst jq
   simp
end U7
namespace U7
open Ax Go cz V7
def om(rs:List (List UInt8))(x:FN):T3:=if x.bO then (dh rs x.on x.od).1 else T0
def Zi(before:List FN)(x:FN):Option Int:=if before.any (λq=>decide (q.name=x.name)) then some x.at_ else none
def Iy(rs:List (List UInt8))(x:FN):Option Int:=if x.bO && !(dh rs x.on x.od).2 then some x.at_ else none
def NH(rs:List (List UInt8))(before:List FN)(x:FN):Option Int:=wk (wk (Zi before x) (gw (xO rs) (oq x.params) (oq x.params).length)) (Iy rs x)
def iQ(rs:List (List UInt8))(x:FN):List AV:=[.str x.name,(cD 4 (gZ rs (oq x.params))).view,.bool x.bO,.int .i64 (om rs x).b,.int .i64 (om rs x).r,.int .i64 (om rs x).d]
def wS(rs:List (List UInt8))(x:FN):List AV:=[.str x.name,cD 4 (gZ rs (oq x.params)),.bool x.bO,.int .i64 (om rs x).b,.int .i64 (om rs x).r,.int .i64 (om rs x).d]
def iK(rs:List (List UInt8))(l:List FN):List (List AV):=l.map (iQ rs)
theorem Vv(aa:Nat)(l rl:AV)(f:Option Int)(r:aj)(hl:sY rl.view=true)(hn:(gp rl).length<1000000000)(hp:zX l=true)(hpn:(jE l).length<1000000000)(J8:∀x∈jE l,(oq x.params).length<1000000000) :
  (bg S).call 0 aa 38 [.ptr 0 0 0 0,l] (mk rl f::r)=some (cD 6 (iK (gp rl) (jE l)),mk rl (wk f (gw (NH (gp rl)) (jE l) (jE l).length))::r):=by
 have p1:=L4 hp
 have p2:=Ih hp
 have p3:=Rf hp
 have e1:=λaa s d a f r=>xY aa s d a rl f r hl hn
 have e2:=λaa a f r=>eu aa a rl f r
 simp only[T3.cells,mk]at e1 e2
 refine ax (sf:=s38) rfl rfl rfl ?_
 simp[s38,p1,p2,p3]
 refine bM QF.eq_1 (λq:Nat×List (List UInt8)×List AV×List AV=>⟨[(0,.val (.ptr 0 0 0 0)),(5,.val (cD 6 (iK (gp rl) ((jE l).take q.1)))),(6,.val (.map (r.length+1))),(13,.val l),(14,.val (.int .i64 (jE l).length)),(15,.val (.int .i64 q.1))],[q.2.2.1,[],q.2.2.2],
   mk rl (wk f (gw (NH (gp rl)) (jE l) q.1))::(r++[.map (wR q.2.1)])⟩)
  (λq=>q.1<=(jE l).length/\∀s,s∈q.2.1↔((jE l).take q.1).any (λp=>decide (p.name=s))=true) (λq=>(jE l).length-q.1) ((0,[],[],[]):Nat×List (List UInt8)×List AV×List AV) (by simp[iK,nE,gw,kG,wR]) (by simp) ?_
 rintro⟨k,ks,bb,bb2⟩ ⟨hk,oy⟩ ih
 simp only at hk oy ih
 by_cases bn:k<(jE l).length
 ·have hw:IntKind.i64.wrap ((k:Int)+1)=((k+1:Nat):Int):=by rw[aY]<;>omega
  have hb:=qF (zY:=NH (gp rl)) bn
  have hG:=Nx hp _ (List.getElem_mem bn)
  have Rs:=Cw hG.1
  have Rt:=xN hG.1
  have W9:=hG.2.2
  have hBv:=zV hG.2.1 hG.2.2
  have hFn:=J8 _ (List.getElem_mem bn)
  have e3:=λaa f r=>o8 aa (jE l)[k].params rl f r hl hn hG.1 hFn
  simp only[mk]at e3
  have ha:vN 6 72 (cD 6 (iK (gp rl) ((jE l).take k))) [iQ (gp rl) (jE l)[k]]=some (cD 6 (iK (gp rl) ((jE l).take (k+1)))):=by
   rw[fW (by rfl) (by simp[iK,dQ];omega)]
   simp only[iK,List.take_succ_eq_append_getElem bn,List.map_append,List.map_cons,List.map_nil]
  have Zg:∀s,s∈CL ks (jE l)[k].name↔((jE l).take (k+1)).any (λp=>decide (p.name=s))=true:=by
   intro s
   rw[Iw,oy,List.take_succ_eq_append_getElem bn,List.any_append]
   simp only[List.any_cons,List.any_nil,Bool.or_false,Bool.or_eq_true,decide_eq_true_eq]
   exact or_congr Iff.rfl eq_comm
  have Rr:=oy (jE l)[k].name
  generalize hq:(jE l)[k]=p at *
  have hi:=ih (k+1,CL ks p.name,p.cells,wS (gp rl) p) ⟨by simp;omega,Zg⟩ (by simp;omega)
  simp only[hb,NH,<-rH,FN.cells]at hi
  have lk:=λaa o bx=>Rq (aa:=aa) (o:=o) (r:=r) (bx:=bx) (ks:=ks) p.name
  have up:=λaa o bx=>W8 (aa:=aa) (o:=o) (r:=r) (bx:=bx) (ks:=ks) p.name
  have hD:Zi ((jE l).take k) p=if p.name∈ks then some p.at_ else none:=by
   unfold Zi
   by_cases hd:p.name∈ks
   ·rw[if_pos hd,if_pos (Rr.1 hd)]
   ·rw[if_neg hd,if_neg λh=>hd (Rr.2 h)]
  rw[hD]at hi
  by_cases hd:p.name∈ks
  ·have DF:decide (p.name∈ks)=true:=decide_eq_true hd
   rw[if_pos hd]at hi
   cases hh:p.bO with
   |false=>
    simp[hh,Iy,iQ,wS,om,kG]at hi ha
    simp[p2,p3,hp,bn,FN.cells,hw,hq,lk,up,DF,e2,e3,Rs,Rt,W9,hBv,hh,ha,aQ,bw,fQ.bz,n7]
    exact hi
   |true=>
    cases ho:(dh (gp rl) p.on p.od).2 with
    |true=>
     simp[hh,Iy,iQ,wS,om,kG,ho]at hi ha
     simp[p2,p3,hp,bn,FN.cells,hw,hq,lk,up,DF,e1,e2,e3,Rs,Rt,W9,hBv,hh,ho,ha,aQ,bw,fQ.bz,n7]
     exact hi
    |false=>
     simp[hh,Iy,iQ,wS,om,ho]at hi ha
     simp[p2,p3,hp,bn,FN.cells,hw,hq,lk,up,DF,e1,e2,e3,Rs,Rt,W9,hBv,hh,ho,ha,aQ,bw,fQ.bz,n7]
     exact hi
  ·have DF:decide (p.name∈ks)=false:=decide_eq_false hd
   rw[if_neg hd,kG]at hi
   cases hh:p.bO with
   |false=>
    simp[hh,Iy,iQ,wS,om,kG]at hi ha
    simp[p2,p3,hp,bn,FN.cells,hw,hq,lk,up,DF,e3,Rs,Rt,W9,hBv,hh,ha,aQ,bw,fQ.bz,n7]
    exact hi
   |true=>
    cases ho:(dh (gp rl) p.on p.od).2 with
    |true=>
     simp[hh,Iy,iQ,wS,om,kG,ho]at hi ha
     simp[p2,p3,hp,bn,FN.cells,hw,hq,lk,up,DF,e1,e3,Rs,Rt,W9,hBv,hh,ho,ha,aQ,bw,fQ.bz,n7]
     exact hi
    |false=>
     simp[hh,Iy,iQ,wS,om,ho]at hi ha
     simp[p2,p3,hp,bn,FN.cells,hw,hq,lk,up,DF,e1,e3,Rs,Rt,W9,hBv,hh,ho,ha,aQ,bw,fQ.bz,n7]
     exact hi
 ·have jq:k=(jE l).length:=by omega
  simp[jq]
def EF:List UInt8:=[109,97,105,110]
def sN(x:FN):Bool:=decide (x.name=EF)&&decide (oq x.params=[]) && !x.bO
theorem NI(wl aa:Nat)(rs:List (List UInt8))(x:FN)(st:aj):(bg S).call wl aa 40 [.agg (iQ rs x)] st=some (.bool (sN x),st):=by
 refine b8 (sf:=s40) rfl rfl (by simp[iQ,AV.ah,AV.an]) rfl (by simp) ?_
 unfold sN
 by_cases a:x.name=EF
 ·by_cases b:oq x.params=[]
  ·simp[s40,iQ,EF,a,b,gZ]
  ·have b':¬(oq x.params).length=0:=by simpa using b
   simp[s40,iQ,EF,a,b,b',gZ]
 ·simp only[EF]at a
  simp[s40,iQ,EF,a]
def x4(l:List FN):Int:=match l.findIdx? sN with
 |some k=>k
 |none=>-1
theorem y9(wl aa:Nat)(rs:List (List UInt8))(l:List FN)(st:aj)(hn:l.length<1000000000) :
  (bg S).call wl aa 39 [(cD 6 (iK rs l)).view,.fn 40 [] []] st=some (.int .i64 (x4 l),st):=by
 have hm:=λwl aa x st=>NI wl aa rs x st
 have hz:dc 6 (cD 6 (iK rs l)).view=true:=by rw[yO,AP];simp[bU,iK,iQ]
 have hr:aZ (cD 6 (iK rs l)).view=l.map (iQ rs):=by simp[iK]
 have hs:=nD hz
 have hv:(cD 6 (iK rs l)).view.view=(cD 6 (iK rs l)).view:=Nj _
 generalize (cD 6 (iK rs l)).view=v at *
 have l6:∀x,(iQ rs x).length=6:=λ_=>rfl
 have t6:∀x,List.take 6 (iQ rs x)=iQ rs x:=λ_=>rfl
 have v6:∀x,AV.cL (iQ rs x)=iQ rs x:=by intro x;simp[iQ,AV.cL,AV.view]
 refine ax (sf:=s39) rfl (by simp[qn,s39]) rfl ?_
 simp[s39,hs,hr,hv]
 refine bM Kf.eq_1 (λq:Nat×Nat=>⟨[(0,.val v),(1,.val (.fn 40 [] [])),(7,.val (.int .i64 l.length)),(8,.val (.int .i64 q.1))],[],st⟩)
  (λq=>q.1<=l.length/\Ie sN l q.1) (λq=>l.length-q.1) ((0,0):Nat×Nat) (by simp) ⟨by simp,yV⟩ ?_
 rintro⟨k,b⟩ ⟨hk,hp⟩ ih
 simp only at hk hp ih
 by_cases bn:k<l.length
 ·have hw:IntKind.i64.wrap ((k:Int)+1)=((k+1:Nat):Int):=by rw[aY]<;>omega
  have hmk:=λwl aa st=>hm wl aa l[k] st
  cases e:sN l[k] with
  |true=>
   have hi:x4 l=k:=by
    have:l.findIdx? sN=some k:=by
     rw[List.findIdx?_eq_some_iff_getElem]
     exact⟨bn,e,λj hj=>by simp[hp j (by omega) hj]⟩
    unfold x4;rw[this]
   simp[hz,hr,hv,bn,hmk,e,hi,l6,t6,v6]
  |false=>
   simp[hz,hr,hv,bn,hmk,e,hw,l6,t6,v6]
   exact ih (k+1,0) ⟨by simp;omega,yW hp bn e⟩ (by simp;omega)
 ·have jq:k=l.length:=by omega
  have hi:x4 l = -1:=by
   have:l.findIdx? sN=none:=by
    rw[List.findIdx?_eq_none_iff]
    intro x hx
    obtain⟨j,hj,rfl⟩:=List.mem_iff_getElem.1 hx
    exact hp j hj (jq ▸ hj)
   unfold x4;rw[this]
  simp[bn,hi]
end U7
namespace U7
open Ax Go cz V7
def Iz:AV:=.agg [.U,.U,.U,.int .i64 0]
def CM(p:GD):AV:=.agg [(cD 2 (nJ (kA (dA p.bG)) (dA p.bG))).view,(cD 4 (gZ (kA (dA p.bG)) (oq p.globals))).view,(cD 6 (iK (kA (dA p.bG)) (jE p.funcs))).view,.int .i64 (x4 (jE p.funcs))]
def uu(p:GD):Option Int:=wk (wk (wk (wk none (gw FX (dA p.bG) (dA p.bG).length)) (gw (NG (kA (dA p.bG))) (dA p.bG) (dA p.bG).length)) (gw (xO (kA (dA p.bG))) (oq p.globals) (oq p.globals).length))
 (gw (NH (kA (dA p.bG))) (jE p.funcs) (jE p.funcs).length)
def mK(p:GD):Option Int:=if x4 (jE p.funcs)<0 then wk (uu p) (some 0) else uu p
def Ru(p:GD):AV:=.fK [match mK p with|some _=>Iz|none=>CM p,.agg [.int .i64 (fE (mK p)),.int .i64 (fX (mK p))]]
structure GD.sm (p:GD):Prop where
 bG:(dA p.bG).length<1000000000
 cq:∀x∈dA p.bG,(oq x.cq).length<1000000000
 globals:(oq p.globals).length<1000000000
 funcs:(jE p.funcs).length<1000000000
 params:∀x∈jE p.funcs,(oq x.params).length<1000000000
theorem FZ(wl aa:Nat)(p:GD)(st:aj)(hp:p.ok)(hs:GD.sm p):(bg S).call wl aa 23 [.agg p.cells] st=some (Ru p,st):=by
 have p1:=L3 hp.bG
 have p2:=Ig hp.bG
 have g1:=Cw hp.globals
 have g2:=xN hp.globals
 have f1:=L4 hp.funcs
 have f2:=Ih hp.funcs
 have hrn:(kA (dA p.bG)).length<1000000000:=by simpa [kA] using hs.bG
 have er:∀aa r,(bg S).call 0 aa 36 [.ptr 0 0 0 0,p.bG] (.rows 0 3 [[.U,.int .i64 0,.int .i64 0]]::r)=_:=λaa r=>Ky aa p.bG none r hp.bG hs.bG hs.cq
 have eg:=λaa f r=>o8 aa p.globals (cD 1 (gT (kA (dA p.bG)))) f r (xZ _) (by rw[sM];exact hrn) hp.globals hs.globals
 have ef:=λaa f r=>Vv aa p.funcs (cD 1 (gT (kA (dA p.bG)))) f r (xZ _) (by rw[sM];exact hrn) hp.funcs hs.funcs hs.params
 have ei:=λwl aa st=>y9 wl aa (kA (dA p.bG)) (jE p.funcs) st hs.funcs
 have e2:=λaa a rl f r=>eu aa a rl f r
 simp only[sM,mk]at er eg ef e2
 refine b8 (sf:=s23) rfl rfl (by simp[GD.cells,AV.ah,AV.an,p1,g1,f1]) rfl (by cases h:mK p<;>simp[Ru,h,Iz,CM,AV.an,AV.ah]) ?_
 unfold Ru mK
 have hm3:uu p=uu p:=rfl
 conv at hm3=>lhs;unfold uu
 generalize uu p=F at *
 by_cases hm:x4 (jE p.funcs)<0
 ·obtain⟨y,hy⟩:∃y,wk F (some 0)=some y:=by cases F<;>exact⟨_,rfl⟩
  simp[s23,GD.cells,p1,p2,g1,g2,f1,f2,er,eg,ef,ei,e2,hm,hm3,aQ,bw,fQ.bz,n7]
  simp[hy,fE,fX,Iz,aQ,bw,fQ.bz]
 ·simp[s23,GD.cells,p1,p2,g1,g2,f1,f2,er,eg,ef,ei,hm,hm3,aQ,bw,fQ.bz,n7]
  cases F with
  |some y=>simp[fE,fX,Iz,aQ,bw,fQ.bz]
  |none=>simp[fE,fX,CM,fQ.bz]
end U7
