/- Part of a proof. -/
import Derived.Test.YtachcambnjecnaaGreatCode2
import Derived.Test.YtachcambnjecnaaGreatP
import Derived.KernelRfl

set_option maxRecDepth 100000
set_option maxHeartbeats 4000000
namespace U7
open Ax Go bu V7
theorem JL(wl af:Nat)(l:AV)(s:List UInt8)(st:aj)(hl:qg l=true)(hn:(ee l).length<1000000000) :
  (bh S).call wl af 117 [l,.str s] st=some (.int .i64 (vo (ee l) s),st):=by
 have h1:=xz hl;have h2:=wj hl;have h3:=JB hl;refine bL (sf:=R6) rfl rfl (by simp[ck h1]) rfl (by simp) ?_;simp[R6,h1,h2,h3];refine bf HB.eq_1 (λq:Nat×Int=>⟨[(0,.val l),(1,.val (.str s)),(7,.val (.int .i64 (ee l).length)),(8,.val (.int .i64 q.1))],[],[]⟩)
  (λq=>q.1<=(ee l).length/\Cl (λx=>decide (x=s)) (ee l) q.1) (λq=>(ee l).length-q.1) (0,0) (by simp) ⟨by simp,qM⟩ ?_
 rintro⟨k,bb⟩ ⟨hk,hp⟩ ih;simp only at hk hp ih;by_cases aW:k<(ee l).length;have hw:=wk k (by omega);by_cases e:(ee l)[k]=s;have hi:=HJ hp aW e;simp[hl,h2,h3,aW,e,hi];have e':¬s=(ee l)[k]:=λh=>e h.symm;simp[hl,h2,h3,aW,e',hw];exact ih (k+1,0) ⟨by simp;omega,qN hp aW (by simpa using e)⟩ (by simp;omega);have eK:k=(ee l).length:=by omega
 have hi:=AY (eK ▸ hp);simp[aW,hi]
theorem CM{l:List (List UInt8)}{s:List UInt8}{d:Int}(h:d<0\/3<d):bZ l s d=(T0,false):=if_pos h
theorem Ad(wl af:Nat)(l:AV)(s:List UInt8)(d:Int)(st:aj)(hl:qg l=true)(hn:(ee l).length<1000000000) :
  (bh S).call wl af 118 [l,.agg [.str s,.int .i64 d]] st=some (.fm [.agg (bZ (ee l) s d).1.cells,.bool (bZ (ee l) s d).2],st):=by
 have h1:=xz hl;have h2:=wj hl;have hi:=JL 0 0 l s [] hl hn;refine bL (sf:=yN) rfl rfl (by simp[ck h1]) rfl (by simp[AV.ax,AV.ai]) ?_;by_cases d0:d<0;rw[CM (.inl d0)];simp[yN,d0];by_cases d3:3<d;rw[CM (.inr d3)];simp[yN,d0,d3];have hd:¬(d<0\/3<d):=by omega
 unfold bZ;rw[if_neg hd];by_cases i1:s=[105,110,116];simp[yN,d0,d3,i1];by_cases i2:s=[98,111,111,108];simp[yN,d0,d3,i2];rw[if_neg i1,if_neg i2];by_cases i3:vo (ee l) s<0;simp[yN,d0,d3,i1,i2,hi,i3];simp[yN,d0,d3,i1,i2,hi,i3]
theorem Lw(wl af:Nat)(t:T3)(st:aj):(bh S).call wl af 46 [.agg t.cells] st=some (.bool (nJ t),st):=by
 refine bL (sf:=Zl) rfl rfl (by simp) rfl (by simp) ?_;unfold nJ;by_cases b:t.b=3;simp[Zl,b];simp[Zl,b]
end U7
namespace U7
open Ax Go bu V7
def fE(f:Option Int):Int:=match f with|some _=>3|none=>0
def fX(f:Option Int):Int:=match f with|some x=>x|none=>0
@[simp]def mk(rl:AV)(f:Option Int):dy:=.rows 0 3 [[rl,.int .i64 (fE f),.int .i64 (fX f)]]
theorem eW(af:Nat)(a:Int)(rl:AV)(f:Option Int)(r:aj) :
  (bh S).call 0 af 81 [.ptr 0 0 0 0,.int .i64 a] (mk rl f::r)=some (.fm [],mk rl (wm f (some a))::r):=by
 refine ay (sf:=s81) rfl rfl rfl ?_;cases f with
 |none=>simp[s81,fE,fX,wm,aY,ag,cut,AV.ai,AV.ax]|some x=>simp[s81,fE,fX,wm,cut,AV.ai,AV.ax]
theorem Ae(af:Nat)(s:List UInt8)(d a:Int)(rl:AV)(f:Option Int)(r:aj)(hl:qg rl.view=true)(hn:(ee rl).length<1000000000) :
  (bh S).call 0 af 99 [.ptr 0 0 0 0,.agg [.str s,.int .i64 d],.int .i64 a] (mk rl f::r)=some (.agg (bZ (ee rl) s d).1.cells,mk rl (if (bZ (ee rl) s d).2 then f else wm f (some a))::r):=by
 have h1:aD rl=true:=by simpa using xz hl
 have e1:=λwl af st=>Ad wl af rl.view s d st hl (by simpa using hn);have e2:=λaf=>eW af a rl f r;simp only[mj]at e1;refine ay (sf:=s99) rfl rfl rfl ?_;generalize bZ (ee rl) s d=z at *;obtain⟨u,o⟩:=z;simp only[T3.cells]at e1;simp only[mk]at e2;cases o with
 |true=>simp[s99,cut,e1,aU,bG,eC.bg,mc,AV.ai,AV.ax]|false=>simp[s99,cut,e1,e2,aU,bG,eC.bg,mc,AV.ai,AV.ax]
theorem JM(wl af:Nat)(l:AV)(s:List UInt8)(st:aj)(hl:qg l=true)(hn:(ee l).length<1000000000) :
  (bh S).call wl af 98 [l,.str s] st=some (.bool (decide (0<=vo (ee l) s)),st):=by
 have h1:=xz hl;have h2:=wj hl;have e:=JL 0 0 l s [] hl hn;refine bL (sf:=s98) rfl rfl (by simp[ck h1]) rfl (by simp) ?_;simp[s98,e]
def yU(ks:List (List UInt8)):List (AV×AV):=ks.map λs=>(.str s,.agg [])
theorem Gr(s:List UInt8):∀ks,sd .str (.str s) (yU ks)=some (if s∈ks then some (.agg []) else none)
 |[]=>rfl|a::ks=>by
  have ih:=Gr s ks;simp only[yU]at ih;simp only[yU,List.map_cons,sd,AG];by_cases h:a=s;simp[h];have:(s==a)=false:=beq_eq_false_iff_ne.2 λe=>h e.symm;have h':¬s=a:=λe=>h e.symm;rw[this];simp[ih,h']
def Ej(ks:List (List UInt8))(s:List UInt8):List (List UInt8):=if s∈ks then ks else ks++[s]
theorem JN(s:List UInt8):∀ks,E9 .str (.str s) (.agg []) (yU ks)=some (yU (Ej ks s))
 |[]=>rfl|a::ks=>by
  have ih:=JN s ks;simp only[yU]at ih;simp only[yU,List.map_cons,E9,AG];by_cases h:a=s;simp[h,Ej];have:(s==a)=false:=beq_eq_false_iff_ne.2 λe=>h e.symm;have h':¬s=a:=λe=>h e.symm;rw[this];simp only[ih];by_cases hm:s∈ks;simp[Ej,hm];simp[Ej,hm,h']
theorem JO(ks:List (List UInt8))(s t:List UInt8):t∈Ej ks s↔t∈ks\/t=s:=by
 unfold Ej;split;constructor;exact .inl;rintro (h|rfl)<;>assumption;simp
@[simp]theorem abW{wl af:Nat}{st:aj}{bx:bF}:aV wl af .makeMap [] st bx=some (.val (.map st.length),st++[.map []],bx):=rfl
theorem XK{af:Nat}{o:dy}{r:aj}{bx:bF}{ks:List (List UInt8)}(s:List UInt8) :
  aV 0 af (.mapUpdate .str) [.val (.map (r.length+1)),.val (.str s),.val (.agg [])] (o::(r++[.map (yU ks)])) bx=some (.none,o::(r++[.map (yU (Ej ks s))]),bx):=by
 simp[aV,Fy,aY,AV.ai,AV.ax,AV.view,AV.cq,JN]
theorem SE{af:Nat}{o:dy}{r:aj}{bx:bF}{ks:List (List UInt8)}(s:List UInt8) :
  aV 0 af (.lookup .str (.agg []) true) [.val (.map (r.length+1)),.val (.str s)] (o::(r++[.map (yU ks)])) bx=some (.val (.fm [.agg [],.bool (decide (s∈ks))]),o::(r++[.map (yU ks)]),bx):=by
 simp only[aV,List.getElem?_cons_succ,Fy,if_true];by_cases h:s∈ks<;>simp[h,Gr]
theorem kj{α:Type}{vu:List α->α->Option Int}{l:List α}{k:Nat}(h:k<l.length):cH vu l (k+1)=wm (cH vu l k) (vu (l.take k) l[k]):=by
 simp[cH,h]
theorem tH(a b c:Option Int):wm (wm a b) c=wm a (wm b c):=by cases a<;>rfl
theorem lX(a:Option Int):wm a none=a:=by cases a<;>rfl
theorem VQ(a:Option Int)(x:Int):wm (wm a (some x)) (some x)=wm a (some x):=by cases a<;>rfl
theorem Af{rs:List (List UInt8)}{l:List PD}{k:Nat}(h:k<l.length):dA rs (l.take (k+1))=dA rs (l.take k)++[A6 rs l[k]]:=by
 simp only[dA,List.take_succ_eq_append_getElem h,List.map_append,List.map_cons,List.map_nil]
theorem A9(af:Nat)(l:AV)(rl:AV)(f:Option Int)(r:aj)(hl:qg rl.view=true)(hn:(ee rl).length<1000000000)(hp:AZ l=true)(hpn:(iJ l).length<1000000000) :
  (bh S).call 0 af 77 [.ptr 0 0 0 0,l] (mk rl f::r)=some (bD 4 (dA (ee rl) (iJ l)),mk rl (wm f (cH (nU (ee rl)) (iJ l) (iJ l).length))::r):=by
 have p1:=sU hp;have p2:=pz hp;have p3:=Nc hp;have e1:=λaf s d a f r=>Ae af s d a rl f r hl hn;have e2:=λaf a f r=>eW af a rl f r;simp only[T3.cells,mk]at e1 e2;refine ay (sf:=s77) rfl rfl rfl ?_;simp[s77,p1,p2,p3];refine bf RM.eq_1 (λq:Nat×List (List UInt8)×List AV=>⟨[(0,.val (.ptr 0 0 0 0)),(5,.val (bD 4 (dA (ee rl) ((iJ l).take q.1)))),(6,.val (.map (r.length+1))),(12,.val l),(13,.val (.int .i64 (iJ l).length)),(14,.val (.int .i64 q.1))],[q.2.2,[]],
   mk rl (wm f (cH (nU (ee rl)) (iJ l) q.1))::(r++[.map (yU q.2.1)])⟩)
  (λq=>q.1<=(iJ l).length/\∀s,s∈q.2.1↔((iJ l).take q.1).any (λp=>decide (p.name=s))=true) (λq=>(iJ l).length-q.1) ((0,[],[]):Nat×List (List UInt8)×List AV) (by simp[dA,jB,cH,lX,yU]) (by simp) ?_
 rintro⟨k,ks,bb⟩ ⟨hk,nj⟩ ih;simp only at hk nj ih;by_cases aW:k<(iJ l).length;have hw:=wk k (by omega);have hb:=kj (vu:=nU (ee rl)) aW;have hr:=Af (rs:=ee rl) aW;have hlen:(dA (ee rl) ((iJ l).take k)).length=k:=by simp[dA];omega
 have ha:nH 4 40 (bD 4 (dA (ee rl) ((iJ l).take k))) [A6 (ee rl) (iJ l)[k]]=some (bD 4 (dA (ee rl) ((iJ l).take (k+1)))):=by
  rw[dV (by rfl) (by rw[hlen];simp[cR];omega),hr]
 have Z0:∀s,s∈Ej ks (iJ l)[k].name↔((iJ l).take (k+1)).any (λp=>decide (p.name=s))=true:=by
  intro s;rw[JO,nj,List.take_succ_eq_append_getElem aW,List.any_append];simp only[List.any_cons,List.any_nil,Bool.or_false,Bool.or_eq_true,decide_eq_true_eq];exact or_congr Iff.rfl eq_comm
 have SF:=nj (iJ l)[k].name;generalize hq:(iJ l)[k]=p at *;simp only[A6,T3.cells]at ha;have hi:=ih (k+1,Ej ks p.name,p.cells) ⟨by simp;omega,Z0⟩ (by simp;omega);simp only[hb,PD.cells]at hi;have lk:=λaf o bx=>SE (af:=af) (o:=o) (r:=r) (bx:=bx) (ks:=ks) p.name;have up:=λaf o bx=>XK (af:=af) (o:=o) (r:=r) (bx:=bx) (ks:=ks) p.name;by_cases hd:p.name∈ks;have uK:nU (ee rl) ((iJ l).take k) p=some p.at_:=by
  unfold nU;rw[SF.1 hd];rfl
 rw[uK,<-tH]at hi;have DF:decide (p.name∈ks)=true:=decide_eq_true hd;cases ho:(bZ (ee rl) p.on p.od).2 with
 |true=>
  simp[p2,p3,hp,aW,PD.cells,hw,hq,lk,up,DF,e1,e2,ho,ha,aU,bG,eC.bg,mc];exact hi
 |false=>
  simp[p2,p3,hp,aW,PD.cells,hw,hq,lk,up,DF,e1,e2,ho,VQ,ha,aU,bG,eC.bg,mc];exact hi
 have DF:decide (p.name∈ks)=false:=decide_eq_false hd;have aeA:((iJ l).take k).any (λq=>decide (q.name=p.name))=false:=by
  cases e:((iJ l).take k).any (λq=>decide (q.name=p.name)) with
  |false=>rfl|true=>exact absurd (SF.2 e) hd
 cases ho:(bZ (ee rl) p.on p.od).2 with
 |true=>
  have uK:nU (ee rl) ((iJ l).take k) p=none:=by unfold nU;rw[aeA,ho];rfl
  rw[uK,lX]at hi;simp[p2,p3,hp,aW,PD.cells,hw,hq,lk,up,DF,e1,ho,ha,aU,bG,eC.bg,mc];exact hi
 |false=>
  have uK:nU (ee rl) ((iJ l).take k) p=some p.at_:=by unfold nU;rw[aeA,ho];rfl
  rw[uK,<-tH]at hi;simp[p2,p3,hp,aW,PD.cells,hw,hq,lk,up,DF,e1,ho,ha,aU,bG,eC.bg,mc];exact hi
 have eK:k=(iJ l).length:=by omega
 simp[eK]
end U7
namespace U7
open Ax Go bu V7
def ga(l:List (List UInt8)):List (List AV):=l.map λs=>[.str s]
theorem sD(l:List (List UInt8)):ee (bD 1 (ga l))=l:=by simp[ee,ga,List.map_map,Function.comp_def,dSt]
theorem wE(l:List (List UInt8)):qg (bD 1 (ga l)).view=true:=by
 have h1:bX 1 (bD 1 (ga l)).view=true:=by
  rw[AU,xu];simp[bN,ga]
 simp only[qg,lT,JA,h1,DO,pN,Bool.true_and,List.all_eq_true];intro r hr;obtain⟨s,_,rfl⟩:=List.mem_map.1 hr
 rfl
theorem JP(l:List (List UInt8))(s:List UInt8):0<=vo l s↔s∈l:=by
 unfold vo;cases e:l.findIdx? λx=>decide (x=s) with
 |none=>
  rw[List.findIdx?_eq_none_iff]at e;constructor;intro h;exact absurd h (by decide);intro h;have:=e s h;simp at this
 |some k=>
  obtain⟨hk,h1,_⟩:=List.findIdx?_eq_some_iff_getElem.1 e;constructor;intro _;have:l[k]=s:=by simpa using h1
  exact this ▸ List.getElem_mem hk;intro _;show (0:Int)<=(k:Int);omega
theorem Z1{af:Nat}{rl:AV}{e x:AV}{r:aj}{bx:bF}(h:aD rl=true) :
  aV 0 af (.load false 1 true) [.val (.ptr 0 0 0 0)] (.rows 0 3 [[rl,e,x]]::r) bx=some (.val rl,.rows 0 3 [[rl.dJ,e,x]]::r,bx):=by
 cases rl<;>simp[aD]at h<;>simp[aV,dM,cut,cV,aY,AV.dJ,AV.ai,AV.ax,ag,bP]
def tJ(before:List CR)(x:CR):Option Int:=if before.any (λq=>decide (q.name=x.name)) then some x.at_ else none
def yV(rs:List (List UInt8))(_:List CR)(x:CR):Option Int:=cH (nU rs) (iJ x.cP) (iJ x.cP).length
def Ba(rs:List (List UInt8))(x:CR):List AV:=[.str x.name,(bD 4 (dA rs (iJ x.cP))).view]
def jC(rs:List (List UInt8))(l:List CR):List (List AV):=l.map (Ba rs)
theorem Lx(af:Nat)(l:AV)(f:Option Int)(r:aj)(hp:BP l=true)(hpn:(cj l).length<1000000000)(Ga:∀x∈cj l,(iJ x.cP).length<1000000000) :
  (bh S).call 0 af 76 [.ptr 0 0 0 0,l] (mk .U f::r)=some (bD 2 (jC (iK (cj l)) (cj l)),
   mk (bD 1 (ga (iK (cj l)))) (wm (wm f (cH tJ (cj l) (cj l).length)) (cH (yV (iK (cj l))) (cj l) (cj l).length))::r):=by
 have p1:=CH hp;have p2:=zR hp;have p3:=D4 hp;have e2:=λaf a rl f r=>eW af a rl f r;simp only[mk]at e2;refine ay (sf:=s76) rfl rfl rfl ?_;simp[s76,p1,p2,p3];refine bf RK.eq_1 (λq:Nat×List AV=>⟨[(0,.val (.ptr 0 0 0 0)),(1,.val l),(10,.val l),(11,.val (.int .i64 (cj l).length)),(12,.val (.int .i64 q.1))],[q.2,[]],
   mk (bD 1 (ga (iK ((cj l).take q.1)))) (wm f (cH tJ (cj l) q.1))::r⟩)
  (λq=>q.1<=(cj l).length) (λq=>(cj l).length-q.1) ((0,[]):Nat×List AV) (by simp[iK,ga,jB,cH,lX]) (by simp) ?_
 rintro⟨k,bb⟩ hk ih;simp only at hk ih;by_cases aW:k<(cj l).length;have hw:=wk k (by omega);have hb:=kj (vu:=tJ) aW;have hF:=A5 hp _ (List.getElem_mem aW);have ON:=sU hF;have Is:=pz hF;have VR:=λwl af s st=>JM wl af (bD 1 (ga (iK ((cj l).take k)))).view s st (wE _) (by simp[sD,iK];omega);simp only[mj,sD]at VR;have cA:aD (bD 1 (ga (iK ((cj l).take k))))=true:=bY;have ha:nH 1 16 (bD 1 (ga (iK ((cj l).take k)))) [[.str (cj l)[k].name]]=some (bD 1 (ga (iK ((cj l).take (k+1))))):=by
  rw[dV (by rfl) (by simp[ga,iK,cR];omega)];simp only[iK,ga,List.take_succ_eq_append_getElem aW,List.map_append,List.map_cons,List.map_nil]
 have hi:=ih (k+1,(cj l)[k].cells) (by simp;omega) (by simp;omega);simp only[hb]at hi;have AM:(cj l)[k].name∈iK ((cj l).take k)↔((cj l).take k).any (λq=>decide (q.name=(cj l)[k].name))=true:=by
  simp only[iK,List.mem_map,List.any_eq_true,decide_eq_true_eq]
 generalize hq:(cj l)[k]=p at *;simp only[CR.cells]at hi;have tk:=λaf e x r bx=>Z1 (af:=af) (e:=e) (x:=x) (r:=r) (bx:=bx) cA;by_cases hd:p.name∈iK ((cj l).take k);have uK:tJ ((cj l).take k) p=some p.at_:=by
  unfold tJ;rw[AM.1 hd];rfl
 rw[uK,<-tH]at hi;have DF:decide (0<=vo (iK ((cj l).take k)) p.name)=true:=decide_eq_true ((JP _ _).2 hd);simp[p2,p3,hp,aW,CR.cells,hw,hq,ON,Is,VR,DF,e2,ha,tk,aU,bG,eC.bg,mc];exact hi;have uK:tJ ((cj l).take k) p=none:=by
  unfold tJ;cases e:((cj l).take k).any (λq=>decide (q.name=p.name)) with
  |false=>rfl|true=>exact absurd (AM.2 e) hd
 rw[uK,lX]at hi;have DF:decide (0<=vo (iK ((cj l).take k)) p.name)=false:=decide_eq_false λh=>hd ((JP _ _).1 h);simp[p2,p3,hp,aW,CR.cells,hw,hq,ON,Is,VR,DF,ha,tk,aU,bG,eC.bg,mc];exact hi;have eK:k=(cj l).length:=by omega
 subst eK;obtain⟨g,hg⟩:∃g,g=wm f (cH tJ (cj l) (cj l).length):=⟨_,rfl⟩;obtain⟨rs,CN⟩:∃rs,rs=iK (cj l):=⟨_,rfl⟩;have ni:rs.length<1000000000:=by rw[CN];simpa [iK] using hpn
 simp only[<-hg,<-CN,List.take_length];simp[p1,p2,p3];refine bf RL.eq_1 (λq:Nat×List AV=>⟨[(0,.val (.ptr 0 0 0 0)),(7,.val (bD 2 (jC rs ((cj l).take q.1)))),(39,.val l),(40,.val (.int .i64 (cj l).length)),(41,.val (.int .i64 q.1))],[bb,q.2],
   mk (bD 1 (ga rs)) (wm g (cH (yV rs) (cj l) q.1))::r⟩)
  (λq=>q.1<=(cj l).length) (λq=>(cj l).length-q.1) ((0,[]):Nat×List AV) (by simp[jC,jB,cH,lX]) (by simp) ?_
 rintro⟨k,bb2⟩ hk ih;simp only at hk ih;by_cases aW:k<(cj l).length;have hw:=wk k (by omega);have hb:=kj (vu:=yV rs) aW;have hF:=A5 hp _ (List.getElem_mem aW);have ON:=sU hF;have Is:=pz hF;have Z2:=Ga _ (List.getElem_mem aW);have e3:=λaf f r=>A9 af (cj l)[k].cP (bD 1 (ga rs)) f r (wE _) (by rw[sD];exact ni) hF Z2;simp only[sD,mk]at e3;have ha:nH 2 40 (bD 2 (jC rs ((cj l).take k))) [Ba rs (cj l)[k]]=some (bD 2 (jC rs ((cj l).take (k+1)))):=by
  rw[dV (by rfl) (by simp[jC,cR];omega)];simp only[jC,List.take_succ_eq_append_getElem aW,List.map_append,List.map_cons,List.map_nil]
 have hi:=ih (k+1,(cj l)[k].cells) (by simp;omega) (by simp;omega);simp only[hb,yV,<-tH]at hi;generalize hq:(cj l)[k]=p at *;simp only[CR.cells]at hi;simp only[Ba]at ha;simp[p2,p3,hp,aW,CR.cells,hw,hq,ON,Is,e3,ha,aU,bG,eC.bg,mc];exact hi;have eK:k=(cj l).length:=by omega
 subst eK;simp
end U7
namespace U7
open Ax Go bu V7
def oH(rs:List (List UInt8))(x:FN):T3:=if x.bO then (bZ rs x.on x.od).1 else T0
def JQ(before:List FN)(x:FN):Option Int:=if before.any (λq=>decide (q.name=x.name)) then some x.at_ else none
def yW(rs:List (List UInt8))(x:FN):Option Int:=if x.bO && !(bZ rs x.on x.od).2 then some x.at_ else none
def xV(rs:List (List UInt8))(before:List FN)(x:FN):Option Int:=wm (wm (JQ before x) (cH (nU rs) (iJ x.params) (iJ x.params).length)) (yW rs x)
def iL(rs:List (List UInt8))(x:FN):List AV:=[.str x.name,(bD 4 (dA rs (iJ x.params))).view,.bool x.bO,.int .i64 (oH rs x).b,.int .i64 (oH rs x).r,.int .i64 (oH rs x).d]
def yX(rs:List (List UInt8))(x:FN):List AV:=[.str x.name,bD 4 (dA rs (iJ x.params)),.bool x.bO,.int .i64 (oH rs x).b,.int .i64 (oH rs x).r,.int .i64 (oH rs x).d]
def fO(rs:List (List UInt8))(l:List FN):List (List AV):=l.map (iL rs)
theorem VS(af:Nat)(l rl:AV)(f:Option Int)(r:aj)(hl:qg rl.view=true)(hn:(ee rl).length<1000000000)(hp:BQ l=true)(hpn:(dN l).length<1000000000)(Ga:∀x∈dN l,(iJ x.params).length<1000000000) :
  (bh S).call 0 af 78 [.ptr 0 0 0 0,l] (mk rl f::r)=some (bD 6 (fO (ee rl) (dN l)),mk rl (wm f (cH (xV (ee rl)) (dN l) (dN l).length))::r):=by
 have p1:=CI hp;have p2:=zS hp;have p3:=JC hp;have e1:=λaf s d a f r=>Ae af s d a rl f r hl hn;have e2:=λaf a f r=>eW af a rl f r;simp only[T3.cells,mk]at e1 e2;refine ay (sf:=s78) rfl rfl rfl ?_;simp[s78,p1,p2,p3];refine bf RN.eq_1 (λq:Nat×List (List UInt8)×List AV×List AV=>⟨[(0,.val (.ptr 0 0 0 0)),(5,.val (bD 6 (fO (ee rl) ((dN l).take q.1)))),(6,.val (.map (r.length+1))),(13,.val l),(14,.val (.int .i64 (dN l).length)),(15,.val (.int .i64 q.1))],[q.2.2.1,[],q.2.2.2],
   mk rl (wm f (cH (xV (ee rl)) (dN l) q.1))::(r++[.map (yU q.2.1)])⟩)
  (λq=>q.1<=(dN l).length/\∀s,s∈q.2.1↔((dN l).take q.1).any (λp=>decide (p.name=s))=true) (λq=>(dN l).length-q.1) ((0,[],[],[]):Nat×List (List UInt8)×List AV×List AV) (by simp[fO,jB,cH,lX,yU]) (by simp) ?_
 rintro⟨k,ks,bb,bb2⟩ ⟨hk,nj⟩ ih;simp only at hk nj ih;by_cases aW:k<(dN l).length;have hw:=wk k (by omega);have hb:=kj (vu:=xV (ee rl)) aW;have hG:=Gh hp _ (List.getElem_mem aW);have ON:=sU hG.1;have Is:=pz hG.1;have JR:=hG.2.2;have XL:=wh hG.2.1 hG.2.2;have Z2:=Ga _ (List.getElem_mem aW);have e3:=λaf f r=>A9 af (dN l)[k].params rl f r hl hn hG.1 Z2;simp only[mk]at e3;have ha:nH 6 72 (bD 6 (fO (ee rl) ((dN l).take k))) [iL (ee rl) (dN l)[k]]=some (bD 6 (fO (ee rl) ((dN l).take (k+1)))):=by
  rw[dV (by rfl) (by simp[fO,cR];omega)];simp only[fO,List.take_succ_eq_append_getElem aW,List.map_append,List.map_cons,List.map_nil]
 have Z0:∀s,s∈Ej ks (dN l)[k].name↔((dN l).take (k+1)).any (λp=>decide (p.name=s))=true:=by
  intro s;rw[JO,nj,List.take_succ_eq_append_getElem aW,List.any_append];simp only[List.any_cons,List.any_nil,Bool.or_false,Bool.or_eq_true,decide_eq_true_eq];exact or_congr Iff.rfl eq_comm
 have SF:=nj (dN l)[k].name;generalize hq:(dN l)[k]=p at *;have hi:=ih (k+1,Ej ks p.name,p.cells,yX (ee rl) p) ⟨by simp;omega,Z0⟩ (by simp;omega);simp only[hb,xV,<-tH,FN.cells]at hi;have lk:=λaf o bx=>SE (af:=af) (o:=o) (r:=r) (bx:=bx) (ks:=ks) p.name;have up:=λaf o bx=>XK (af:=af) (o:=o) (r:=r) (bx:=bx) (ks:=ks) p.name;have hD:JQ ((dN l).take k) p=if p.name∈ks then some p.at_ else none:=by
  unfold JQ;by_cases hd:p.name∈ks;rw[if_pos hd,if_pos (SF.1 hd)];rw[if_neg hd,if_neg λh=>hd (SF.2 h)]
 rw[hD]at hi;by_cases hd:p.name∈ks;have DF:decide (p.name∈ks)=true:=decide_eq_true hd;rw[if_pos hd]at hi;cases hh:p.bO with
 |false=>
  simp[hh,yW,iL,yX,oH,lX]at hi ha;simp[p2,p3,hp,aW,FN.cells,hw,hq,lk,up,DF,e2,e3,ON,Is,JR,XL,hh,ha,aU,bG,eC.bg,mc];exact hi
 |true=>
  cases ho:(bZ (ee rl) p.on p.od).2 with
  |true=>
   simp[hh,yW,iL,yX,oH,lX,ho]at hi ha;simp[p2,p3,hp,aW,FN.cells,hw,hq,lk,up,DF,e1,e2,e3,ON,Is,JR,XL,hh,ho,ha,aU,bG,eC.bg,mc];exact hi
  |false=>
   simp[hh,yW,iL,yX,oH,ho]at hi ha;simp[p2,p3,hp,aW,FN.cells,hw,hq,lk,up,DF,e1,e2,e3,ON,Is,JR,XL,hh,ho,ha,aU,bG,eC.bg,mc];exact hi
 have DF:decide (p.name∈ks)=false:=decide_eq_false hd;rw[if_neg hd,lX]at hi;cases hh:p.bO with
 |false=>
  simp[hh,yW,iL,yX,oH,lX]at hi ha;simp[p2,p3,hp,aW,FN.cells,hw,hq,lk,up,DF,e3,ON,Is,JR,XL,hh,ha,aU,bG,eC.bg,mc];exact hi
 |true=>
  cases ho:(bZ (ee rl) p.on p.od).2 with
  |true=>
   simp[hh,yW,iL,yX,oH,lX,ho]at hi ha;simp[p2,p3,hp,aW,FN.cells,hw,hq,lk,up,DF,e1,e3,ON,Is,JR,XL,hh,ho,ha,aU,bG,eC.bg,mc];exact hi
  |false=>
   simp[hh,yW,iL,yX,oH,ho]at hi ha;simp[p2,p3,hp,aW,FN.cells,hw,hq,lk,up,DF,e1,e3,ON,Is,JR,XL,hh,ho,ha,aU,bG,eC.bg,mc];exact hi
 have eK:k=(dN l).length:=by omega
 simp[eK]
def Ah:List UInt8:=[109,97,105,110]
def eO(x:FN):Bool:=decide (x.name=Ah)&&decide (iJ x.params=[]) && !x.bO
theorem OO(wl af:Nat)(rs:List (List UInt8))(x:FN)(st:aj):(bh S).call wl af 80 [.agg (iL rs x)] st=some (.bool (eO x),st):=by
 refine bL (sf:=s80) rfl rfl (by simp[iL,AV.ai,AV.ax]) rfl (by simp) ?_;unfold eO;by_cases a:x.name=Ah;by_cases b:iJ x.params=[];simp[s80,iL,Ah,a,b,dA];have b':¬(iJ x.params).length=0:=by simpa using b
 simp[s80,iL,Ah,a,b,b',dA];simp only[Ah]at a;simp[s80,iL,Ah,a]
def tK(l:List FN):Int:=match l.findIdx? eO with
 |some k=>k|none=>-1
theorem Bb(wl af:Nat)(rs:List (List UInt8))(l:List FN)(st:aj)(hn:l.length<1000000000) :
  (bh S).call wl af 79 [(bD 6 (fO rs l)).view,.fn 80 [] []] st=some (.int .i64 (tK l),st):=by
 have hm:=λwl af x st=>OO wl af rs x st;have hz:bX 6 (bD 6 (fO rs l)).view=true:=by rw[AU,xu];simp[bN,fO,iL]
 have hr:aM (bD 6 (fO rs l)).view=l.map (iL rs):=by simp[fO]
 have hs:=pg hz;have hv:(bD 6 (fO rs l)).view.view=(bD 6 (fO rs l)).view:=oK _;generalize (bD 6 (fO rs l)).view=v at *;have l6:∀x,(iL rs x).length=6:=λ_=>rfl;have t6:∀x,List.take 6 (iL rs x)=iL rs x:=λ_=>rfl;have v6:∀x,AV.cq (iL rs x)=iL rs x:=by intro x;simp[iL,AV.cq,AV.view]
 refine ay (sf:=s79) rfl (by simp[zi,s79]) rfl ?_;simp[s79,hs,hr,hv];refine bf Lc.eq_1 (λq:Nat×Nat=>⟨[(0,.val v),(1,.val (.fn 80 [] [])),(7,.val (.int .i64 l.length)),(8,.val (.int .i64 q.1))],[],st⟩)
  (λq=>q.1<=l.length/\Cl eO l q.1) (λq=>l.length-q.1) ((0,0):Nat×Nat) (by simp) ⟨by simp,qM⟩ ?_
 rintro⟨k,b⟩ ⟨hk,hp⟩ ih;simp only at hk hp ih;by_cases aW:k<l.length;have hw:=wk k (by omega);have VT:=λwl af st=>hm wl af l[k] st;cases e:eO l[k] with
 |true=>
  have hi:tK l=k:=by
   have:l.findIdx? eO=some k:=by
    rw[List.findIdx?_eq_some_iff_getElem];exact⟨aW,e,λj hj=>by simp[hp j (by omega) hj]⟩
   unfold tK;rw[this]
  simp[hz,hr,hv,aW,VT,e,hi,l6,t6,v6]
 |false=>
  simp[hz,hr,hv,aW,VT,e,hw,l6,t6,v6];exact ih (k+1,0) ⟨by simp;omega,qN hp aW e⟩ (by simp;omega)
 have eK:k=l.length:=by omega
 have hi:tK l = -1:=by
  have:l.findIdx? eO=none:=by
   rw[List.findIdx?_eq_none_iff];intro x hx;obtain⟨j,hj,rfl⟩:=List.mem_iff_getElem.1 hx;exact hp j hj (eK ▸ hj)
  unfold tK;rw[this]
 simp[aW,hi]
end U7
namespace U7
open Ax Go bu V7
def qi:AV:=.agg [.U,.U,.U,.int .i64 0]
def wF(p:GD):AV:=.agg [(bD 2 (jC (iK (cj p.aR)) (cj p.aR))).view,(bD 4 (dA (iK (cj p.aR)) (iJ p.globals))).view,(bD 6 (fO (iK (cj p.aR)) (dN p.funcs))).view,.int .i64 (tK (dN p.funcs))]
def lY(p:GD):Option Int:=wm (wm (wm (wm none (cH tJ (cj p.aR) (cj p.aR).length)) (cH (yV (iK (cj p.aR))) (cj p.aR) (cj p.aR).length)) (cH (nU (iK (cj p.aR))) (iJ p.globals) (iJ p.globals).length))
 (cH (xV (iK (cj p.aR))) (dN p.funcs) (dN p.funcs).length)
def iS(p:GD):Option Int:=if tK (dN p.funcs)<0 then wm (lY p) (some 0) else lY p
def yY(p:GD):AV:=.fm [match iS p with|some _=>qi|none=>wF p,.agg [.int .i64 (fE (iS p)),.int .i64 (fX (iS p))]]
structure GD.sm (p:GD):Prop where
 aR:(cj p.aR).length<1000000000
 cP:∀x∈cj p.aR,(iJ x.cP).length<1000000000
 globals:(iJ p.globals).length<1000000000
 funcs:(dN p.funcs).length<1000000000
 params:∀x∈dN p.funcs,(iJ x.params).length<1000000000
theorem xF(wl af:Nat)(p:GD)(st:aj)(hp:p.ok)(hs:GD.sm p):(bh S).call wl af 41 [.agg p.cells] st=some (yY p,st):=by
 have p1:=CH hp.aR;have p2:=zR hp.aR;have g1:=sU hp.globals;have g2:=pz hp.globals;have f1:=CI hp.funcs;have f2:=zS hp.funcs;have OP:(iK (cj p.aR)).length<1000000000:=by simpa [iK] using hs.aR
 have er:∀af r,(bh S).call 0 af 76 [.ptr 0 0 0 0,p.aR] (.rows 0 3 [[.U,.int .i64 0,.int .i64 0]]::r)=_:=λaf r=>Lx af p.aR none r hp.aR hs.aR hs.cP;have eg:=λaf f r=>A9 af p.globals (bD 1 (ga (iK (cj p.aR)))) f r (wE _) (by rw[sD];exact OP) hp.globals hs.globals;have ef:=λaf f r=>VS af p.funcs (bD 1 (ga (iK (cj p.aR)))) f r (wE _) (by rw[sD];exact OP) hp.funcs hs.funcs hs.params;have ei:=λwl af st=>Bb wl af (iK (cj p.aR)) (dN p.funcs) st hs.funcs;have e2:=λaf a rl f r=>eW af a rl f r;simp only[sD,mk]at er eg ef e2;refine bL (sf:=s41) rfl rfl (by simp[GD.cells,AV.ai,AV.ax,p1,g1,f1]) rfl (by cases h:iS p<;>simp[yY,h,qi,wF,AV.ax,AV.ai]) ?_;unfold yY iS;have hm3:lY p=lY p:=rfl;conv at hm3=>lhs;unfold lY
 generalize lY p=F at *;by_cases hm:tK (dN p.funcs)<0;obtain⟨y,hy⟩:∃y,wm F (some 0)=some y:=by cases F<;>exact⟨_,rfl⟩
 simp[s41,GD.cells,p1,p2,g1,g2,f1,f2,er,eg,ef,ei,e2,hm,hm3,aU,bG,eC.bg,mc];simp[hy,fE,fX,qi,aU,bG,eC.bg];simp[s41,GD.cells,p1,p2,g1,g2,f1,f2,er,eg,ef,ei,hm,hm3,aU,bG,eC.bg,mc];cases F with
 |some y=>simp[fE,fX,qi,aU,bG,eC.bg]|none=>simp[fE,fX,wF,eC.bg]
end U7
