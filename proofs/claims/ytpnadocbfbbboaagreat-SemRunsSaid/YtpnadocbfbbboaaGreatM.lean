/- Part of a proof. -/
import Derived.Test.YtpnadocbfbbboaaGreatCode2
import Derived.Test.YtpnadocbfbbboaaGreatP
import Derived.KernelRfl

open List renaming map_cons->abn,take_succ_eq_append_getElem->abu,map_append->ac4,map_nil->aeg,any_append->ahV,any_cons->ajf,findIdx?_eq_none_iff->ae8,findIdx?_eq_some_iff_getElem->adx,getElem_mem->aaq
open Bool renaming or_false->ajg,or_eq_true->acJ
set_option maxRecDepth 100000
set_option maxHeartbeats 4000000
namespace U7
open Ax Go bY V7
theorem K0(wl aa:Nat)(l:AV)(s:List UInt8)(st:ay)(hl:qT l=true)(hn:(eU l).length<1000000000) :
  (aZ S).call wl aa 115 [l,.str s] st=some (.int .i64 (wQ (eU l) s),st):=by
 have h1:=yy hl;have h2:=xI hl;have h3:=KO hl;refine bT (sf:=T5) rfl rfl (by simp[cI h1]) rfl (by simp) ?_;simp[T5,h1,h2,h3];refine bH IF.eq_1 (λq:Nat×Int=>⟨[(0,.val l),(1,.val (.str s)),(7,.val (.int .i64 (eU l).length)),(8,.val (.int .i64 q.1))],[],[]⟩)
  (λq=>q.1<=(eU l).length/\C5 (λx=>decide (x=s)) (eU l) q.1) (λq=>(eU l).length-q.1) (0,0) (by simp) ⟨by simp,rR⟩ ?_
 rintro⟨k,bb⟩ ⟨hk,hp⟩ ih;simp only at hk hp ih;by_cases bC:k<(eU l).length;have hw:=wk k (by omega);by_cases e:(eU l)[k]=s;have hi:=IN hp bC e;simp[hl,h2,h3,bC,e,hi];have e':¬s=(eU l)[k]:=λh=>e h.symm;simp[hl,h2,h3,bC,e',hw];exact ih (k+1,0) ⟨by simp;omega,rS hp bC (by simpa using e)⟩ (by simp;omega);have fR:k=(eU l).length:=by omega
 have hi:=BP (fR ▸ hp);simp[bC,hi]
theorem DC{l:List (List UInt8)}{s:List UInt8}{d:Int}(h:d<0\/3<d):cB l s d=(T0,false):=ah h
theorem AQ(wl aa:Nat)(l:AV)(s:List UInt8)(d:Int)(st:ay)(hl:qT l=true)(hn:(eU l).length<1000000000) :
  (aZ S).call wl aa 116 [l,.agg [.str s,.int .i64 d]] st=some (.fK [.agg (cB (eU l) s d).1.cells,.bool (cB (eU l) s d).2],st):=by
 have h1:=yy hl;have h2:=xI hl;have hi:=K0 0 0 l s [] hl hn;refine bT (sf:=zC) rfl rfl (by simp[cI h1]) rfl (by simp[AV.aB,AV.ax]) ?_;by_cases d0:d<0;rw[DC (.inl d0)];simp[zC,d0];by_cases d3:3<d;rw[DC (.inr d3)];simp[zC,d0,d3];have hd:¬(d<0\/3<d):=by omega
 unfold cB;rw[U hd];by_cases i1:s=[105,110,116];simp[zC,d0,d3,i1];by_cases i2:s=[98,111,111,108];simp[zC,d0,d3,i2];rw[U i1,U i2];by_cases i3:wQ (eU l) s<0;simp[zC,d0,d3,i1,i2,hi,i3];simp[zC,d0,d3,i1,i2,hi,i3]
end U7
namespace U7
open Ax Go bY V7
def fE(f:Option Int):Int:=match f with|some _=>3|none=>0
def fX(f:Option Int):Int:=match f with|some x=>x|none=>0
@[simp]def mk(rl:AV)(f:Option Int):dA:=.rows 0 3 [[rl,.int .i64 (fE f),.int .i64 (fX f)]]
theorem fO(aa:Nat)(a:Int)(rl:AV)(f:Option Int)(r:ay) :
  (aZ S).call 0 aa 73 [.ptr 0 0 0 0,.int .i64 a] (mk rl f::r)=some (.fK [],mk rl (xJ f (some a))::r):=by
 refine aA (sf:=s73) rfl rfl rfl ?_;cases f with
 |none=>simp[s73,fE,fX,xJ,aV,au,cut,AV.ax,AV.aB]|some x=>simp[s73,fE,fX,xJ,cut,AV.ax,AV.aB]
theorem AR(aa:Nat)(s:List UInt8)(d a:Int)(rl:AV)(f:Option Int)(r:ay)(hl:qT rl.ai=true)(hn:(eU rl).length<1000000000) :
  (aZ S).call 0 aa 94 [.ptr 0 0 0 0,.agg [.str s,.int .i64 d],.int .i64 a] (mk rl f::r)=some (.agg (cB (eU rl) s d).1.cells,mk rl (if (cB (eU rl) s d).2 then f else xJ f (some a))::r):=by
 have h1:aN rl=true:=by simpa using yy hl
 have e1:=λwl aa st=>AQ wl aa rl.ai s d st hl (by simpa using hn);have e2:=λaa=>fO aa a rl f r;simp only[mI]at e1;refine aA (sf:=s94) rfl rfl rfl ?_;generalize cB (eU rl) s d=z at *;obtain⟨u,o⟩:=z;simp only[T3.cells]at e1;simp only[mk]at e2;cases o with
 |true=>simp[s94,cut,e1,bg,bO,gq.bV,mF,AV.ax,AV.aB]|false=>simp[s94,cut,e1,e2,bg,bO,gq.bV,mF,AV.ax,AV.aB]
theorem K1(wl aa:Nat)(l:AV)(s:List UInt8)(st:ay)(hl:qT l=true)(hn:(eU l).length<1000000000) :
  (aZ S).call wl aa 93 [l,.str s] st=some (.bool (decide (0<=wQ (eU l) s)),st):=by
 have h1:=yy hl;have h2:=xI hl;have e:=K0 0 0 l s [] hl hn;refine bT (sf:=s93) rfl rfl (by simp[cI h1]) rfl (by simp) ?_;simp[s93,e]
def zJ(ks:List (List UInt8)):List (AV×AV):=ks.map λs=>(.str s,.agg [])
theorem HH(s:List UInt8):∀ks,tA .str (.str s) (zJ ks)=some (if s∈ks then some (.agg []) else none)
 |[]=>rfl|a::ks=>by
  have ih:=HH s ks;simp only[zJ]at ih;simp only[zJ,abn,tA,FX];by_cases h:a=s;simp[h];have:(s==a)=false:=beq_eq_false_iff_ne.2 λe=>h e.symm;have h':¬s=a:=λe=>h e.symm;rw[this];simp[ih,h']
def Fj(ks:List (List UInt8))(s:List UInt8):List (List UInt8):=if s∈ks then ks else ks++[s]
theorem K2(s:List UInt8):∀ks,Ge .str (.str s) (.agg []) (zJ ks)=some (zJ (Fj ks s))
 |[]=>rfl|a::ks=>by
  have ih:=K2 s ks;simp only[zJ]at ih;simp only[zJ,abn,Ge,FX];by_cases h:a=s;simp[h,Fj];have:(s==a)=false:=beq_eq_false_iff_ne.2 λe=>h e.symm;have h':¬s=a:=λe=>h e.symm;rw[this];simp only[ih];by_cases hm:s∈ks;simp[Fj,hm];simp[Fj,hm,h']
theorem K3(ks:List (List UInt8))(s t:List UInt8):t∈Fj ks s↔t∈ks\/t=s:=by
 unfold Fj;split;constructor;exact .inl;rintro (h|rfl)<;>assumption;simp
variable{aa:Nat}{bx:bG}{ks:List (List UInt8)}
@[simp]theorem aen{wl:Nat}{st:ay}:bn wl aa .makeMap [] st bx=some (.val (.map st.length),st++[.map []],bx):=rfl
theorem ZP{o:dA}{r:ay}(s:List UInt8) :
  bn 0 aa (.mapUpdate .str) [.val (.map (r.length+1)),.val (.str s),.val (.agg [])] (o::(r++[.map (zJ ks)])) bx=some (.none,o::(r++[.map (zJ (Fj ks s))]),bx):=by
 simp[bn,Gz,aV,AV.ax,AV.aB,AV.ai,AV.cW,K2]
theorem UE{o:dA}{r:ay}(s:List UInt8) :
  bn 0 aa (.lookup .str (.agg []) true) [.val (.map (r.length+1)),.val (.str s)] (o::(r++[.map (zJ ks)])) bx=some (.val (.fK [.agg [],.bool (decide (s∈ks))]),o::(r++[.map (zJ ks)]),bx):=by
 simp only[bn,List.getElem?_cons_succ,Gz,aQ];by_cases h:s∈ks<;>simp[h,HH]
theorem kR{α:Type}{nB:List α->α->Option Int}{l:List α}{k:Nat}(h:k<l.length):dy nB l (k+1)=xJ (dy nB l k) (nB (l.take k) l[k]):=by
 simp[dy,h]
theorem u0(a b c:Option Int):xJ (xJ a b) c=xJ a (xJ b c):=by cases a<;>rfl
theorem mz(a:Option Int):xJ a none=a:=by cases a<;>rfl
theorem XU(a:Option Int)(x:Int):xJ (xJ a (some x)) (some x)=xJ a (some x):=by cases a<;>rfl
theorem AS{rs:List (List UInt8)}{l:List PD}{k:Nat}(h:k<l.length):dY rs (l.take (k+1))=dY rs (l.take k)++[BT rs l[k]]:=by
 simp only[dY,abu h,ac4,abn,aeg]
theorem BY(aa:Nat)(l:AV)(rl:AV)(f:Option Int)(r:ay)(hl:qT rl.ai=true)(hn:(eU rl).length<1000000000)(hp:BR l=true)(hpn:(jg l).length<1000000000) :
  (aZ S).call 0 aa 69 [.ptr 0 0 0 0,l] (mk rl f::r)=some (bK 4 (dY (eU rl) (jg l)),mk rl (xJ f (dy (pE (eU rl)) (jg l) (jg l).length))::r):=by
 have p1:=uu hp;have p2:=pY hp;have p3:=OR hp;have e1:=λaa s d a f r=>AR aa s d a rl f r hl hn;have e2:=λaa a f r=>fO aa a rl f r;simp only[T3.cells,mk]at e1 e2;refine aA (sf:=s69) rfl rfl rfl ?_;simp[s69,p1,p2,p3];refine bH TO.eq_1 (λq:Nat×List (List UInt8)×List AV=>⟨[(0,.val (.ptr 0 0 0 0)),(5,.val (bK 4 (dY (eU rl) ((jg l).take q.1)))),(6,.val (.map (r.length+1))),(12,.val l),(13,.val (.int .i64 (jg l).length)),(14,.val (.int .i64 q.1))],[q.2.2,[]],
   mk rl (xJ f (dy (pE (eU rl)) (jg l) q.1))::(r++[.map (zJ q.2.1)])⟩)
  (λq=>q.1<=(jg l).length/\∀s,s∈q.2.1↔((jg l).take q.1).any (λp=>decide (p.name=s))=true) (λq=>(jg l).length-q.1) ((0,[],[]):Nat×List (List UInt8)×List AV) (by simp[dY,kq,dy,mz,zJ]) (by simp) ?_
 rintro⟨k,ks,bb⟩ ⟨hk,vJ⟩ ih;simp only at hk vJ ih;by_cases bC:k<(jg l).length;have hw:=wk k (by omega);have hb:=kR (nB:=pE (eU rl)) bC;have hr:=AS (rs:=eU rl) bC;have hlen:(dY (eU rl) ((jg l).take k)).length=k:=by simp[dY];omega
 have ha:oP 4 40 (bK 4 (dY (eU rl) ((jg l).take k))) [BT (eU rl) (jg l)[k]]=some (bK 4 (dY (eU rl) ((jg l).take (k+1)))):=by
  rw[eO (by rfl) (by rw[hlen];simp[cN];omega),hr]
 have ab5:∀s,s∈Fj ks (jg l)[k].name↔((jg l).take (k+1)).any (λp=>decide (p.name=s))=true:=by
  intro s;rw[K3,vJ,abu bC,ahV];simp only[ajf,List.any_nil,ajg,acJ,aK];exact or_congr Iff.rfl eq_comm
 have UF:=vJ (jg l)[k].name;generalize hq:(jg l)[k]=p at *;simp only[BT,T3.cells]at ha;have hi:=ih (k+1,Fj ks p.name,p.cells) ⟨by simp;omega,ab5⟩ (by simp;omega);simp only[hb,PD.cells]at hi;have lk:=λaa o bx=>UE (aa:=aa) (o:=o) (r:=r) (bx:=bx) (ks:=ks) p.name;have up:=λaa o bx=>ZP (aa:=aa) (o:=o) (r:=r) (bx:=bx) (ks:=ks) p.name;by_cases hd:p.name∈ks;have wo:pE (eU rl) ((jg l).take k) p=some p.at_:=by
  unfold pE;rw[UF.1 hd];rfl
 rw[wo,<-u0]at hi;have Ew:decide (p.name∈ks)=true:=bM hd;cases ho:(cB (eU rl) p.on p.od).2 with
 |true=>
  simp[p2,p3,hp,bC,PD.cells,hw,hq,lk,up,Ew,e1,e2,ho,ha,bg,bO,gq.bV,mF];exact hi
 |false=>
  simp[p2,p3,hp,bC,PD.cells,hw,hq,lk,up,Ew,e1,e2,ho,XU,ha,bg,bO,gq.bV,mF];exact hi
 have Ew:decide (p.name∈ks)=false:=cu hd;have agJ:((jg l).take k).any (λq=>decide (q.name=p.name))=false:=by
  cases e:((jg l).take k).any (λq=>decide (q.name=p.name)) with
  |false=>rfl|true=>exact aU (UF.2 e) hd
 cases ho:(cB (eU rl) p.on p.od).2 with
 |true=>
  have wo:pE (eU rl) ((jg l).take k) p=none:=by unfold pE;rw[agJ,ho];rfl
  rw[wo,mz]at hi;simp[p2,p3,hp,bC,PD.cells,hw,hq,lk,up,Ew,e1,ho,ha,bg,bO,gq.bV,mF];exact hi
 |false=>
  have wo:pE (eU rl) ((jg l).take k) p=some p.at_:=by unfold pE;rw[agJ,ho];rfl
  rw[wo,<-u0]at hi;simp[p2,p3,hp,bC,PD.cells,hw,hq,lk,up,Ew,e1,ho,ha,bg,bO,gq.bV,mF];exact hi
 have fR:k=(jg l).length:=by omega
 simp[fR]
end U7
namespace U7
open Ax Go bY V7
def gQ(l:List (List UInt8)):List (List AV):=l.map λs=>[.str s]
theorem tT(l:List (List UInt8)):eU (bK 1 (gQ l))=l:=by simp[eU,gQ,List.map_map,Function.comp_def,dSt]
theorem xP(l:List (List UInt8)):qT (bK 1 (gQ l)).ai=true:=by
 have h1:cJ 1 (bK 1 (gQ l)).ai=true:=by
  rw[BI,Au];simp[cn,gQ]
 simp only[qT,mq,KN,h1,EH,sH,Bool.true_and,List.all_eq_true];intro r hr;obtain⟨s,_,rfl⟩:=List.mem_map.1 hr
 rfl
theorem K4(l:List (List UInt8))(s:List UInt8):0<=wQ l s↔s∈l:=by
 unfold wQ;cases e:l.findIdx? λx=>decide (x=s) with
 |none=>
  rw[ae8]at e;constructor;intro h;exact aU h (by decide);intro h;have:=e s h;simp at this
 |some k=>
  obtain⟨hk,h1,_⟩:=adx.1 e;constructor;intro _;have:l[k]=s:=by simpa using h1
  exact this ▸ aaq hk;intro _;show (0:Int)<=(k:Int);omega
theorem ab6{aa:Nat}{rl:AV}{e x:AV}{r:ay}{bx:bG}(h:aN rl=true) :
  bn 0 aa (.load false 1 true) [.val (.ptr 0 0 0 0)] (.rows 0 3 [[rl,e,x]]::r) bx=some (.val rl,.rows 0 3 [[rl.jX,e,x]]::r,bx):=by
 cases rl<;>simp[aN]at h<;>simp[bn,iT,cut,fo,aV,AV.jX,AV.ax,AV.aB,au,cm]
def sU(before:List CR)(x:CR):Option Int:=if before.any (λq=>decide (q.name=x.name)) then some x.at_ else none
def AT(rs:List (List UInt8))(_:List CR)(x:CR):Option Int:=dy (pE rs) (jg x.jo) (jg x.jo).length
def BZ(rs:List (List UInt8))(x:CR):List AV:=[.str x.name,(bK 4 (dY rs (jg x.jo))).ai]
def j6(rs:List (List UInt8))(l:List CR):List (List AV):=l.map (BZ rs)
theorem M7(aa:Nat)(l:AV)(f:Option Int)(r:ay)(hp:Cy l=true)(hpn:(cx l).length<1000000000)(Om:∀x∈cx l,(jg x.jo).length<1000000000) :
  (aZ S).call 0 aa 68 [.ptr 0 0 0 0,l] (mk .af f::r)=some (bK 2 (j6 (jh (cx l)) (cx l)),
   mk (bK 1 (gQ (jh (cx l)))) (xJ (xJ f (dy sU (cx l) (cx l).length)) (dy (AT (jh (cx l))) (cx l) (cx l).length))::r):=by
 have p1:=Dv hp;have p2:=AD hp;have p3:=E4 hp;have e2:=λaa a rl f r=>fO aa a rl f r;simp only[mk]at e2;refine aA (sf:=s68) rfl rfl rfl ?_;simp[s68,p1,p2,p3];refine bH TM.eq_1 (λq:Nat×List AV=>⟨[(0,.val (.ptr 0 0 0 0)),(1,.val l),(10,.val l),(11,.val (.int .i64 (cx l).length)),(12,.val (.int .i64 q.1))],[q.2,[]],
   mk (bK 1 (gQ (jh ((cx l).take q.1)))) (xJ f (dy sU (cx l) q.1))::r⟩)
  (λq=>q.1<=(cx l).length) (λq=>(cx l).length-q.1) ((0,[]):Nat×List AV) (by simp[jh,gQ,kq,dy,mz]) (by simp) ?_
 rintro⟨k,bb⟩ hk ih;simp only at hk ih;by_cases bC:k<(cx l).length;have hw:=wk k (by omega);have hb:=kR (nB:=sU) bC;have hF:=BS hp _ (aaq bC);have QD:=uu hF;have JC:=pY hF;have XV:=λwl aa s st=>K1 wl aa (bK 1 (gQ (jh ((cx l).take k)))).ai s st (xP _) (by simp[tT,jh];omega);simp only[mI,tT]at XV;have cT:aN (bK 1 (gQ (jh ((cx l).take k))))=true:=ct;have ha:oP 1 16 (bK 1 (gQ (jh ((cx l).take k)))) [[.str (cx l)[k].name]]=some (bK 1 (gQ (jh ((cx l).take (k+1))))):=by
  rw[eO (by rfl) (by simp[gQ,jh,cN];omega)];simp only[jh,gQ,abu bC,ac4,abn,aeg]
 have hi:=ih (k+1,(cx l)[k].cells) (by simp;omega) (by simp;omega);simp only[hb]at hi;have Bv:(cx l)[k].name∈jh ((cx l).take k)↔((cx l).take k).any (λq=>decide (q.name=(cx l)[k].name))=true:=by
  simp only[jh,List.mem_map,List.any_eq_true,aK]
 generalize hq:(cx l)[k]=p at *;simp only[CR.cells]at hi;have tk:=λaa e x r bx=>ab6 (aa:=aa) (e:=e) (x:=x) (r:=r) (bx:=bx) cT;by_cases hd:p.name∈jh ((cx l).take k);have wo:sU ((cx l).take k) p=some p.at_:=by
  unfold sU;rw[Bv.1 hd];rfl
 rw[wo,<-u0]at hi;have Ew:decide (0<=wQ (jh ((cx l).take k)) p.name)=true:=bM ((K4 _ _).2 hd);simp[p2,p3,hp,bC,CR.cells,hw,hq,QD,JC,XV,Ew,e2,ha,tk,bg,bO,gq.bV,mF];exact hi;have wo:sU ((cx l).take k) p=none:=by
  unfold sU;cases e:((cx l).take k).any (λq=>decide (q.name=p.name)) with
  |false=>rfl|true=>exact aU (Bv.2 e) hd
 rw[wo,mz]at hi;have Ew:decide (0<=wQ (jh ((cx l).take k)) p.name)=false:=cu λh=>hd ((K4 _ _).1 h);simp[p2,p3,hp,bC,CR.cells,hw,hq,QD,JC,XV,Ew,ha,tk,bg,bO,gq.bV,mF];exact hi;have fR:k=(cx l).length:=by omega
 subst fR;obtain⟨g,hg⟩:∃g,g=xJ f (dy sU (cx l) (cx l).length):=⟨_,rfl⟩;obtain⟨rs,DD⟩:∃rs,rs=jh (cx l):=⟨_,rfl⟩;have qi:rs.length<1000000000:=by rw[DD];simpa [jh] using hpn
 simp only[<-hg,<-DD,List.take_length];simp[p1,p2,p3];refine bH TN.eq_1 (λq:Nat×List AV=>⟨[(0,.val (.ptr 0 0 0 0)),(7,.val (bK 2 (j6 rs ((cx l).take q.1)))),(39,.val l),(40,.val (.int .i64 (cx l).length)),(41,.val (.int .i64 q.1))],[bb,q.2],
   mk (bK 1 (gQ rs)) (xJ g (dy (AT rs) (cx l) q.1))::r⟩)
  (λq=>q.1<=(cx l).length) (λq=>(cx l).length-q.1) ((0,[]):Nat×List AV) (by simp[j6,kq,dy,mz]) (by simp) ?_
 rintro⟨k,bb2⟩ hk ih;simp only at hk ih;by_cases bC:k<(cx l).length;have hw:=wk k (by omega);have hb:=kR (nB:=AT rs) bC;have hF:=BS hp _ (aaq bC);have QD:=uu hF;have JC:=pY hF;have hFn:=Om _ (aaq bC);have e3:=λaa f r=>BY aa (cx l)[k].jo (bK 1 (gQ rs)) f r (xP _) (by rw[tT];exact qi) hF hFn;simp only[tT,mk]at e3;have ha:oP 2 40 (bK 2 (j6 rs ((cx l).take k))) [BZ rs (cx l)[k]]=some (bK 2 (j6 rs ((cx l).take (k+1)))):=by
  rw[eO (by rfl) (by simp[j6,cN];omega)];simp only[j6,abu bC,ac4,abn,aeg]
 have hi:=ih (k+1,(cx l)[k].cells) (by simp;omega) (by simp;omega);simp only[hb,AT,<-u0]at hi;generalize hq:(cx l)[k]=p at *;simp only[CR.cells]at hi;simp only[BZ]at ha;simp[p2,p3,hp,bC,CR.cells,hw,hq,QD,JC,e3,ha,bg,bO,gq.bV,mF];exact hi;have fR:k=(cx l).length:=by omega
 subst fR;simp
end U7
namespace U7
open Ax Go bY V7
def o9(rs:List (List UInt8))(x:FN):T3:=if x.cP then (cB rs x.on x.od).1 else T0
def K5(before:List FN)(x:FN):Option Int:=if before.any (λq=>decide (q.name=x.name)) then some x.at_ else none
def AU(rs:List (List UInt8))(x:FN):Option Int:=if x.cP && !(cB rs x.on x.od).2 then some x.at_ else none
def zK(rs:List (List UInt8))(before:List FN)(x:FN):Option Int:=xJ (xJ (K5 before x) (dy (pE rs) (jg x.params) (jg x.params).length)) (AU rs x)
def ji(rs:List (List UInt8))(x:FN):List AV:=[.str x.name,(bK 4 (dY rs (jg x.params))).ai,.bool x.cP,.int .i64 (o9 rs x).b,.int .i64 (o9 rs x).r,.int .i64 (o9 rs x).d]
def zL(rs:List (List UInt8))(x:FN):List AV:=[.str x.name,bK 4 (dY rs (jg x.params)),.bool x.cP,.int .i64 (o9 rs x).b,.int .i64 (o9 rs x).r,.int .i64 (o9 rs x).d]
def gx(rs:List (List UInt8))(l:List FN):List (List AV):=l.map (ji rs)
theorem XW(aa:Nat)(l rl:AV)(f:Option Int)(r:ay)(hl:qT rl.ai=true)(hn:(eU rl).length<1000000000)(hp:Cz l=true)(hpn:(eu l).length<1000000000)(Om:∀x∈eu l,(jg x.params).length<1000000000) :
  (aZ S).call 0 aa 70 [.ptr 0 0 0 0,l] (mk rl f::r)=some (bK 6 (gx (eU rl) (eu l)),mk rl (xJ f (dy (zK (eU rl)) (eu l) (eu l).length))::r):=by
 have p1:=Dw hp;have p2:=AE hp;have p3:=KP hp;have e1:=λaa s d a f r=>AR aa s d a rl f r hl hn;have e2:=λaa a f r=>fO aa a rl f r;simp only[T3.cells,mk]at e1 e2;refine aA (sf:=s70) rfl rfl rfl ?_;simp[s70,p1,p2,p3];refine bH TP.eq_1 (λq:Nat×List (List UInt8)×List AV×List AV=>⟨[(0,.val (.ptr 0 0 0 0)),(5,.val (bK 6 (gx (eU rl) ((eu l).take q.1)))),(6,.val (.map (r.length+1))),(13,.val l),(14,.val (.int .i64 (eu l).length)),(15,.val (.int .i64 q.1))],[q.2.2.1,[],q.2.2.2],
   mk rl (xJ f (dy (zK (eU rl)) (eu l) q.1))::(r++[.map (zJ q.2.1)])⟩)
  (λq=>q.1<=(eu l).length/\∀s,s∈q.2.1↔((eu l).take q.1).any (λp=>decide (p.name=s))=true) (λq=>(eu l).length-q.1) ((0,[],[],[]):Nat×List (List UInt8)×List AV×List AV) (by simp[gx,kq,dy,mz,zJ]) (by simp) ?_
 rintro⟨k,ks,bb,bb2⟩ ⟨hk,vJ⟩ ih;simp only at hk vJ ih;by_cases bC:k<(eu l).length;have hw:=wk k (by omega);have hb:=kR (nB:=zK (eU rl)) bC;have hG:=Ht hp _ (aaq bC);have QD:=uu hG.1;have JC:=pY hG.1;have ZQ:=hG.2.2;have ZR:=jt hG.2.1 hG.2.2;have hFn:=Om _ (aaq bC);have e3:=λaa f r=>BY aa (eu l)[k].params rl f r hl hn hG.1 hFn;simp only[mk]at e3;have ha:oP 6 72 (bK 6 (gx (eU rl) ((eu l).take k))) [ji (eU rl) (eu l)[k]]=some (bK 6 (gx (eU rl) ((eu l).take (k+1)))):=by
  rw[eO (by rfl) (by simp[gx,cN];omega)];simp only[gx,abu bC,ac4,abn,aeg]
 have ab5:∀s,s∈Fj ks (eu l)[k].name↔((eu l).take (k+1)).any (λp=>decide (p.name=s))=true:=by
  intro s;rw[K3,vJ,abu bC,ahV];simp only[ajf,List.any_nil,ajg,acJ,aK];exact or_congr Iff.rfl eq_comm
 have UF:=vJ (eu l)[k].name;generalize hq:(eu l)[k]=p at *;have hi:=ih (k+1,Fj ks p.name,p.cells,zL (eU rl) p) ⟨by simp;omega,ab5⟩ (by simp;omega);simp only[hb,zK,<-u0,FN.cells]at hi;have lk:=λaa o bx=>UE (aa:=aa) (o:=o) (r:=r) (bx:=bx) (ks:=ks) p.name;have up:=λaa o bx=>ZP (aa:=aa) (o:=o) (r:=r) (bx:=bx) (ks:=ks) p.name;have hD:K5 ((eu l).take k) p=if p.name∈ks then some p.at_ else none:=by
  unfold K5;by_cases hd:p.name∈ks;rw[ah hd,ah (UF.1 hd)];rw[U hd,U λh=>hd (UF.2 h)]
 rw[hD]at hi;by_cases hd:p.name∈ks;have Ew:decide (p.name∈ks)=true:=bM hd;rw[ah hd]at hi;cases hh:p.cP with
 |false=>
  simp[hh,AU,ji,zL,o9,mz]at hi ha;simp[p2,p3,hp,bC,FN.cells,hw,hq,lk,up,Ew,e2,e3,QD,JC,ZQ,ZR,hh,ha,bg,bO,gq.bV,mF];exact hi
 |true=>
  cases ho:(cB (eU rl) p.on p.od).2 with
  |true=>
   simp[hh,AU,ji,zL,o9,mz,ho]at hi ha;simp[p2,p3,hp,bC,FN.cells,hw,hq,lk,up,Ew,e1,e2,e3,QD,JC,ZQ,ZR,hh,ho,ha,bg,bO,gq.bV,mF];exact hi
  |false=>
   simp[hh,AU,ji,zL,o9,ho]at hi ha;simp[p2,p3,hp,bC,FN.cells,hw,hq,lk,up,Ew,e1,e2,e3,QD,JC,ZQ,ZR,hh,ho,ha,bg,bO,gq.bV,mF];exact hi
 have Ew:decide (p.name∈ks)=false:=cu hd;rw[U hd,mz]at hi;cases hh:p.cP with
 |false=>
  simp[hh,AU,ji,zL,o9,mz]at hi ha;simp[p2,p3,hp,bC,FN.cells,hw,hq,lk,up,Ew,e3,QD,JC,ZQ,ZR,hh,ha,bg,bO,gq.bV,mF];exact hi
 |true=>
  cases ho:(cB (eU rl) p.on p.od).2 with
  |true=>
   simp[hh,AU,ji,zL,o9,mz,ho]at hi ha;simp[p2,p3,hp,bC,FN.cells,hw,hq,lk,up,Ew,e1,e3,QD,JC,ZQ,ZR,hh,ho,ha,bg,bO,gq.bV,mF];exact hi
  |false=>
   simp[hh,AU,ji,zL,o9,ho]at hi ha;simp[p2,p3,hp,bC,FN.cells,hw,hq,lk,up,Ew,e1,e3,QD,JC,ZQ,ZR,hh,ho,ha,bg,bO,gq.bV,mF];exact hi
 have fR:k=(eu l).length:=by omega
 simp[fR]
def AW:List UInt8:=[109,97,105,110]
def fC(x:FN):Bool:=decide (x.name=AW)&&decide (jg x.params=[]) && !x.cP
theorem QE(wl aa:Nat)(rs:List (List UInt8))(x:FN)(st:ay):(aZ S).call wl aa 72 [.agg (ji rs x)] st=some (.bool (fC x),st):=by
 refine bT (sf:=s72) rfl rfl (by simp[ji,AV.ax,AV.aB]) rfl (by simp) ?_;unfold fC;by_cases a:x.name=AW;by_cases b:jg x.params=[];simp[s72,ji,AW,a,b,dY];have b':¬(jg x.params).length=0:=by simpa using b
 simp[s72,ji,AW,a,b,b',dY];simp only[AW]at a;simp[s72,ji,AW,a]
def oZ(l:List FN):Int:=match l.findIdx? fC with
 |some k=>k|none=>-1
theorem B1(wl aa:Nat)(rs:List (List UInt8))(l:List FN)(st:ay)(hn:l.length<1000000000) :
  (aZ S).call wl aa 71 [(bK 6 (gx rs l)).ai,.fn 72 [] []] st=some (.int .i64 (oZ l),st):=by
 have hm:=λwl aa x st=>QE wl aa rs x st;have hz:cJ 6 (bK 6 (gx rs l)).ai=true:=by rw[BI,Au];simp[cn,gx,ji]
 have hr:bt (bK 6 (gx rs l)).ai=l.map (ji rs):=by simp[gx]
 have hs:=pW hz;have hv:(bK 6 (gx rs l)).ai.ai=(bK 6 (gx rs l)).ai:=pg _;generalize (bK 6 (gx rs l)).ai=v at *;have l6:∀x,(ji rs x).length=6:=λ_=>rfl;have t6:∀x,List.take 6 (ji rs x)=ji rs x:=λ_=>rfl;have v6:∀x,AV.cW (ji rs x)=ji rs x:=by intro x;simp[ji,AV.cW,AV.ai]
 refine aA (sf:=s71) rfl (by simp[tD,s71]) rfl ?_;simp[s71,hs,hr,hv];refine bH MI.eq_1 (λq:Nat×Nat=>⟨[(0,.val v),(1,.val (.fn 72 [] [])),(7,.val (.int .i64 l.length)),(8,.val (.int .i64 q.1))],[],st⟩)
  (λq=>q.1<=l.length/\C5 fC l q.1) (λq=>l.length-q.1) ((0,0):Nat×Nat) (by simp) ⟨by simp,rR⟩ ?_
 rintro⟨k,b⟩ ⟨hk,hp⟩ ih;simp only at hk hp ih;by_cases bC:k<l.length;have hw:=wk k (by omega);have XX:=λwl aa st=>hm wl aa l[k] st;cases e:fC l[k] with
 |true=>
  have hi:oZ l=k:=by
   have:l.findIdx? fC=some k:=by
    rw[adx];exact⟨bC,e,λj hj=>by simp[hp j (by omega) hj]⟩
   unfold oZ;rw[this]
  simp[hz,hr,hv,bC,XX,e,hi,l6,t6,v6]
 |false=>
  simp[hz,hr,hv,bC,XX,e,hw,l6,t6,v6];exact ih (k+1,0) ⟨by simp;omega,rS hp bC e⟩ (by simp;omega)
 have fR:k=l.length:=by omega
 have hi:oZ l = -1:=by
  have:l.findIdx? fC=none:=by
   rw[ae8];intro x hx;obtain⟨j,hj,rfl⟩:=List.mem_iff_getElem.1 hx;exact hp j hj (fR ▸ hj)
  unfold oZ;rw[this]
 simp[bC,hi]
end U7
namespace U7
open Ax Go bY V7
def qU:AV:=.agg [.af,.af,.af,.int .i64 0]
def xQ(p:GD):AV:=.agg [(bK 2 (j6 (jh (cx p.bJ)) (cx p.bJ))).ai,(bK 4 (dY (jh (cx p.bJ)) (jg p.aI))).ai,(bK 6 (gx (jh (cx p.bJ)) (eu p.funcs))).ai,.int .i64 (oZ (eu p.funcs))]
def nH(p:GD):Option Int:=xJ (xJ (xJ (xJ none (dy sU (cx p.bJ) (cx p.bJ).length)) (dy (AT (jh (cx p.bJ))) (cx p.bJ) (cx p.bJ).length)) (dy (pE (jh (cx p.bJ))) (jg p.aI) (jg p.aI).length))
 (dy (zK (jh (cx p.bJ))) (eu p.funcs) (eu p.funcs).length)
def jQ(p:GD):Option Int:=if oZ (eu p.funcs)<0 then xJ (nH p) (some 0) else nH p
def zM(p:GD):AV:=.fK [match jQ p with|some _=>qU|none=>xQ p,.agg [.int .i64 (fE (jQ p)),.int .i64 (fX (jQ p))]]
structure GD.sm (p:GD):Prop where
 bJ:(cx p.bJ).length<1000000000
 jo:∀x∈cx p.bJ,(jg x.jo).length<1000000000
 aI:(jg p.aI).length<1000000000
 funcs:(eu p.funcs).length<1000000000
 params:∀x∈eu p.funcs,(jg x.params).length<1000000000
theorem XY(wl aa:Nat)(p:GD)(st:ay)(hp:p.ok)(hs:GD.sm p):(aZ S).call wl aa 44 [.agg p.cells] st=some (zM p,st):=by
 have p1:=Dv hp.bJ;have p2:=AD hp.bJ;have g1:=uu hp.aI;have g2:=pY hp.aI;have f1:=Dw hp.funcs;have f2:=AE hp.funcs;have XZ:(jh (cx p.bJ)).length<1000000000:=by simpa [jh] using hs.bJ
 have er:∀aa r,(aZ S).call 0 aa 68 [.ptr 0 0 0 0,p.bJ] (.rows 0 3 [[.af,.int .i64 0,.int .i64 0]]::r)=_:=λaa r=>M7 aa p.bJ none r hp.bJ hs.bJ hs.jo;have eg:=λaa f r=>BY aa p.aI (bK 1 (gQ (jh (cx p.bJ)))) f r (xP _) (by rw[tT];exact XZ) hp.aI hs.aI;have ef:=λaa f r=>XW aa p.funcs (bK 1 (gQ (jh (cx p.bJ)))) f r (xP _) (by rw[tT];exact XZ) hp.funcs hs.funcs hs.params;have ei:=λwl aa st=>B1 wl aa (jh (cx p.bJ)) (eu p.funcs) st hs.funcs;have e2:=λaa a rl f r=>fO aa a rl f r;simp only[tT,mk]at er eg ef e2;refine bT (sf:=s44) rfl rfl (by simp[GD.cells,AV.ax,AV.aB,p1,g1,f1]) rfl (by cases h:jQ p<;>simp[zM,h,qU,xQ,AV.aB,AV.ax]) ?_;unfold zM jQ;have hm3:nH p=nH p:=rfl;conv at hm3=>lhs;unfold nH
 generalize nH p=F at *;by_cases hm:oZ (eu p.funcs)<0;obtain⟨y,hy⟩:∃y,xJ F (some 0)=some y:=by cases F<;>exact⟨_,rfl⟩
 simp[s44,GD.cells,p1,p2,g1,g2,f1,f2,er,eg,ef,ei,e2,hm,hm3,bg,bO,gq.bV,mF];simp[hy,fE,fX,qU,bg,bO,gq.bV];simp[s44,GD.cells,p1,p2,g1,g2,f1,f2,er,eg,ef,ei,hm,hm3,bg,bO,gq.bV,mF];cases F with
 |some y=>simp[fE,fX,qU,bg,bO,gq.bV]|none=>simp[fE,fX,xQ,gq.bV]
end U7
