/- Part of a proof. -/
import Derived.Test.YtpnadocbfbbboaaGreatCode2
import Derived.Test.YtpnadocbfbbboaaGreatP
import Derived.KernelRfl

set_option maxRecDepth 100000
set_option maxHeartbeats 4000000
namespace U7
open Ax Go bX V7
theorem Lj(wl J:Nat)(l:AV)(s:List UInt8)(st:ai)(hl:vI l=true)(hn:(gH l).length<1000000000) :
  (aT S).call wl J 115 [l,.str s] st=some (.int .i64 (vP (gH l) s),st):=by
 have h1:=C6 hl;have h2:=Eu hl;have h3:=UO hl;refine bn (sf:=Uv) rfl rfl (by simp[cm h1]) rfl (by simp) ?_;simp[Uv,h1,h2,h3];refine bu Iz.eq_1 (λq:Nat×Int=>⟨[(0,.val l),(1,.val (.str s)),(7,.val (.int .i64 (gH l).length)),(8,.val (.int .i64 q.1))],[],[]⟩)
  (λq=>q.1<=(gH l).length/\K5 (λx=>decide (x=s)) (gH l) q.1) (λq=>(gH l).length-q.1) (0,0) (by simp) ⟨by simp,Bb⟩ ?_
 rintro⟨k,bb⟩ ⟨hk,hp⟩ ih;simp only at hk hp ih;by_cases bw:k<(gH l).length;have hw:=wk k (by omega);by_cases e:(gH l)[k]=s;have hi:=OP hp bw e;simp[hl,h2,h3,bw,e,hi];have e':¬s=(gH l)[k]:=λh=>e h.symm;simp[hl,h2,h3,bw,e',hw];exact ih (k+1,0) ⟨by simp;omega,Bc hp bw (by simpa using e)⟩ (by simp;omega);have j8:k=(gH l).length:=by omega
 have hi:=GU (j8 ▸ hp);simp[bw,hi]
theorem OZ{l:List (List UInt8)}{s:List UInt8}{d:Int}(h:d<0\/3<d):dA l s d=(T0,false):=if_pos h
theorem mQ(wl J:Nat)(l:AV)(s:List UInt8)(d:Int)(st:ai)(hl:vI l=true)(hn:(gH l).length<1000000000) :
  (aT S).call wl J 116 [l,.agg [.str s,.int .i64 d]] st=some (.fF [.agg (dA (gH l) s d).1.cells,.bool (dA (gH l) s d).2],st):=by
 have h1:=C6 hl;have h2:=Eu hl;have hi:=Lj 0 0 l s [] hl hn;refine bn (sf:=yT) rfl rfl (by simp[cm h1]) rfl (by simp[AV.au,AV.af]) ?_;by_cases d0:d<0;rw[OZ (.inl d0)];simp[yT,d0];by_cases d3:3<d;rw[OZ (.inr d3)];simp[yT,d0,d3];have hd:¬(d<0\/3<d):=by omega
 unfold dA;rw[if_neg hd];by_cases i1:s=[105,110,116];simp[yT,d0,d3,i1];by_cases i2:s=[98,111,111,108];simp[yT,d0,d3,i2];rw[if_neg i1,if_neg i2];by_cases i3:vP (gH l) s<0;simp[yT,d0,d3,i1,i2,hi,i3];simp[yT,d0,d3,i1,i2,hi,i3]
end U7
namespace U7
open Ax Go bX V7
def fE(f:Option Int):Int:=match f with|some _=>3|none=>0
def fX(f:Option Int):Int:=match f with|some x=>x|none=>0
@[simp]def mk(rl:AV)(f:Option Int):fq:=.rows 0 3 [[rl,.int .i64 (fE f),.int .i64 (fX f)]]
theorem eE(J:Nat)(a:Int)(rl:AV)(f:Option Int)(r:ai) :
  (aT S).call 0 J 73 [.ptr 0 0 0 0,.int .i64 a] (mk rl f::r)=some (.fF [],mk rl (x8 f (some a))::r):=by
 refine an (sf:=s73) rfl rfl rfl ?_;cases f with
 |none=>simp[s73,fE,fX,x8,bq,ah,cut,AV.af,AV.au]|some x=>simp[s73,fE,fX,x8,cut,AV.af,AV.au]
theorem Ab(J:Nat)(s:List UInt8)(d a:Int)(rl:AV)(f:Option Int)(r:ai)(hl:vI rl.aa=true)(hn:(gH rl).length<1000000000) :
  (aT S).call 0 J 94 [.ptr 0 0 0 0,.agg [.str s,.int .i64 d],.int .i64 a] (mk rl f::r)=some (.agg (dA (gH rl) s d).1.cells,mk rl (if (dA (gH rl) s d).2 then f else x8 f (some a))::r):=by
 have h1:aR rl=true:=by simpa using C6 hl
 have e1:=λwl J st=>mQ wl J rl.aa s d st hl (by simpa using hn);have e2:=λJ=>eE J a rl f r;simp only[GR]at e1;refine an (sf:=s94) rfl rfl rfl ?_;generalize dA (gH rl) s d=z at *;obtain⟨u,o⟩:=z;simp only[T3.cells]at e1;simp only[mk]at e2;cases o with
 |true=>simp[s94,cut,e1,aV,bD,ir.b8,pX,AV.af,AV.au]|false=>simp[s94,cut,e1,e2,aV,bD,ir.b8,pX,AV.af,AV.au]
theorem Lk(wl J:Nat)(l:AV)(s:List UInt8)(st:ai)(hl:vI l=true)(hn:(gH l).length<1000000000) :
  (aT S).call wl J 93 [l,.str s] st=some (.bool (decide (0<=vP (gH l) s)),st):=by
 have h1:=C6 hl;have h2:=Eu hl;have e:=Lj 0 0 l s [] hl hn;refine bn (sf:=s93) rfl rfl (by simp[cm h1]) rfl (by simp) ?_;simp[s93,e]
def yY(ks:List (List UInt8)):List (AV×AV):=ks.map λs=>(.str s,.agg [])
theorem Hh(s:List UInt8):∀ks,sE .str (.str s) (yY ks)=some (if s∈ks then some (.agg []) else none)
 |[]=>rfl|a::ks=>by
  have ih:=Hh s ks;simp only[yY]at ih;simp only[yY,List.map_cons,sE,Fp];by_cases h:a=s;simp[h];have:(s==a)=false:=beq_eq_false_iff_ne.2 λe=>h e.symm;have h':¬s=a:=λe=>h e.symm;rw[this];simp[ih,h']
def EM(ks:List (List UInt8))(s:List UInt8):List (List UInt8):=if s∈ks then ks else ks++[s]
theorem Ll(s:List UInt8):∀ks,Fx .str (.str s) (.agg []) (yY ks)=some (yY (EM ks s))
 |[]=>rfl|a::ks=>by
  have ih:=Ll s ks;simp only[yY]at ih;simp only[yY,List.map_cons,Fx,Fp];by_cases h:a=s;simp[h,EM];have:(s==a)=false:=beq_eq_false_iff_ne.2 λe=>h e.symm;have h':¬s=a:=λe=>h e.symm;rw[this];simp only[ih];by_cases hm:s∈ks;simp[EM,hm];simp[EM,hm,h']
theorem Lm(ks:List (List UInt8))(s t:List UInt8):t∈EM ks s↔t∈ks\/t=s:=by
 unfold EM;split;constructor;exact .inl;rintro (h|rfl)<;>assumption;simp
@[simp]theorem afr{wl J:Nat}{st:ai}{bx:aX}:aP wl J .makeMap [] st bx=some (.val (.map st.length),st++[.map []],bx):=rfl
theorem aaO{J:Nat}{o:fq}{r:ai}{bx:aX}{ks:List (List UInt8)}(s:List UInt8) :
  aP 0 J (.mapUpdate .str) [.val (.map (r.length+1)),.val (.str s),.val (.agg [])] (o::(r++[.map (yY ks)])) bx=some (.none,o::(r++[.map (yY (EM ks s))]),bx):=by
 simp[aP,Gb,bq,AV.af,AV.au,AV.aa,AV.cJ,Ll]
theorem U5{J:Nat}{o:fq}{r:ai}{bx:aX}{ks:List (List UInt8)}(s:List UInt8) :
  aP 0 J (.lookup .str (.agg []) true) [.val (.map (r.length+1)),.val (.str s)] (o::(r++[.map (yY ks)])) bx=some (.val (.fF [.agg [],.bool (decide (s∈ks))]),o::(r++[.map (yY ks)]),bx):=by
 simp only[aP,List.getElem?_cons_succ,Gb,if_true];by_cases h:s∈ks<;>simp[h,Hh]
theorem sZ{α:Type}{mV:List α->α->Option Int}{l:List α}{k:Nat}(h:k<l.length):gj mV l (k+1)=x8 (gj mV l k) (mV (l.take k) l[k]):=by
 simp[gj,h]
theorem ur(a b c:Option Int):x8 (x8 a b) c=x8 a (x8 b c):=by cases a<;>rfl
theorem fz(a:Option Int):x8 a none=a:=by cases a<;>rfl
theorem YM(a:Option Int)(x:Int):x8 (x8 a (some x)) (some x)=x8 a (some x):=by cases a<;>rfl
theorem IS{rs:List (List UInt8)}{l:List PD}{k:Nat}(h:k<l.length):iL rs (l.take (k+1))=iL rs (l.take k)++[IE rs l[k]]:=by
 simp only[iL,List.take_succ_eq_append_getElem h,List.map_append,List.map_cons,List.map_nil]
theorem qR(J:Nat)(l:AV)(rl:AV)(f:Option Int)(r:ai)(hl:vI rl.aa=true)(hn:(gH rl).length<1000000000)(hp:CF l=true)(hpn:(og l).length<1000000000) :
  (aT S).call 0 J 69 [.ptr 0 0 0 0,l] (mk rl f::r)=some (cC 4 (iL (gH rl) (og l)),mk rl (x8 f (gj (vQ (gH rl)) (og l) (og l).length))::r):=by
 have p1:=Ev hp;have p2:=zU hp;have p3:=YA hp;have e1:=λJ s d a f r=>Ab J s d a rl f r hl hn;have e2:=λJ a f r=>eE J a rl f r;simp only[T3.cells,mk]at e1 e2;refine an (sf:=s69) rfl rfl rfl ?_;simp[s69,p1,p2,p3];refine bu Ul.eq_1 (λq:Nat×List (List UInt8)×List AV=>⟨[(0,.val (.ptr 0 0 0 0)),(5,.val (cC 4 (iL (gH rl) ((og l).take q.1)))),(6,.val (.map (r.length+1))),(12,.val l),(13,.val (.int .i64 (og l).length)),(14,.val (.int .i64 q.1))],[q.2.2,[]],
   mk rl (x8 f (gj (vQ (gH rl)) (og l) q.1))::(r++[.map (yY q.2.1)])⟩)
  (λq=>q.1<=(og l).length/\∀s,s∈q.2.1↔((og l).take q.1).any (λp=>decide (p.name=s))=true) (λq=>(og l).length-q.1) ((0,[],[]):Nat×List (List UInt8)×List AV) (by simp[iL,o8,gj,fz,yY]) (by simp) ?_
 rintro⟨k,ks,bb⟩ ⟨hk,tT⟩ ih;simp only at hk tT ih;by_cases bw:k<(og l).length;have hw:=wk k (by omega);have hb:=sZ (mV:=vQ (gH rl)) bw;have hr:=IS (rs:=gH rl) bw;have hlen:(iL (gH rl) ((og l).take k)).length=k:=by simp[iL];omega
 have ha:x7 4 40 (cC 4 (iL (gH rl) ((og l).take k))) [IE (gH rl) (og l)[k]]=some (cC 4 (iL (gH rl) ((og l).take (k+1)))):=by
  rw[gm (by rfl) (by rw[hlen];simp[dx];omega),hr]
 have ade:∀s,s∈EM ks (og l)[k].name↔((og l).take (k+1)).any (λp=>decide (p.name=s))=true:=by
  intro s;rw[Lm,tT,List.take_succ_eq_append_getElem bw,List.any_append];simp only[List.any_cons,List.any_nil,Bool.or_false,Bool.or_eq_true,decide_eq_true_eq];exact or_congr Iff.rfl eq_comm
 have U6:=tT (og l)[k].name;generalize hq:(og l)[k]=p at *;simp only[IE,T3.cells]at ha;have hi:=ih (k+1,EM ks p.name,p.cells) ⟨by simp;omega,ade⟩ (by simp;omega);simp only[hb,PD.cells]at hi;have lk:=λJ o bx=>U5 (J:=J) (o:=o) (r:=r) (bx:=bx) (ks:=ks) p.name;have up:=λJ o bx=>aaO (J:=J) (o:=o) (r:=r) (bx:=bx) (ks:=ks) p.name;by_cases hd:p.name∈ks;have IT:vQ (gH rl) ((og l).take k) p=some p.at_:=by
  unfold vQ;rw[U6.1 hd];rfl
 rw[IT,<-ur]at hi;have FM:decide (p.name∈ks)=true:=decide_eq_true hd;cases ho:(dA (gH rl) p.on p.od).2 with
 |true=>
  simp[p2,p3,hp,bw,PD.cells,hw,hq,lk,up,FM,e1,e2,ho,ha,aV,bD,ir.b8,pX];exact hi
 |false=>
  simp[p2,p3,hp,bw,PD.cells,hw,hq,lk,up,FM,e1,e2,ho,YM,ha,aV,bD,ir.b8,pX];exact hi
 have FM:decide (p.name∈ks)=false:=decide_eq_false hd;have ahK:((og l).take k).any (λq=>decide (q.name=p.name))=false:=by
  cases e:((og l).take k).any (λq=>decide (q.name=p.name)) with
  |false=>rfl|true=>exact absurd (U6.2 e) hd
 cases ho:(dA (gH rl) p.on p.od).2 with
 |true=>
  have IT:vQ (gH rl) ((og l).take k) p=none:=by unfold vQ;rw[ahK,ho];rfl
  rw[IT,fz]at hi;simp[p2,p3,hp,bw,PD.cells,hw,hq,lk,up,FM,e1,ho,ha,aV,bD,ir.b8,pX];exact hi
 |false=>
  have IT:vQ (gH rl) ((og l).take k) p=some p.at_:=by unfold vQ;rw[ahK,ho];rfl
  rw[IT,<-ur]at hi;simp[p2,p3,hp,bw,PD.cells,hw,hq,lk,up,FM,e1,ho,ha,aV,bD,ir.b8,pX];exact hi
 have j8:k=(og l).length:=by omega
 simp[j8]
end U7
namespace U7
open Ax Go bX V7
def iB(l:List (List UInt8)):List (List AV):=l.map λs=>[.str s]
theorem vt(l:List (List UInt8)):gH (cC 1 (iB l))=l:=by simp[gH,iB,List.map_map,Function.comp_def,dSt]
theorem Ac(l:List (List UInt8)):vI (cC 1 (iB l)).aa=true:=by
 have h1:dg 1 (cC 1 (iB l)).aa=true:=by
  rw[A7,OB];simp[bV,iB]
 simp only[vI,mB,K4,h1,Ed,Ef,Bool.true_and,List.all_eq_true];intro r hr;obtain⟨s,_,rfl⟩:=List.mem_map.1 hr
 rfl
theorem Ln(l:List (List UInt8))(s:List UInt8):0<=vP l s↔s∈l:=by
 unfold vP;cases e:l.findIdx? λx=>decide (x=s) with
 |none=>
  rw[List.findIdx?_eq_none_iff]at e;constructor;intro h;exact absurd h (by decide);intro h;have:=e s h;simp at this
 |some k=>
  obtain⟨hk,h1,_⟩:=List.findIdx?_eq_some_iff_getElem.1 e;constructor;intro _;have:l[k]=s:=by simpa using h1
  exact this ▸ List.getElem_mem hk;intro _;show (0:Int)<=(k:Int);omega
theorem adf{J:Nat}{rl:AV}{e x:AV}{r:ai}{bx:aX}(h:aR rl=true) :
  aP 0 J (.load false 1 true) [.val (.ptr 0 0 0 0)] (.rows 0 3 [[rl,e,x]]::r) bx=some (.val rl,.rows 0 3 [[rl.kQ,e,x]]::r,bx):=by
 cases rl<;>simp[aR]at h<;>simp[aP,jD,cut,fV,bq,AV.kQ,AV.af,AV.au,ah,ck]
def vU(before:List CR)(x:CR):Option Int:=if before.any (λq=>decide (q.name=x.name)) then some x.at_ else none
def IU(rs:List (List UInt8))(_:List CR)(x:CR):Option Int:=gj (vQ rs) (og x.bH) (og x.bH).length
def IV(rs:List (List UInt8))(x:CR):List AV:=[.str x.name,(cC 4 (iL rs (og x.bH))).aa]
def pA(rs:List (List UInt8))(l:List CR):List (List AV):=l.map (IV rs)
theorem Nz(J:Nat)(l:AV)(f:Option Int)(r:ai)(hp:B8 l=true)(hpn:(dJ l).length<1000000000)(Mo:∀x∈dJ l,(og x.bH).length<1000000000) :
  (aT S).call 0 J 68 [.ptr 0 0 0 0,l] (mk .U f::r)=some (cC 2 (pA (kq (dJ l)) (dJ l)),
   mk (cC 1 (iB (kq (dJ l)))) (x8 (x8 f (gj vU (dJ l) (dJ l).length)) (gj (IU (kq (dJ l))) (dJ l) (dJ l).length))::r):=by
 have p1:=OS hp;have p2:=K6 hp;have p3:=UR hp;have e2:=λJ a rl f r=>eE J a rl f r;simp only[mk]at e2;refine an (sf:=s68) rfl rfl rfl ?_;simp[s68,p1,p2,p3];refine bu Uj.eq_1 (λq:Nat×List AV=>⟨[(0,.val (.ptr 0 0 0 0)),(1,.val l),(10,.val l),(11,.val (.int .i64 (dJ l).length)),(12,.val (.int .i64 q.1))],[q.2,[]],
   mk (cC 1 (iB (kq ((dJ l).take q.1)))) (x8 f (gj vU (dJ l) q.1))::r⟩)
  (λq=>q.1<=(dJ l).length) (λq=>(dJ l).length-q.1) ((0,[]):Nat×List AV) (by simp[kq,iB,o8,gj,fz]) (by simp) ?_
 rintro⟨k,bb⟩ hk ih;simp only at hk ih;by_cases bw:k<(dJ l).length;have hw:=wk k (by omega);have hb:=sZ (mV:=vU) bw;have hF:=GW hp _ (List.getElem_mem bw);have U8:=Ev hF;have U9:=zU hF;have YN:=λwl J s st=>Lk wl J (cC 1 (iB (kq ((dJ l).take k)))).aa s st (Ac _) (by simp[vt,kq];omega);simp only[GR,vt]at YN;have dw:aR (cC 1 (iB (kq ((dJ l).take k))))=true:=dz;have ha:x7 1 16 (cC 1 (iB (kq ((dJ l).take k)))) [[.str (dJ l)[k].name]]=some (cC 1 (iB (kq ((dJ l).take (k+1))))):=by
  rw[gm (by rfl) (by simp[iB,kq,dx];omega)];simp only[kq,iB,List.take_succ_eq_append_getElem bw,List.map_append,List.map_cons,List.map_nil]
 have hi:=ih (k+1,(dJ l)[k].cells) (by simp;omega) (by simp;omega);simp only[hb]at hi;have AT:(dJ l)[k].name∈kq ((dJ l).take k)↔((dJ l).take k).any (λq=>decide (q.name=(dJ l)[k].name))=true:=by
  simp only[kq,List.mem_map,List.any_eq_true,decide_eq_true_eq]
 generalize hq:(dJ l)[k]=p at *;simp only[CR.cells]at hi;have tk:=λJ e x r bx=>adf (J:=J) (e:=e) (x:=x) (r:=r) (bx:=bx) dw;by_cases hd:p.name∈kq ((dJ l).take k);have IT:vU ((dJ l).take k) p=some p.at_:=by
  unfold vU;rw[AT.1 hd];rfl
 rw[IT,<-ur]at hi;have FM:decide (0<=vP (kq ((dJ l).take k)) p.name)=true:=decide_eq_true ((Ln _ _).2 hd);simp[p2,p3,hp,bw,CR.cells,hw,hq,U8,U9,YN,FM,e2,ha,tk,aV,bD,ir.b8,pX];exact hi;have IT:vU ((dJ l).take k) p=none:=by
  unfold vU;cases e:((dJ l).take k).any (λq=>decide (q.name=p.name)) with
  |false=>rfl|true=>exact absurd (AT.2 e) hd
 rw[IT,fz]at hi;have FM:decide (0<=vP (kq ((dJ l).take k)) p.name)=false:=decide_eq_false λh=>hd ((Ln _ _).1 h);simp[p2,p3,hp,bw,CR.cells,hw,hq,U8,U9,YN,FM,ha,tk,aV,bD,ir.b8,pX];exact hi;have j8:k=(dJ l).length:=by omega
 subst j8;obtain⟨g,hg⟩:∃g,g=x8 f (gj vU (dJ l) (dJ l).length):=⟨_,rfl⟩;obtain⟨rs,hrs⟩:∃rs,rs=kq (dJ l):=⟨_,rfl⟩;have pE:rs.length<1000000000:=by rw[hrs];simpa [kq] using hpn
 simp only[<-hg,<-hrs,List.take_length];simp[p1,p2,p3];refine bu Uk.eq_1 (λq:Nat×List AV=>⟨[(0,.val (.ptr 0 0 0 0)),(7,.val (cC 2 (pA rs ((dJ l).take q.1)))),(39,.val l),(40,.val (.int .i64 (dJ l).length)),(41,.val (.int .i64 q.1))],[bb,q.2],
   mk (cC 1 (iB rs)) (x8 g (gj (IU rs) (dJ l) q.1))::r⟩)
  (λq=>q.1<=(dJ l).length) (λq=>(dJ l).length-q.1) ((0,[]):Nat×List AV) (by simp[pA,o8,gj,fz]) (by simp) ?_
 rintro⟨k,bb2⟩ hk ih;simp only at hk ih;by_cases bw:k<(dJ l).length;have hw:=wk k (by omega);have hb:=sZ (mV:=IU rs) bw;have hF:=GW hp _ (List.getElem_mem bw);have U8:=Ev hF;have U9:=zU hF;have hFn:=Mo _ (List.getElem_mem bw);have e3:=λJ f r=>qR J (dJ l)[k].bH (cC 1 (iB rs)) f r (Ac _) (by rw[vt];exact pE) hF hFn;simp only[vt,mk]at e3;have ha:x7 2 40 (cC 2 (pA rs ((dJ l).take k))) [IV rs (dJ l)[k]]=some (cC 2 (pA rs ((dJ l).take (k+1)))):=by
  rw[gm (by rfl) (by simp[pA,dx];omega)];simp only[pA,List.take_succ_eq_append_getElem bw,List.map_append,List.map_cons,List.map_nil]
 have hi:=ih (k+1,(dJ l)[k].cells) (by simp;omega) (by simp;omega);simp only[hb,IU,<-ur]at hi;generalize hq:(dJ l)[k]=p at *;simp only[CR.cells]at hi;simp only[IV]at ha;simp[p2,p3,hp,bw,CR.cells,hw,hq,U8,U9,e3,ha,aV,bD,ir.b8,pX];exact hi;have j8:k=(dJ l).length:=by omega
 subst j8;simp
end U7
namespace U7
open Ax Go bX V7
def p8(rs:List (List UInt8))(x:FN):T3:=if x.ct then (dA rs x.on x.od).1 else T0
def YO(before:List FN)(x:FN):Option Int:=if before.any (λq=>decide (q.name=x.name)) then some x.at_ else none
def Lo(rs:List (List UInt8))(x:FN):Option Int:=if x.ct && !(dA rs x.on x.od).2 then some x.at_ else none
def IW(rs:List (List UInt8))(before:List FN)(x:FN):Option Int:=x8 (x8 (YO before x) (gj (vQ rs) (og x.params) (og x.params).length)) (Lo rs x)
def jg(rs:List (List UInt8))(x:FN):List AV:=[.str x.name,(cC 4 (iL rs (og x.params))).aa,.bool x.ct,.int .i64 (p8 rs x).b,.int .i64 (p8 rs x).r,.int .i64 (p8 rs x).d]
def yZ(rs:List (List UInt8))(x:FN):List AV:=[.str x.name,cC 4 (iL rs (og x.params)),.bool x.ct,.int .i64 (p8 rs x).b,.int .i64 (p8 rs x).r,.int .i64 (p8 rs x).d]
def ja(rs:List (List UInt8))(l:List FN):List (List AV):=l.map (jg rs)
theorem YP(J:Nat)(l rl:AV)(f:Option Int)(r:ai)(hl:vI rl.aa=true)(hn:(gH rl).length<1000000000)(hp:B9 l=true)(hpn:(jz l).length<1000000000)(Mo:∀x∈jz l,(og x.params).length<1000000000) :
  (aT S).call 0 J 70 [.ptr 0 0 0 0,l] (mk rl f::r)=some (cC 6 (ja (gH rl) (jz l)),mk rl (x8 f (gj (IW (gH rl)) (jz l) (jz l).length))::r):=by
 have p1:=OT hp;have p2:=K7 hp;have p3:=UT hp;have e1:=λJ s d a f r=>Ab J s d a rl f r hl hn;have e2:=λJ a f r=>eE J a rl f r;simp only[T3.cells,mk]at e1 e2;refine an (sf:=s70) rfl rfl rfl ?_;simp[s70,p1,p2,p3];refine bu Um.eq_1 (λq:Nat×List (List UInt8)×List AV×List AV=>⟨[(0,.val (.ptr 0 0 0 0)),(5,.val (cC 6 (ja (gH rl) ((jz l).take q.1)))),(6,.val (.map (r.length+1))),(13,.val l),(14,.val (.int .i64 (jz l).length)),(15,.val (.int .i64 q.1))],[q.2.2.1,[],q.2.2.2],
   mk rl (x8 f (gj (IW (gH rl)) (jz l) q.1))::(r++[.map (yY q.2.1)])⟩)
  (λq=>q.1<=(jz l).length/\∀s,s∈q.2.1↔((jz l).take q.1).any (λp=>decide (p.name=s))=true) (λq=>(jz l).length-q.1) ((0,[],[],[]):Nat×List (List UInt8)×List AV×List AV) (by simp[ja,o8,gj,fz,yY]) (by simp) ?_
 rintro⟨k,ks,bb,bb2⟩ ⟨hk,tT⟩ ih;simp only at hk tT ih;by_cases bw:k<(jz l).length;have hw:=wk k (by omega);have hb:=sZ (mV:=IW (gH rl)) bw;have hG:=Q6 hp _ (List.getElem_mem bw);have U8:=Ev hG.1;have U9:=zU hG.1;have hBs:=hG.2.2;have hBv:=nq hG.2.1 hG.2.2;have hFn:=Mo _ (List.getElem_mem bw);have e3:=λJ f r=>qR J (jz l)[k].params rl f r hl hn hG.1 hFn;simp only[mk]at e3;have ha:x7 6 72 (cC 6 (ja (gH rl) ((jz l).take k))) [jg (gH rl) (jz l)[k]]=some (cC 6 (ja (gH rl) ((jz l).take (k+1)))):=by
  rw[gm (by rfl) (by simp[ja,dx];omega)];simp only[ja,List.take_succ_eq_append_getElem bw,List.map_append,List.map_cons,List.map_nil]
 have ade:∀s,s∈EM ks (jz l)[k].name↔((jz l).take (k+1)).any (λp=>decide (p.name=s))=true:=by
  intro s;rw[Lm,tT,List.take_succ_eq_append_getElem bw,List.any_append];simp only[List.any_cons,List.any_nil,Bool.or_false,Bool.or_eq_true,decide_eq_true_eq];exact or_congr Iff.rfl eq_comm
 have U6:=tT (jz l)[k].name;generalize hq:(jz l)[k]=p at *;have hi:=ih (k+1,EM ks p.name,p.cells,yZ (gH rl) p) ⟨by simp;omega,ade⟩ (by simp;omega);simp only[hb,IW,<-ur,FN.cells]at hi;have lk:=λJ o bx=>U5 (J:=J) (o:=o) (r:=r) (bx:=bx) (ks:=ks) p.name;have up:=λJ o bx=>aaO (J:=J) (o:=o) (r:=r) (bx:=bx) (ks:=ks) p.name;have hD:YO ((jz l).take k) p=if p.name∈ks then some p.at_ else none:=by
  unfold YO;by_cases hd:p.name∈ks;rw[if_pos hd,if_pos (U6.1 hd)];rw[if_neg hd,if_neg λh=>hd (U6.2 h)]
 rw[hD]at hi;by_cases hd:p.name∈ks;have FM:decide (p.name∈ks)=true:=decide_eq_true hd;rw[if_pos hd]at hi;cases hh:p.ct with
 |false=>
  simp[hh,Lo,jg,yZ,p8,fz]at hi ha;simp[p2,p3,hp,bw,FN.cells,hw,hq,lk,up,FM,e2,e3,U8,U9,hBs,hBv,hh,ha,aV,bD,ir.b8,pX];exact hi
 |true=>
  cases ho:(dA (gH rl) p.on p.od).2 with
  |true=>
   simp[hh,Lo,jg,yZ,p8,fz,ho]at hi ha;simp[p2,p3,hp,bw,FN.cells,hw,hq,lk,up,FM,e1,e2,e3,U8,U9,hBs,hBv,hh,ho,ha,aV,bD,ir.b8,pX];exact hi
  |false=>
   simp[hh,Lo,jg,yZ,p8,ho]at hi ha;simp[p2,p3,hp,bw,FN.cells,hw,hq,lk,up,FM,e1,e2,e3,U8,U9,hBs,hBv,hh,ho,ha,aV,bD,ir.b8,pX];exact hi
 have FM:decide (p.name∈ks)=false:=decide_eq_false hd;rw[if_neg hd,fz]at hi;cases hh:p.ct with
 |false=>
  simp[hh,Lo,jg,yZ,p8,fz]at hi ha;simp[p2,p3,hp,bw,FN.cells,hw,hq,lk,up,FM,e3,U8,U9,hBs,hBv,hh,ha,aV,bD,ir.b8,pX];exact hi
 |true=>
  cases ho:(dA (gH rl) p.on p.od).2 with
  |true=>
   simp[hh,Lo,jg,yZ,p8,fz,ho]at hi ha;simp[p2,p3,hp,bw,FN.cells,hw,hq,lk,up,FM,e1,e3,U8,U9,hBs,hBv,hh,ho,ha,aV,bD,ir.b8,pX];exact hi
  |false=>
   simp[hh,Lo,jg,yZ,p8,ho]at hi ha;simp[p2,p3,hp,bw,FN.cells,hw,hq,lk,up,FM,e1,e3,U8,U9,hBs,hBv,hh,ho,ha,aV,bD,ir.b8,pX];exact hi
 have j8:k=(jz l).length:=by omega
 simp[j8]
def Cd:List UInt8:=[109,97,105,110]
def l8(x:FN):Bool:=decide (x.name=Cd)&&decide (og x.params=[]) && !x.ct
theorem Rf(wl J:Nat)(rs:List (List UInt8))(x:FN)(st:ai):(aT S).call wl J 72 [.agg (jg rs x)] st=some (.bool (l8 x),st):=by
 refine bn (sf:=s72) rfl rfl (by simp[jg,AV.af,AV.au]) rfl (by simp) ?_;unfold l8;by_cases a:x.name=Cd;by_cases b:og x.params=[];simp[s72,jg,Cd,a,b,iL];have b':¬(og x.params).length=0:=by simpa using b
 simp[s72,jg,Cd,a,b,b',iL];simp only[Cd]at a;simp[s72,jg,Cd,a]
def rP(l:List FN):Int:=match l.findIdx? l8 with
 |some k=>k|none=>-1
theorem Bi(wl J:Nat)(rs:List (List UInt8))(l:List FN)(st:ai)(hn:l.length<1000000000) :
  (aT S).call wl J 71 [(cC 6 (ja rs l)).aa,.fn 72 [] []] st=some (.int .i64 (rP l),st):=by
 have hm:=λwl J x st=>Rf wl J rs x st;have hz:dg 6 (cC 6 (ja rs l)).aa=true:=by rw[A7,OB];simp[bV,ja,jg]
 have hr:bg (cC 6 (ja rs l)).aa=l.map (jg rs):=by simp[ja]
 have hs:=o7 hz;have hv:(cC 6 (ja rs l)).aa.aa=(cC 6 (ja rs l)).aa:=QS _;generalize (cC 6 (ja rs l)).aa=v at *;have l6:∀x,(jg rs x).length=6:=λ_=>rfl;have t6:∀x,List.take 6 (jg rs x)=jg rs x:=λ_=>rfl;have v6:∀x,AV.cJ (jg rs x)=jg rs x:=by intro x;simp[jg,AV.cJ,AV.aa]
 refine an (sf:=s71) rfl (by simp[sG,s71]) rfl ?_;simp[s71,hs,hr,hv];refine bu Nc.eq_1 (λq:Nat×Nat=>⟨[(0,.val v),(1,.val (.fn 72 [] [])),(7,.val (.int .i64 l.length)),(8,.val (.int .i64 q.1))],[],st⟩)
  (λq=>q.1<=l.length/\K5 l8 l q.1) (λq=>l.length-q.1) ((0,0):Nat×Nat) (by simp) ⟨by simp,Bb⟩ ?_
 rintro⟨k,b⟩ ⟨hk,hp⟩ ih;simp only at hk hp ih;by_cases bw:k<l.length;have hw:=wk k (by omega);have hmk:=λwl J st=>hm wl J l[k] st;cases e:l8 l[k] with
 |true=>
  have hi:rP l=k:=by
   have:l.findIdx? l8=some k:=by
    rw[List.findIdx?_eq_some_iff_getElem];exact⟨bw,e,λj hj=>by simp[hp j (by omega) hj]⟩
   unfold rP;rw[this]
  simp[hz,hr,hv,bw,hmk,e,hi,l6,t6,v6]
 |false=>
  simp[hz,hr,hv,bw,hmk,e,hw,l6,t6,v6];exact ih (k+1,0) ⟨by simp;omega,Bc hp bw e⟩ (by simp;omega)
 have j8:k=l.length:=by omega
 have hi:rP l = -1:=by
  have:l.findIdx? l8=none:=by
   rw[List.findIdx?_eq_none_iff];intro x hx;obtain⟨j,hj,rfl⟩:=List.mem_iff_getElem.1 hx;exact hp j hj (j8 ▸ hj)
  unfold rP;rw[this]
 simp[bw,hi]
end U7
namespace U7
open Ax Go bX V7
def Lp:AV:=.agg [.U,.U,.U,.int .i64 0]
def EN(p:GD):AV:=.agg [(cC 2 (pA (kq (dJ p.bz)) (dJ p.bz))).aa,(cC 4 (iL (kq (dJ p.bz)) (og p.aH))).aa,(cC 6 (ja (kq (dJ p.bz)) (jz p.funcs))).aa,.int .i64 (rP (jz p.funcs))]
def vu(p:GD):Option Int:=x8 (x8 (x8 (x8 none (gj vU (dJ p.bz) (dJ p.bz).length)) (gj (IU (kq (dJ p.bz))) (dJ p.bz) (dJ p.bz).length)) (gj (vQ (kq (dJ p.bz))) (og p.aH) (og p.aH).length))
 (gj (IW (kq (dJ p.bz))) (jz p.funcs) (jz p.funcs).length)
def lO(p:GD):Option Int:=if rP (jz p.funcs)<0 then x8 (vu p) (some 0) else vu p
def Va(p:GD):AV:=.fF [match lO p with|some _=>Lp|none=>EN p,.agg [.int .i64 (fE (lO p)),.int .i64 (fX (lO p))]]
structure GD.sm (p:GD):Prop where
 bz:(dJ p.bz).length<1000000000
 bH:∀x∈dJ p.bz,(og x.bH).length<1000000000
 aH:(og p.aH).length<1000000000
 funcs:(jz p.funcs).length<1000000000
 params:∀x∈jz p.funcs,(og x.params).length<1000000000
theorem YQ(wl J:Nat)(p:GD)(st:ai)(hp:p.ok)(hs:GD.sm p):(aT S).call wl J 44 [.agg p.cells] st=some (Va p,st):=by
 have p1:=OS hp.bz;have p2:=K6 hp.bz;have g1:=Ev hp.aH;have g2:=zU hp.aH;have f1:=OT hp.funcs;have f2:=K7 hp.funcs;have hrn:(kq (dJ p.bz)).length<1000000000:=by simpa [kq] using hs.bz
 have er:∀J r,(aT S).call 0 J 68 [.ptr 0 0 0 0,p.bz] (.rows 0 3 [[.U,.int .i64 0,.int .i64 0]]::r)=_:=λJ r=>Nz J p.bz none r hp.bz hs.bz hs.bH;have eg:=λJ f r=>qR J p.aH (cC 1 (iB (kq (dJ p.bz)))) f r (Ac _) (by rw[vt];exact hrn) hp.aH hs.aH;have ef:=λJ f r=>YP J p.funcs (cC 1 (iB (kq (dJ p.bz)))) f r (Ac _) (by rw[vt];exact hrn) hp.funcs hs.funcs hs.params;have ei:=λwl J st=>Bi wl J (kq (dJ p.bz)) (jz p.funcs) st hs.funcs;have e2:=λJ a rl f r=>eE J a rl f r;simp only[vt,mk]at er eg ef e2;refine bn (sf:=s44) rfl rfl (by simp[GD.cells,AV.af,AV.au,p1,g1,f1]) rfl (by cases h:lO p<;>simp[Va,h,Lp,EN,AV.au,AV.af]) ?_;unfold Va lO;have hm3:vu p=vu p:=rfl;conv at hm3=>lhs;unfold vu
 generalize vu p=F at *;by_cases hm:rP (jz p.funcs)<0;obtain⟨y,hy⟩:∃y,x8 F (some 0)=some y:=by cases F<;>exact⟨_,rfl⟩
 simp[s44,GD.cells,p1,p2,g1,g2,f1,f2,er,eg,ef,ei,e2,hm,hm3,aV,bD,ir.b8,pX];simp[hy,fE,fX,Lp,aV,bD,ir.b8];simp[s44,GD.cells,p1,p2,g1,g2,f1,f2,er,eg,ef,ei,hm,hm3,aV,bD,ir.b8,pX];cases F with
 |some y=>simp[fE,fX,Lp,aV,bD,ir.b8]|none=>simp[fE,fX,EN,ir.b8]
end U7
