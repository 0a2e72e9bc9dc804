/- Part of a proof. -/
import Derived.Test.YtlcehclecbakiaaGreatA6
import Derived.Test.YtlcehclecbakiaaGreatCode2

open List renaming all_eq_true→aaS,mem_map→aa5,getD_eq_getElem?_getD→adz,getElem?_eq_none→abV,all_eq_false→aha,getElem_mem→aar,mem_iff_getElem→abe
open Nat renaming le_of_not_lt→agr
open Bool renaming and_eq_true→Ar
set_option maxRecDepth 100000
set_option maxHeartbeats 4000000
namespace cJ
open Ax Go
def fZ:AV->Bool
 |.jz _ _=>false|_=>true
theorem dg{v:AV}(h:fZ v=true)(hs:aL v=true):v.view=v:=by cases v<;>simp_all [fZ,aL,AV.view]
@[simp]theorem Cn(v:AV):fZ v.view=true:=by cases v<;>simp[fZ,AV.view]
def fj(sz:Nat)(p:List AV->Bool)(v:AV):Bool:=fZ v&&bY sz v&&(aJ v).all p
theorem iI{sz:Nat}{p:List AV->Bool}{v:AV}(h:fj sz p v=true):bY sz v=true:=by simp only[fj,Ar]at h;exact h.1.2
theorem kL{sz:Nat}{p:List AV->Bool}{v:AV}(h:fj sz p v=true):∀r∈aJ v,p r=true:=by simp only[fj,Ar,aaS]at h;exact h.2
theorem jC{sz:Nat}{p:List AV->Bool}{v:AV}(h:fj sz p v=true):v.view=v:=by
 have h2:=jl (iI h);simp only[fj,Ar]at h;exact dg h.1.1 h2
theorem kV{α:Type}{sz:Nat}{p:List AV->Bool}{d:List AV->α}{e:α->List AV}{v:AV}(h:fj sz p v=true)(he:∀r,p r=true->r=e (d r)):aJ v=((aJ v).map d).map e:=by
 rw[List.map_map];conv=>lhs;rw[<-List.map_id (aJ v)]
 exact List.map_congr_left λr hr=>he r (kL h r hr)
def pU(n:Int):Bool:=decide (-9223372036854775808<=n)&&decide (n<=9223372036854775807)
structure T3 where
 b:Int
 r:Int
 d:Int
 deriving DecidableEq
abbrev T0:T3:=⟨0,0,0⟩
@[simp]def T3.cells(t:T3):List AV:=[.int .i64 t.b,.int .i64 t.r,.int .i64 t.d]
def Co(r:List AV):Bool:=match r with | [.int .i64 a,.int .i64 b,.int .i64 c]=>pU a&&pU b&&pU c|_=>false
def dT(r:List AV):T3:=match r with | [.int .i64 a,.int .i64 b,.int .i64 c]=>⟨a,b,c⟩|_=>T0
theorem EX(r:List AV)(h:Co r=true):r=(dT r).cells:=by
 unfold Co at h;split at h
 rfl
 cases h
def sY(v:AV):Bool:=fj 3 Co v
def bJ(v:AV):List T3:=(aJ v).map dT
theorem dw{v:AV}(h:sY v=true):aJ v=(bJ v).map T3.cells:=kV h EX
theorem gr{v:AV}(h:sY v=true):v.view=v:=jC h
@[simp]theorem VG(v:AV):bJ v.view=bJ v:=by simp[bJ]
@[simp]theorem NI{v:AV}(h:sY v=true):bY 3 v=true:=iI h
@[simp]theorem iB{v:AV}(h:sY v=true):aL v=true:=jl (NI h)
structure FD where
 name:List UInt8
 t:T3
def FD.cells(f:FD):List AV:=[.str f.name,.int .i64 f.t.b,.int .i64 f.t.r,.int .i64 f.t.d]
def W8(r:List AV):Bool:=match r with | [.str _,.int .i64 a,.int .i64 b,.int .i64 c]=>pU a&&pU b&&pU c|_=>false
def dF(r:List AV):FD:=match r with | [.str s,.int .i64 a,.int .i64 b,.int .i64 c]=>⟨s,a,b,c⟩|_=>⟨[],T0⟩
theorem W9(r:List AV)(h:W8 r=true):r=(dF r).cells:=by
 unfold W8 at h;split at h
 rfl
 cases h
def Oj(v:AV):Bool:=fj 4 W8 v
def uT(v:AV):List FD:=(aJ v).map dF
theorem yE{v:AV}(h:Oj v=true):aJ v=(uT v).map FD.cells:=kV h W9
theorem DA{v:AV}(h:Oj v=true):v.view=v:=jC h
@[simp]theorem ajB(v:AV):uT v.view=uT v:=by simp[uT]
@[simp]theorem aeX{v:AV}(h:Oj v=true):bY 4 v=true:=iI h
@[simp]theorem JP{v:AV}(h:Oj v=true):aL v=true:=jl (aeX h)
structure RD where
 name:List UInt8
 bM:AV
def RD.cells(r:RD):List AV:=[.str r.name,r.bM]
def Qe(r:List AV):Bool:=match r with | [.str _,f]=>Oj f|_=>false
def dR(r:List AV):RD:=match r with | [.str s,f]=>⟨s,f⟩|_=>⟨[],.U⟩
theorem Xa(r:List AV)(h:Qe r=true):r=(dR r).cells:=by
 unfold Qe at h;split at h
 rfl
 cases h
def Sj(v:AV):Bool:=fj 2 Qe v
def kq(v:AV):List RD:=(aJ v).map dR
theorem mL{v:AV}(h:Sj v=true):aJ v=(kq v).map RD.cells:=kV h Xa
theorem A4{v:AV}(h:Sj v=true):∀r∈kq v,Oj r.bM=true:=by
 intro r hr;obtain⟨x,hx,rfl⟩:=aa5.1 hr;have:=kL h x hx;unfold Qe at this;unfold dR;split at this;exact this;cases this
theorem Qf{v:AV}(h:Sj v=true):v.view=v:=jC h
@[simp]theorem ajC(v:AV):kq v.view=kq v:=by simp[kq]
@[simp]theorem aeY{v:AV}(h:Sj v=true):bY 2 v=true:=iI h
@[simp]theorem JQ{v:AV}(h:Sj v=true):aL v=true:=jl (aeY h)
structure ID where
 op:Int
 a:Int
 b:Int
 c:Int
 n:Int
 args:AV
def ID.cells(i:ID):List AV:=[.int .i64 i.op,.int .i64 i.a,.int .i64 i.b,.int .i64 i.c,.int .i64 i.n,i.args]
def Qg(r:List AV):Bool:=match r with | [.int .i64 _,.int .i64 _,.int .i64 _,.int .i64 _,.int .i64 _,v]=>fZ v&&tu v|_=>false
def dN(r:List AV):ID:=match r with | [.int .i64 a,.int .i64 b,.int .i64 c,.int .i64 d,.int .i64 e,v]=>⟨a,b,c,d,e,v⟩|_=>⟨0,0,0,0,0,.U⟩
theorem Xb(r:List AV)(h:Qg r=true):r=(dN r).cells:=by
 unfold Qg at h;split at h
 rfl
 cases h
def BX(v:AV):Bool:=fj 6 Qg v
def gx(v:AV):List ID:=(aJ v).map dN
theorem oL{v:AV}(h:BX v=true):aJ v=(gx v).map ID.cells:=kV h Xb
theorem A5{v:AV}(h:BX v=true):∀r∈gx v,fZ r.args=true/\tu r.args=true:=by
 intro r hr;obtain⟨x,hx,rfl⟩:=aa5.1 hr;have:=kL h x hx;unfold Qg at this;unfold dN;split at this;simp only[Ar]at this;exact⟨this.1,this.2⟩;cases this
theorem jQ{v:AV}(h:BX v=true):v.view=v:=jC h
@[simp]theorem ajD(v:AV):gx v.view=gx v:=by simp[gx]
@[simp]theorem aeZ{v:AV}(h:BX v=true):bY 6 v=true:=iI h
@[simp]theorem lA{v:AV}(h:BX v=true):aL v=true:=jl (aeZ h)
structure CD where
 params:Int
 vars:AV
 bg:Bool
 res:T3
 dO:AV
def CD.cells(c:CD):List AV:=[.int .i64 c.params,c.vars,.bool c.bg,.int .i64 c.res.b,.int .i64 c.res.r,.int .i64 c.res.d,c.dO]
def Qh(r:List AV):Bool:=match r with | [.int .i64 p,v,.bool _,.int .i64 a,.int .i64 b,.int .i64 c,i]=>pU p&&pU a&&pU b&&pU c&&sY v&&BX i|_=>false
def dC(r:List AV):CD:=match r with | [.int .i64 p,v,.bool h,.int .i64 a,.int .i64 b,.int .i64 c,i]=>⟨p,v,h,⟨a,b,c⟩,i⟩|_=>⟨0,.U,false,T0,.U⟩
theorem Xc(r:List AV)(h:Qh r=true):r=(dC r).cells:=by
 unfold Qh at h;split at h
 rfl
 cases h
def Sk(v:AV):Bool:=fj 7 Qh v
def bP(v:AV):List CD:=(aJ v).map dC
theorem aV{v:AV}(h:Sk v=true):aJ v=(bP v).map CD.cells:=kV h Xc
theorem gQ{v:AV}(h:Sk v=true):∀r∈bP v,sY r.vars=true/\BX r.dO=true:=by
 intro r hr;obtain⟨x,hx,rfl⟩:=aa5.1 hr;have:=kL h x hx;unfold Qh at this;unfold dC;split at this;simp only[Ar]at this;exact⟨this.1.2,this.2⟩;cases this
theorem Qi{v:AV}(h:Sk v=true):v.view=v:=jC h
@[simp]theorem ajE(v:AV):bP v.view=bP v:=by simp[bP]
@[simp]theorem ae0{v:AV}(h:Sk v=true):bY 7 v=true:=iI h
@[simp]theorem JR{v:AV}(h:Sk v=true):aL v=true:=jl (ae0 h)
structure SD where
 fn:Int
 t:T3
def SD.cells(s:SD):List AV:=[.int .i64 s.fn,.int .i64 s.t.b,.int .i64 s.t.r,.int .i64 s.t.d]
def Xd(r:List AV):Bool:=match r with | [.int .i64 f,.int .i64 a,.int .i64 b,.int .i64 c]=>pU f&&pU a&&pU b&&pU c|_=>false
def dS(r:List AV):SD:=match r with | [.int .i64 f,.int .i64 a,.int .i64 b,.int .i64 c]=>⟨f,a,b,c⟩|_=>⟨0,T0⟩
theorem Xe(r:List AV)(h:Xd r=true):r=(dS r).cells:=by
 unfold Xd at h;split at h
 rfl
 cases h
def Xf(v:AV):Bool:=fj 4 Xd v
def oM(v:AV):List SD:=(aJ v).map dS
theorem rE{v:AV}(h:Xf v=true):aJ v=(oM v).map SD.cells:=kV h Xe
theorem Qj{v:AV}(h:Xf v=true):v.view=v:=jC h
@[simp]theorem ajF(v:AV):oM v.view=oM v:=by simp[oM]
@[simp]theorem ae1{v:AV}(h:Xf v=true):bY 4 v=true:=iI h
@[simp]theorem JS{v:AV}(h:Xf v=true):aL v=true:=jl (ae1 h)
structure XD where
 aD:AV
 globals:AV
 codes:AV
 ax:AV
 main:Int
def XD.cells(x:XD):List AV:=[x.aD,x.globals,x.codes,x.ax,.int .i64 x.main]
structure XD.ok (x:XD):Prop where
 aD:Sj x.aD=true
 globals:sY x.globals=true
 codes:Sk x.codes=true
 ax:Xf x.ax=true
theorem ajG{v:AV}(h:sY v=true):∀t∈bJ v,pU t.b=true/\pU t.r=true/\pU t.d=true:=by
 intro r hr;obtain⟨x,hx,rfl⟩:=aa5.1 hr;have:=kL h x hx;unfold Co at this;unfold dT;split at this;simp only[Ar]at this;exact⟨this.1.1,this.1.2,this.2⟩;cases this
def fR(vars:List T3)(n:Int):T3:=if 0<=n then vars.getD n.toNat T0 else T0
def iU(vars:List T3)(t:T3)(l:List Int):Bool:=l.all (λn=>decide (fR vars n=t))&&decide (t≠T0)
def uL:T3:=⟨1,0,0⟩
def nu:T3:=⟨2,0,0⟩
end cJ
namespace cr
open Ax Go aF cJ
def cH(x:XD):AV:=.agg [x.aD,x.globals,x.codes,x.ax,.int .i64 x.main]
theorem _root_.cJ.XD.ok.sl{x:XD}(h:x.ok):(aL x.aD=true/\aL x.globals=true/\aL x.codes=true/\aL x.ax=true)/\
  x.aD.view=x.aD/\x.globals.view=x.globals/\x.codes.view=x.codes/\x.ax.view=x.ax:=
 ⟨⟨JQ h.aD,iB h.globals,JR h.codes,JS h.ax⟩,Qf h.aD,gr h.globals,Qi h.codes,Qj h.ax⟩
theorem _root_.cJ.XD.ok.pure{x:XD}(h:x.ok):(cH x).ay=true:=by
 have h1:=cD (JQ h.aD);have h2:=cD (iB h.globals);have h3:=cD (JR h.codes);have h4:=cD (JS h.ax);simp[cH, *]
def bX(i:ID):AV:=.agg [.int .i64 i.op,.int .i64 i.a,.int .i64 i.b,.int .i64 i.c,.int .i64 i.n,i.args]
def g9(t:T3):Bool:=decide (t.b=3)||decide (0<t.d)
theorem JT(wl aa:Nat)(a b c:Int)(st:ag) :
  (aP S).call wl aa 86 [.agg [.int .i64 a,.int .i64 b,.int .i64 c]] st=some (.bool (g9 ⟨a,b,c⟩),st):=by
 refine aH (sf:=s86) rfl rfl (by simp) rfl (by simp) ?_;unfold g9;by_cases h:a=3;simp[s86,h];simp[s86,h]
theorem pZ(wl aa:Nat)(a b c:Int)(st:ag) :
  (aP S).call wl aa 17 [.agg [.int .i64 a,.int .i64 b,.int .i64 c]] st=some (.bool (g9 ⟨a,b,c⟩),st):=by
 refine aH (sf:=s17) rfl rfl (by simp) rfl (by simp) ?_;unfold g9;by_cases h:a=3;simp[s17,h];simp[s17,h]
end cr
namespace cr
open Ax Go aF cJ
theorem A6(wl aa:Nat)(st:ag):(aP S).call wl aa 107 [] st=some (.agg T0.cells,st):=by
 refine aH (sf:=adG) rfl rfl rfl rfl rfl ?_;simp[adG]
def vw(x:XD)(f:Int)(c:CD)(i:ID):AV:=.agg [x.aD,x.globals,x.codes,x.ax,.int .i64 x.main,.int .i64 f,
 .int .i64 c.params,c.vars,.bool c.bg,.int .i64 c.res.b,.int .i64 c.res.r,.int .i64 c.res.d,c.dO,
 .int .i64 i.op,.int .i64 i.a,.int .i64 i.b,.int .i64 i.c,.int .i64 i.n,i.args]
structure VW (x:XD)(c:CD)(i:ID):Prop where
 x:x.ok
 vars:sY c.vars=true
 dO:BX c.dO=true
 args:tu i.args=true
 ab3:fZ i.args=true
theorem VW.pure{x:XD}{f:Int}{c:CD}{i:ID}(h:VW x c i):(vw x f c i).ay=true:=by
 have h1:=cD (JQ h.x.aD);have h2:=cD (iB h.x.globals);have h3:=cD (JR h.x.codes);have h4:=cD (JS h.x.ax);have h5:=cD (iB h.vars);have h6:=cD (lA h.dO);have h7:=cD (jS h.args);simp[vw, *]
theorem VW.sl{x:XD}{c:CD}{i:ID}(h:VW x c i):(aL x.aD=true/\aL x.globals=true/\aL x.codes=true/\aL x.ax=true/\aL c.vars=true/\aL c.dO=true/\aL i.args=true)/\
  x.aD.view=x.aD/\x.globals.view=x.globals/\x.codes.view=x.codes/\x.ax.view=x.ax/\c.vars.view=c.vars/\c.dO.view=c.dO/\i.args.view=i.args:=
 ⟨⟨JQ h.x.aD,iB h.x.globals,JR h.x.codes,JS h.x.ax,iB h.vars,lA h.dO,jS h.args⟩,
  Qf h.x.aD,gr h.x.globals,Qi h.x.codes,Qj h.x.ax,gr h.vars,jQ h.dO,dg h.ab3 (jS h.args)⟩
theorem xH(wl aa:Nat)(x:XD)(f:Int)(c:CD)(i:ID)(n:Int)(st:ag)(h:VW x c i) :
  (aP S).call wl aa 130 [vw x f c i,.int .i64 n] st=some (.agg (fR (bJ c.vars) n).cells,st):=by
 refine aH (sf:=Vw) rfl rfl (by simp[h.pure]) rfl (by simp) ?_;have hs:=h.sl;have hv:=h.vars;by_cases h0:n<0;have e:fR (bJ c.vars) n=T0:=by unfold fR;rw[if_neg (by omega)]
 simp[Vw,vw,hs,h0,e,A6];obtain⟨k,rfl⟩:∃k:Nat,n=k:=⟨n.toNat,by omega⟩;by_cases hk:k<(bJ c.vars).length;have e:fR (bJ c.vars) k=(bJ c.vars)[k]:=by simp[fR,adz,hk]
 have uu:¬((bJ c.vars).length:Int)<=(k:Int):=by omega
 simp[Vw,vw,hs,h0,hv,dw hv,e,hk,uu];have e:fR (bJ c.vars) k=T0:=by simp[fR,adz,abV (agr hk)]
 have uu:((bJ c.vars).length:Int)<=(k:Int):=by omega
 simp[Vw,vw,hs,h0,hv,dw hv,e,uu,A6]
theorem ji(wl aa:Nat)(x:XD)(f:Int)(c:CD)(i:ID)(t:T3)(l:AV)(st:ag)(h:VW x c i)(hl:tu l=true)(hn:(dI l).length<1000000000) :
  (aP S).call wl aa 131 [vw x f c i,.agg t.cells,l] st=some (.bool (iU (bJ c.vars) t (dI l)),st):=by
 have fJ:=λn=>xH 0 0 x f c i n [] h;refine aH (sf:=adN) rfl rfl (by simp[h.pure,hl]) rfl (by simp) ?_;have hs:=h.sl;simp[adN,vw,hs,hl,bV hl];simp only[vw]at fJ;refine aT Pn.eq_1 (λk:Nat=>⟨[(3,.fp 0 0),(4,.fp 1 0),(9,.val l),(10,.val (.int .i64 (dI l).length)),(11,.val (.int .i64 k))],[(vw x f c i).cells,t.cells],[]⟩) (λk=>k<=(dI l).length/\∀j (hj:j<(dI l).length),j<k->fR (bJ c.vars) (dI l)[j]=t) (λk=>(dI l).length-k) 0 (by simp[vw]) ⟨by omega,λ_ _ h=>by omega⟩ ?_;intro k ⟨hk,hp⟩ ih;by_cases aQ:k<(dI l).length;have hw:=wk k (by omega);have hc:=fJ (dI l)[k];by_cases he:fR (bJ c.vars) (dI l)[k]=t;simp[vw,hs,hl,bV hl,aQ,ai,ah,hc,he,hw];exact ih (k+1) ⟨by omega,λj hj oe=>by
  rcases Nat.lt_or_ge j k with h|h;exact hp j hj h;have:j=k:=by omega
  subst this;exact he⟩ (by omega)
 have he':(decide ((fR (bJ c.vars) (dI l)[k]).b=t.b)&&(decide ((fR (bJ c.vars) (dI l)[k]).r=t.r)&&decide ((fR (bJ c.vars) (dI l)[k]).d=t.d)))=false:=by
  rw[Bool.eq_false_iff];intro hh;simp only[Ar,decide_eq_true_eq]at hh;apply he;cases hq:fR (bJ c.vars) (dI l)[k];cases t;simp_all
 have hf:iU (bJ c.vars) t (dI l)=false:=by
  unfold iU;rw[Bool.and_eq_false_iff];left;rw[aha];exact⟨_,aar aQ,by simpa using he⟩
 simp[vw,hs,hl,bV hl,aQ,ai,ah,hc,he',hf];have cL:k=(dI l).length:=by omega
 have jZ:(dI l).all (λn=>decide (fR (bJ c.vars) n=t))=true:=by
  rw[aaS];intro n hn;obtain⟨j,hj,rfl⟩:=abe.1 hn;simpa using hp j hj (by omega)
 have hT:iU (bJ c.vars) t (dI l) = !(decide (t.b=0)&&(decide (t.r=0)&&decide (t.d=0))):=by
  unfold iU;rw[jZ];cases t;simp
 simp[cL,ai,ah,A6,hT]
end cr
namespace cr
open Ax Go aF cJ
theorem is1(wl aa:Nat){x:XD}{f:Int}{c:CD}{i:ID}(t:T3)(a:Int)(st:ag)(h:VW x c i) :
  (aP S).call wl aa 131 [vw x f c i,.agg t.cells,.dh 1 [[.int .i64 a]]] st=some (.bool (iU (bJ c.vars) t [a]),st):=by
 have:=ji wl aa x f c i t (.dh 1 [[.int .i64 a]]) st h (by simp) (by simp);simpa using this
theorem JU(wl aa:Nat){x:XD}{f:Int}{c:CD}{i:ID}(l:AV)(st:ag)(h:VW x c i)(hl:tu l=true)(hn:(dI l).length<1000000000) :
  (aP S).call wl aa 128 [vw x f c i,l] st=some (.bool (iU (bJ c.vars) uL (dI l)),st):=by
 have hc:=ji 0 0 x f c i uL l [] h hl hn;simp only[vw,T3.cells,uL]at hc;have hs:=h.sl;refine aH (sf:=adL) rfl rfl (by simp[h.pure,hl]) rfl (by simp) ?_;simp[adL,vw,hs,hc,uL]
theorem FH(wl aa:Nat){x:XD}{f:Int}{c:CD}{i:ID}(l:AV)(st:ag)(h:VW x c i)(hl:tu l=true)(hn:(dI l).length<1000000000) :
  (aP S).call wl aa 129 [vw x f c i,l] st=some (.bool (iU (bJ c.vars) nu (dI l)),st):=by
 have hc:=ji 0 0 x f c i nu l [] h hl hn;simp only[vw,T3.cells,nu]at hc;have hs:=h.sl;refine aH (sf:=adM) rfl rfl (by simp[h.pure,hl]) rfl (by simp) ?_;simp[adM,vw,hs,hc,nu]
def A7(vars:List T3)(a item:Int):Bool:=decide (0<(fR vars a).d)&&iU vars ⟨(fR vars a).b,(fR vars a).r,(fR vars a).d-1⟩ [item]
theorem BY{v:AV}(h:sY v=true)(n:Int):pU (fR (bJ v) n).d=true:=by
 unfold fR;split;rw[adz];by_cases hk:n.toNat<(bJ v).length;rw[List.getElem?_eq_getElem hk];exact(ajG h _ (aar hk)).2.2;rw[abV (by omega)];rfl
 rfl
theorem Xg(wl aa:Nat){x:XD}{f:Int}{c:CD}{i:ID}(a item:Int)(st:ag)(h:VW x c i) :
  (aP S).call wl aa 134 [vw x f c i,.int .i64 a,.int .i64 item] st=some (.bool (A7 (bJ c.vars) a item),st):=by
 have hc:=λn=>xH 0 0 x f c i n [] h;have hi:=λt n=>is1 0 0 (f:=f) t n [] h;have hr:=BY h.vars a;simp only[vw,T3.cells]at hc hi;have hs:=h.sl;refine aH (sf:=ZG) rfl rfl (by simp[h.pure]) rfl (by simp) ?_;unfold A7;generalize ht:fR (bJ c.vars) a=t at *;have yJ:=hc a;rw[ht]at yJ;by_cases hd:t.d<=0;have YP:¬0<t.d:=by omega
 simp[ZG,vw,hs,yJ,hd,YP];have YP:0<t.d:=by omega
 have hw:IntKind.i64.wrap (t.d-1)=t.d-1:=by
  simp only[pU,Ar,decide_eq_true_eq]at hr;rw[cI]<;>omega
 have om:=hi ⟨t.b,t.r,t.d-1⟩ item;simp only at om;simp[ZG,vw,hs,yJ,hd,YP,hw,om]
theorem Xh(wl aa:Nat){x:XD}{f:Int}{c:CD}{i:ID}(n:Int)(st:ag)(h:VW x c i) :
  (aP S).call wl aa 141 [vw x f c i,.int .i64 n] st=some (.bool (decide (0<=n)&&decide (n<(gx c.dO).length)),st):=by
 have hs:=h.sl;have hN:=h.dO;refine aH (sf:=ZH) rfl rfl (by simp[h.pure]) rfl (by simp) ?_;by_cases h0:0<=n;simp[ZH,vw,hs,h0,oL hN];simp[ZH,vw,hs,h0]
def gh{α:Type}(l:List α)(n:Int):Option α:=if 0<=n then l[n.toNat]? else none
theorem ij{α:Type}{l:List α}{n:Int}{y:α}(h:gh l n=some y):∃k:Nat,n=k/\∃hk:k<l.length,l[k]=y:=by
 unfold gh at h;split at h;obtain⟨hk,hy⟩:=List.getElem?_eq_some_iff.1 h;exact⟨n.toNat,by omega,hk,hy⟩;cases h
theorem iq{α:Type}{l:List α}{n:Int}(h:gh l n=none):n<0\/(0<=n/\(l.length:Int)<=n):=by
 unfold gh at h;split at h;have:=List.getElem?_eq_none_iff.1 h;exact .inr ⟨by omega,by omega⟩;exact .inl (by omega)
def FI(gs vars:List T3)(n a:Int):Bool:=match gh gs n with|some t=>iU vars t [a]|none=>false
theorem Sl(wl aa:Nat){x:XD}{f:Int}{c:CD}{i:ID}(n a:Int)(st:ag)(h:VW x c i) :
  (aP S).call wl aa 142 [vw x f c i,.int .i64 n,.int .i64 a] st=some (.bool (FI (bJ x.globals) (bJ c.vars) n a),st):=by
 have hi:=λt n=>is1 0 0 (f:=f) t n [] h;simp only[vw,T3.cells]at hi;have hs:=h.sl;have hG:=h.x.globals;refine aH (sf:=Vy) rfl rfl (by simp[h.pure]) rfl (by simp) ?_;unfold FI;cases hg:gh (bJ x.globals) n with
 |none=>
  rcases iq hg with h0|⟨h0,h1⟩;have rF:¬0<=n:=by omega
  simp[Vy,vw,hs,rF,ai,ah];have iM:¬n<((bJ x.globals).length:Int):=by omega
  simp[Vy,vw,hs,h0,iM,hG,dw hG,ai,ah]
 |some t=>
  obtain⟨k,rfl,hk,rfl⟩:=ij hg;have h0:(0:Int)<=(k:Int):=by omega
  have om:=hi (bJ x.globals)[k] a;simp[Vy,vw,hs,hk,hG,dw hG,ai,ah,om]
def C6(ss:List SD)(f:Int)(vars:List T3)(n a:Int):Bool:=match gh ss n with|some s=>decide (s.fn=f)&&iU vars s.t [a]|none=>false
theorem JL(wl aa:Nat){x:XD}{f:Int}{c:CD}{i:ID}(n a:Int)(st:ag)(h:VW x c i) :
  (aP S).call wl aa 135 [vw x f c i,.int .i64 n,.int .i64 a] st=some (.bool (C6 (oM x.ax) f (bJ c.vars) n a),st):=by
 have hi:=λt n=>is1 0 0 (f:=f) t n [] h;simp only[vw,T3.cells]at hi;have hs:=h.sl;have hG:=h.x.ax;refine aH (sf:=Re) rfl rfl (by simp[h.pure]) rfl (by simp) ?_;unfold C6;cases hg:gh (oM x.ax) n with
 |none=>
  rcases iq hg with h0|⟨h0,h1⟩;have rF:¬0<=n:=by omega
  simp[Re,vw,hs,rF,ai,ah];have iM:¬n<((oM x.ax).length:Int):=by omega
  simp[Re,vw,hs,h0,iM,hG,rE hG,ai,ah]
 |some s=>
  obtain⟨k,rfl,hk,rfl⟩:=ij hg;have om:=hi (oM x.ax)[k].t a;by_cases hf:(oM x.ax)[k].fn=f;simp[Re,vw,hs,hk,hG,rE hG,ai,ah,om,SD.cells,hf];simp[Re,vw,hs,hk,hG,rE hG,ai,ah,SD.cells,hf]
def C7(rs:List RD)(vars:List T3)(a k v:Int):Bool:=decide ((fR vars a).b=3)&&decide ((fR vars a).d=0)&&match gh rs (fR vars a).r with
 |some r=>(match gh (uT r.bM) k with|some fd=>iU vars fd.t [v]|none=>false)
 |none=>false
theorem Xi(wl aa:Nat){x:XD}{f:Int}{c:CD}{i:ID}(a k v:Int)(st:ag)(h:VW x c i) :
  (aP S).call wl aa 133 [vw x f c i,.int .i64 a,.int .i64 k,.int .i64 v] st=some (.bool (C7 (kq x.aD) (bJ c.vars) a k v),st):=by
 have hc:=λn=>xH 0 0 x f c i n [] h;have hi:=λt n=>is1 0 0 (f:=f) t n [] h;simp only[vw,T3.cells]at hi hc;have hs:=h.sl;have hR:=h.x.aD;refine aH (sf:=IX) rfl rfl (by simp[h.pure]) rfl (by simp) ?_;unfold C7;have yJ:=hc a;generalize ht:fR (bJ c.vars) a=t at *;by_cases hb:t.b=3;by_cases hd:t.d=0;cases hr:gh (kq x.aD) t.r with
 |none=>
  rcases iq hr with h0|⟨h0,h1⟩;simp[IX,vw,hs,yJ,hb,hd,h0];have rF:¬t.r<0:=by omega
  simp[IX,vw,hs,yJ,hb,hd,rF,h1,mL hR]
 |some r=>
  obtain⟨j,hj,kJ,rfl⟩:=ij hr;have rF:¬t.r<0:=by omega
  have iM:¬((kq x.aD).length:Int)<=t.r:=by omega
  have hF:=A4 hR _ (aar kJ);have S1:=JP hF;have CA:=DA hF;simp only;cases hk:gh (uT (kq x.aD)[j].bM) k with
  |none=>
   rcases iq hk with k0|⟨k0,k1⟩;have k0':¬0<=k:=(by omega);rw[hj]at yJ rF iM;simp[IX,vw,hs,yJ,hb,hd,rF,iM,hR,mL hR,kJ,RD.cells,ai,ah,k0',CA];have Si:¬k<((uT (kq x.aD)[j].bM).length:Int):=(by omega);rw[hj]at yJ rF iM;simp[IX,vw,hs,yJ,hb,hd,rF,iM,hR,mL hR,kJ,RD.cells,ai,ah,k0,Si,CA,hF,yE hF]
  |some fd=>
   obtain⟨q,rfl,hq,rfl⟩:=ij hk;have om:=hi (uT (kq x.aD)[j].bM)[q].t v;rw[hj]at yJ rF iM;simp[IX,vw,hs,yJ,hb,hd,rF,iM,hR,mL hR,kJ,RD.cells,ai,ah,hq,CA,hF,yE hF,FD.cells,om]
 simp[IX,vw,hs,yJ,hb,hd];simp[IX,vw,hs,yJ,hb]
end cr
namespace cr
open Ax Go aF cJ
def iD(a b c n:Bool)(i:ID):Bool:=(a||decide (i.a=0))&&(b||decide (i.b=0))&&(c||decide (i.c=0))&&(n||decide (i.n=0))&&(decide (i.op=13)||decide ((dI i.args).length=0))
theorem JV(wl aa:Nat)(i:ID)(a b c n:Bool)(st:ag)(hi:tu i.args=true)(iu:fZ i.args=true) :
  (aP S).call wl aa 127 [bX i,.bool a,.bool b,.bool c,.bool n] st=some (.bool (iD a b c n i),st):=by
 have hs:=jS hi;have hv:=dg iu hs;refine aH (sf:=fK) rfl rfl (by simp[bX,hs]) rfl (by simp) ?_;unfold iD bX;cases a with
 |true=>
  cases b with
  |true=>
   cases c with
   |true=>
    cases n with
    |true=>
     by_cases ho:i.op=13;simp[fK,hs,ho];by_cases hl:((dI i.args).length:Int)=0;have kH:(dI i.args).length=0:=(by omega);simp[fK,hs,hv,ho,kH,bV hi];have kH:¬(dI i.args).length=0:=(by omega);simp[fK,hs,hv,ho,kH,bV hi]
    |false=>
     by_cases hn:i.n=0
     skip
     by_cases ho:i.op=13;simp[fK,hs,hn,ho];by_cases hl:((dI i.args).length:Int)=0;have kH:(dI i.args).length=0:=(by omega);simp[fK,hs,hv,hn,ho,kH,bV hi];have kH:¬(dI i.args).length=0:=(by omega);simp[fK,hs,hv,hn,ho,kH,bV hi];simp[fK,hs,hn]
   |false=>
    by_cases hc:i.c=0
    skip
    cases n with
    |true=>
     by_cases ho:i.op=13;simp[fK,hs,hc,ho];by_cases hl:((dI i.args).length:Int)=0;have kH:(dI i.args).length=0:=(by omega);simp[fK,hs,hv,hc,ho,kH,bV hi];have kH:¬(dI i.args).length=0:=(by omega);simp[fK,hs,hv,hc,ho,kH,bV hi]
    |false=>
     by_cases hn:i.n=0
     skip
     by_cases ho:i.op=13;simp[fK,hs,hc,hn,ho];by_cases hl:((dI i.args).length:Int)=0;have kH:(dI i.args).length=0:=(by omega);simp[fK,hs,hv,hc,hn,ho,kH,bV hi];have kH:¬(dI i.args).length=0:=(by omega);simp[fK,hs,hv,hc,hn,ho,kH,bV hi];simp[fK,hs,hc,hn]
    simp[fK,hs,hc]
  |false=>
   by_cases hb:i.b=0
   skip
   cases c with
   |true=>
    cases n with
    |true=>
     by_cases ho:i.op=13;simp[fK,hs,hb,ho];by_cases hl:((dI i.args).length:Int)=0;have kH:(dI i.args).length=0:=(by omega);simp[fK,hs,hv,hb,ho,kH,bV hi];have kH:¬(dI i.args).length=0:=(by omega);simp[fK,hs,hv,hb,ho,kH,bV hi]
    |false=>
     by_cases hn:i.n=0
     skip
     by_cases ho:i.op=13;simp[fK,hs,hb,hn,ho];by_cases hl:((dI i.args).length:Int)=0;have kH:(dI i.args).length=0:=(by omega);simp[fK,hs,hv,hb,hn,ho,kH,bV hi];have kH:¬(dI i.args).length=0:=(by omega);simp[fK,hs,hv,hb,hn,ho,kH,bV hi];simp[fK,hs,hb,hn]
   |false=>
    by_cases hc:i.c=0
    skip
    cases n with
    |true=>
     by_cases ho:i.op=13;simp[fK,hs,hb,hc,ho];by_cases hl:((dI i.args).length:Int)=0;have kH:(dI i.args).length=0:=(by omega);simp[fK,hs,hv,hb,hc,ho,kH,bV hi];have kH:¬(dI i.args).length=0:=(by omega);simp[fK,hs,hv,hb,hc,ho,kH,bV hi]
    |false=>
     by_cases hn:i.n=0
     skip
     by_cases ho:i.op=13;simp[fK,hs,hb,hc,hn,ho];by_cases hl:((dI i.args).length:Int)=0;have kH:(dI i.args).length=0:=(by omega);simp[fK,hs,hv,hb,hc,hn,ho,kH,bV hi];have kH:¬(dI i.args).length=0:=(by omega);simp[fK,hs,hv,hb,hc,hn,ho,kH,bV hi];simp[fK,hs,hb,hc,hn]
    simp[fK,hs,hb,hc]
   simp[fK,hs,hb]
 |false=>
  by_cases ha:i.a=0
  skip
  cases b with
  |true=>
   cases c with
   |true=>
    cases n with
    |true=>
     by_cases ho:i.op=13;simp[fK,hs,ha,ho];by_cases hl:((dI i.args).length:Int)=0;have kH:(dI i.args).length=0:=(by omega);simp[fK,hs,hv,ha,ho,kH,bV hi];have kH:¬(dI i.args).length=0:=(by omega);simp[fK,hs,hv,ha,ho,kH,bV hi]
    |false=>
     by_cases hn:i.n=0
     skip
     by_cases ho:i.op=13;simp[fK,hs,ha,hn,ho];by_cases hl:((dI i.args).length:Int)=0;have kH:(dI i.args).length=0:=(by omega);simp[fK,hs,hv,ha,hn,ho,kH,bV hi];have kH:¬(dI i.args).length=0:=(by omega);simp[fK,hs,hv,ha,hn,ho,kH,bV hi];simp[fK,hs,ha,hn]
   |false=>
    by_cases hc:i.c=0
    skip
    cases n with
    |true=>
     by_cases ho:i.op=13;simp[fK,hs,ha,hc,ho];by_cases hl:((dI i.args).length:Int)=0;have kH:(dI i.args).length=0:=(by omega);simp[fK,hs,hv,ha,hc,ho,kH,bV hi];have kH:¬(dI i.args).length=0:=(by omega);simp[fK,hs,hv,ha,hc,ho,kH,bV hi]
    |false=>
     by_cases hn:i.n=0
     skip
     by_cases ho:i.op=13;simp[fK,hs,ha,hc,hn,ho];by_cases hl:((dI i.args).length:Int)=0;have kH:(dI i.args).length=0:=(by omega);simp[fK,hs,hv,ha,hc,hn,ho,kH,bV hi];have kH:¬(dI i.args).length=0:=(by omega);simp[fK,hs,hv,ha,hc,hn,ho,kH,bV hi];simp[fK,hs,ha,hc,hn]
    simp[fK,hs,ha,hc]
  |false=>
   by_cases hb:i.b=0
   skip
   cases c with
   |true=>
    cases n with
    |true=>
     by_cases ho:i.op=13;simp[fK,hs,ha,hb,ho];by_cases hl:((dI i.args).length:Int)=0;have kH:(dI i.args).length=0:=(by omega);simp[fK,hs,hv,ha,hb,ho,kH,bV hi];have kH:¬(dI i.args).length=0:=(by omega);simp[fK,hs,hv,ha,hb,ho,kH,bV hi]
    |false=>
     by_cases hn:i.n=0
     skip
     by_cases ho:i.op=13;simp[fK,hs,ha,hb,hn,ho];by_cases hl:((dI i.args).length:Int)=0;have kH:(dI i.args).length=0:=(by omega);simp[fK,hs,hv,ha,hb,hn,ho,kH,bV hi];have kH:¬(dI i.args).length=0:=(by omega);simp[fK,hs,hv,ha,hb,hn,ho,kH,bV hi];simp[fK,hs,ha,hb,hn]
   |false=>
    by_cases hc:i.c=0
    skip
    cases n with
    |true=>
     by_cases ho:i.op=13;simp[fK,hs,ha,hb,hc,ho];by_cases hl:((dI i.args).length:Int)=0;have kH:(dI i.args).length=0:=(by omega);simp[fK,hs,hv,ha,hb,hc,ho,kH,bV hi];have kH:¬(dI i.args).length=0:=(by omega);simp[fK,hs,hv,ha,hb,hc,ho,kH,bV hi]
    |false=>
     by_cases hn:i.n=0
     skip
     by_cases ho:i.op=13;simp[fK,hs,ha,hb,hc,hn,ho];by_cases hl:((dI i.args).length:Int)=0;have kH:(dI i.args).length=0:=(by omega);simp[fK,hs,hv,ha,hb,hc,hn,ho,kH,bV hi];have kH:¬(dI i.args).length=0:=(by omega);simp[fK,hs,hv,ha,hb,hc,hn,ho,kH,bV hi];simp[fK,hs,ha,hb,hc,hn]
    simp[fK,hs,ha,hb,hc]
   simp[fK,hs,ha,hb]
  simp[fK,hs,ha]
end cr
namespace cr
open Ax Go aF cJ
def zm(i:ID):Bool:=
 if i.op=1\/i.op=11\/i.op=19\/i.op=20 then iD true false false true i else
 if i.op=2\/i.op=14\/i.op=15\/i.op=18 then iD true false false false i else
 if i.op=3\/i.op=10 then iD true true false false i else
 if i.op=5\/i.op=12 then iD true true false true i else
 if i.op=6\/i.op=7\/i.op=8\/i.op=9 then iD true true true false i else
 if i.op=4 then iD true true true true i else
 if i.op=13 then iD true false true false i else
 if i.op=16 then iD false false false true i else
 if i.op=17 then iD true false true true i else
 false
theorem aaI(wl aa:Nat)(i:ID)(st:ag)(hi:tu i.args=true)(iu:fZ i.args=true) :
  (aP S).call wl aa 120 [bX i] st=some (.bool (zm i),st):=by
 have hs:=jS hi;have hv:=dg iu hs;have oc:=λop x y z m a b c n=>JV 0 0 ⟨op,x,y,z,m,i.args⟩ a b c n [] hi iu;simp only[bX]at oc;refine aH (sf:=sx) rfl rfl (by simp[bX,hs]) rfl (by simp) ?_;unfold zm;unfold bX;by_cases h1:i.op=1;simp[sx,hs,hv,oc,iD,h1];by_cases yN:i.op=11;simp[sx,hs,hv,oc,iD,yN];by_cases CE:i.op=19;simp[sx,hs,hv,oc,iD,CE];by_cases CF:i.op=20;simp[sx,hs,hv,oc,iD,CF];by_cases h2:i.op=2;simp[sx,hs,hv,oc,iD,h2];by_cases F2:i.op=14;simp[sx,hs,hv,oc,iD,F2];by_cases HH:i.op=15;simp[sx,hs,hv,oc,iD,HH];by_cases FB:i.op=18;simp[sx,hs,hv,oc,iD,FB];by_cases h3:i.op=3;simp[sx,hs,hv,oc,iD,h3];by_cases Bi:i.op=10;simp[sx,hs,hv,oc,iD,Bi];by_cases h5:i.op=5;simp[sx,hs,hv,oc,iD,h5];by_cases tX:i.op=12;simp[sx,hs,hv,oc,iD,tX];by_cases h6:i.op=6;simp[sx,hs,hv,oc,iD,h6];by_cases h7:i.op=7;simp[sx,hs,hv,oc,iD,h7];by_cases h8:i.op=8;simp[sx,hs,hv,oc,iD,h8];by_cases h9:i.op=9;simp[sx,hs,hv,oc,iD,h9];by_cases h4:i.op=4;simp[sx,hs,hv,oc,iD,h4];by_cases Cw:i.op=13;simp[sx,hs,hv,oc,iD,Cw];by_cases AX:i.op=16;simp[sx,hs,hv,oc,iD,AX];by_cases Aa:i.op=17;simp[sx,hs,hv,oc,iD,Aa];simp[sx,hs,h1,yN,CE,CF,h2,F2,HH,FB,h3,Bi,h5,tX,h6,h7,h8,h9,h4,Cw,AX,Aa]
end cr
namespace cr
open Ax Go aF cJ
theorem VW.any{x:XD}{c:CD}{i:ID}(h:VW x c i)(p q r s t:Int):VW x c ⟨p,q,r,s,t,i.args⟩:=⟨h.x,h.vars,h.dO,h.args,h.ab3⟩
theorem ab5(wl aa:Nat){x:XD}{f:Int}{c:CD}{i:ID}(a:Int)(st:ag)(h:VW x c i) :
  (aP S).call wl aa 128 [vw x f c i,.dh 1 [[.int .i64 a]]] st=some (.bool (iU (bJ c.vars) uL [a]),st):=by
 have:=JU wl aa (f:=f) (.dh 1 [[.int .i64 a]]) st h (by simp) (by simp);simpa using this
theorem ab6(wl aa:Nat){x:XD}{f:Int}{c:CD}{i:ID}(a b:Int)(st:ag)(h:VW x c i) :
  (aP S).call wl aa 128 [vw x f c i,.dh 1 [[.int .i64 a],[.int .i64 b]]] st=some (.bool (iU (bJ c.vars) uL [a,b]),st):=by
 have:=JU wl aa (f:=f) (.dh 1 [[.int .i64 a],[.int .i64 b]]) st h (by simp) (by simp);simpa using this
theorem ajH(wl aa:Nat){x:XD}{f:Int}{c:CD}{i:ID}(a b d:Int)(st:ag)(h:VW x c i) :
  (aP S).call wl aa 128 [vw x f c i,.dh 1 [[.int .i64 a],[.int .i64 b],[.int .i64 d]]] st=some (.bool (iU (bJ c.vars) uL [a,b,d]),st):=by
 have:=JU wl aa (f:=f) (.dh 1 [[.int .i64 a],[.int .i64 b],[.int .i64 d]]) st h (by simp) (by simp);simpa using this
theorem Ok(wl aa:Nat){x:XD}{f:Int}{c:CD}{i:ID}(a:Int)(st:ag)(h:VW x c i) :
  (aP S).call wl aa 129 [vw x f c i,.dh 1 [[.int .i64 a]]] st=some (.bool (iU (bJ c.vars) nu [a]),st):=by
 have:=FH wl aa (f:=f) (.dh 1 [[.int .i64 a]]) st h (by simp) (by simp);simpa using this
theorem ae2(wl aa:Nat){x:XD}{f:Int}{c:CD}{i:ID}(a b:Int)(st:ag)(h:VW x c i) :
  (aP S).call wl aa 129 [vw x f c i,.dh 1 [[.int .i64 a],[.int .i64 b]]] st=some (.bool (iU (bJ c.vars) nu [a,b]),st):=by
 have:=FH wl aa (f:=f) (.dh 1 [[.int .i64 a],[.int .i64 b]]) st h (by simp) (by simp);simpa using this
theorem ae3(wl aa:Nat){x:XD}{f:Int}{c:CD}{i:ID}(a b d:Int)(st:ag)(h:VW x c i) :
  (aP S).call wl aa 129 [vw x f c i,.dh 1 [[.int .i64 a],[.int .i64 b],[.int .i64 d]]] st=some (.bool (iU (bJ c.vars) nu [a,b,d]),st):=by
 have:=FH wl aa (f:=f) (.dh 1 [[.int .i64 a],[.int .i64 b],[.int .i64 d]]) st h (by simp) (by simp);simpa using this
theorem ajI(wl aa:Nat){x:XD}{f:Int}{c:CD}{i:ID}(n a:Int)(st:ag)(h:VW x c i) :
  (aP S).call wl aa 131 [vw x f c i,.agg (fR (bJ c.vars) n).cells,.dh 1 [[.int .i64 a]]] st=some (.bool (iU (bJ c.vars) (fR (bJ c.vars) n) [a]),st):=is1 wl aa _ a st h
def mZ(vs:List T3)(i:ID):Bool:=
 if i.n=14\/i.n=15\/i.n=16\/i.n=17\/i.n=18 then iU vs uL [i.a,i.b,i.c] else
 if i.n=19\/i.n=20 then iU vs nu [i.a]&&iU vs uL [i.b,i.c] else
 if i.n=21\/i.n=22 then iU vs nu [i.a]&&iU vs (fR vs i.b) [i.c] else
 if i.n=23\/i.n=24 then iU vs nu [i.a,i.b,i.c] else false
theorem ae4(wl aa:Nat){x:XD}{f:Int}{c:CD}{i:ID}(st:ag)(h:VW x c i) :
  (aP S).call wl aa 132 [vw x f c i] st=some (.bool (mZ (bJ c.vars) i),st):=by
 have hs:=h.sl;have hI2:=λp q r s t a b=>ab6 0 0 (f:=f) (i:=⟨p,q,r,s,t,i.args⟩) a b [] (h.any p q r s t);have hI3:=λp q r s t a b d=>ajH 0 0 (f:=f) (i:=⟨p,q,r,s,t,i.args⟩) a b d [] (h.any p q r s t);have Gq:=λp q r s t a=>Ok 0 0 (f:=f) (i:=⟨p,q,r,s,t,i.args⟩) a [] (h.any p q r s t);have hB3:=λp q r s t a b d=>ae3 0 0 (f:=f) (i:=⟨p,q,r,s,t,i.args⟩) a b d [] (h.any p q r s t);have hC:=λp q r s t n a=>ajI 0 0 (f:=f) (i:=⟨p,q,r,s,t,i.args⟩) n a [] (h.any p q r s t);have hO:=λp q r s t n=>xH 0 0 x f c ⟨p,q,r,s,t,i.args⟩ n [] (h.any p q r s t);simp only[vw,T3.cells]at hI3 hI2 hB3 Gq hC hO;refine aH (sf:=wD) rfl rfl (by simp[h.pure]) rfl (by simp) ?_;by_cases F2:i.n=14
 skip
 simp[wD,vw,hs,hI3,mZ,F2]
 skip
 by_cases HH:i.n=15
 skip
 simp[wD,vw,hs,hI3,mZ,HH]
 skip
 by_cases AX:i.n=16
 skip
 simp[wD,vw,hs,hI3,mZ,AX]
 skip
 by_cases Aa:i.n=17
 skip
 simp[wD,vw,hs,hI3,mZ,Aa]
 skip
 by_cases FB:i.n=18
 skip
 simp[wD,vw,hs,hI3,mZ,FB]
 skip
 by_cases CE:i.n=19
 skip
 cases ea:iU (bJ c.vars) nu [i.a] with
 |true=>
  simp[wD,vw,hs,hI2,Gq,mZ,CE,ea]
 |false=>
  simp[wD,vw,hs,Gq,mZ,CE,ea]
 skip
 by_cases CF:i.n=20
 skip
 cases ea:iU (bJ c.vars) nu [i.a] with
 |true=>
  simp[wD,vw,hs,hI2,Gq,mZ,CF,ea]
 |false=>
  simp[wD,vw,hs,Gq,mZ,CF,ea]
 skip
 by_cases N0:i.n=21
 skip
 cases ea:iU (bJ c.vars) nu [i.a] with
 |true=>
  simp[wD,ai,ah,vw,hs,Gq,hC,hO,mZ,N0,ea]
 |false=>
  simp[wD,ai,ah,vw,hs,Gq,mZ,N0,ea]
 skip
 by_cases N6:i.n=22
 skip
 cases ea:iU (bJ c.vars) nu [i.a] with
 |true=>
  simp[wD,ai,ah,vw,hs,Gq,hC,hO,mZ,N6,ea]
 |false=>
  simp[wD,ai,ah,vw,hs,Gq,mZ,N6,ea]
 skip
 by_cases Ke:i.n=23
 skip
 simp[wD,vw,hs,hB3,mZ,Ke]
 skip
 by_cases X9:i.n=24
 skip
 simp[wD,vw,hs,hB3,mZ,X9]
 skip
 simp[wD,vw,hs,mZ,F2,HH,AX,Aa,FB,CE,CF,N0,N6,Ke,X9]
end cr
namespace cr
open Ax Go aF cJ
def Sn(vs:List T3)(i:ID)(g:CD):Bool:=decide (((dI i.args).length:Int)=g.params)&&decide (g.params<=(bJ g.vars).length) &&
  ((dI i.args).zip (bJ g.vars)).all (λp=>iU vs p.2 [p.1])&&(decide (i.a = -1)||g.bg&&iU vs g.res [i.a])
def C8(cs:List CD)(vs:List T3)(i:ID):Bool:=match gh cs i.c with
 |none=>false|some g=>Sn vs i g
def So{α β:Type}(p:α->β->Bool)(l:List α)(m:List β)(k:Nat):Prop:=∀j (h1:j<l.length)(h2:j<m.length),j<k->p l[j] m[j]=true
theorem HL{α β:Type}{p:α->β->Bool}{l:List α}{m:List β}:So p l m 0:=λ_ _ _ h=>absurd h (by omega)
theorem HM{α β:Type}{p:α->β->Bool}{l:List α}{m:List β}{k:Nat}(h:So p l m k)(h1:k<l.length)(h2:k<m.length)(hp:p l[k] m[k]=true):So p l m (k+1):=by
 intro j j1 j2 hj;rcases Nat.lt_or_ge j k with oe|oe;exact h j j1 j2 oe;have:j=k:=by omega
 subst this;exact hp
theorem Md{α β:Type}{p:α->β->Bool}{l:List α}{m:List β}(h:So p l m l.length):(l.zip m).all (λq=>p q.1 q.2)=true:=by
 rw[aaS];intro q hq;obtain⟨j,hj,rfl⟩:=abe.1 hq;have h1:j<l.length:=by simp at hj;omega
 have h2:j<m.length:=by simp at hj;omega
 simpa using h j h1 h2 h1
theorem zT{α β:Type}{p:α->β->Bool}{l:List α}{m:List β}{k:Nat}(h1:k<l.length)(h2:k<m.length)(hp:p l[k] m[k]=false):(l.zip m).all (λq=>p q.1 q.2)=false:=by
 rw[aha];refine⟨(l[k],m[k]),?_,by simp[hp]⟩;rw[abe];exact⟨k,by simp;omega,by simp⟩
theorem II(wl aa:Nat){x:XD}{f:Int}{c:CD}{i:ID}(st:ag)(h:VW x c i)(hb:∀g∈bP x.codes,(bJ g.vars).length<1000000000) :
  (aP S).call wl aa 140 [vw x f c i] st=some (.bool (C8 (bP x.codes) (bJ c.vars) i),st):=by
 have hs:=h.sl;have hG:=h.x.codes;have hA:=h.args;have hC:=λt a=>is1 0 0 (f:=f) t a [] h;have om:=λ(g:CD) a=>is1 0 0 (f:=f) g.res a [] h;simp only[vw,T3.cells]at hC om;refine aH (sf:=NB) rfl rfl (by simp[h.pure]) rfl (by simp) ?_;unfold C8;cases hg:gh (bP x.codes) i.c with
 |none=>
  rcases iq hg with h0|⟨h0,h1⟩;simp[NB,vw,hs,h0];have rF:¬i.c<0:=by omega
  simp[NB,vw,hs,rF,h1,hG,aV hG]
 |some g=>
  obtain⟨k,hk,cL,rfl⟩:=ij hg;have rF:¬i.c<0:=by omega
  have iM:¬((bP x.codes).length:Int)<=i.c:=by omega
  have Oa:=aar cL;have hV:=(gQ hG _ Oa).1;have mh:=iB hV;have lS:=gr hV;have hN:=(gQ hG _ Oa).2;have fV:=lA hN;have fq:=jQ hN;have Bj:=hb _ Oa;generalize hgq:(bP x.codes)[k]=g at *;rw[hk]at rF iM;unfold Sn;by_cases hp:((dI i.args).length:Int)=g.params;by_cases hq:g.params<=(bJ g.vars).length;have hq':¬((bJ g.vars).length:Int)<g.params:=by omega
  simp[NB,vw,hs,rF,iM,hk,cL,hG,aV hG,CD.cells,hA,bV hA,hp,lS,fV,fq,hV,dw hV,hq,hq',hgq]
  skip
  refine aT Pp.eq_1 (λk:Nat=>⟨[(1,.fp 0 0),(3,.fp 1 0),(4,.fp 2 0),(43,.val i.args),(44,.val (.int .i64 g.params)),(45,.val (.int .i64 k))],
   [[x.aD,x.globals,x.codes,x.ax,.int .i64 x.main,.int .i64 f,.int .i64 c.params,c.vars,.bool c.bg,.int .i64 c.res.b,.int .i64 c.res.r,.int .i64 c.res.d,c.dO,
    .int .i64 i.op,.int .i64 i.a,.int .i64 i.b,.int .i64 i.c,.int .i64 i.n,i.args],
    [.int .i64 i.op,.int .i64 i.a,.int .i64 i.b,.int .i64 i.c,.int .i64 i.n,i.args],
    [.int .i64 g.params,g.vars,.bool g.bg,.int .i64 g.res.b,.int .i64 g.res.r,.int .i64 g.res.d,g.dO]],[]⟩)
   (λk=>k<=(dI i.args).length/\So (λa b=>iU (bJ c.vars) b [a]) (dI i.args) (bJ g.vars) k) (λk=>(dI i.args).length-k) 0 (by simp[hk]) ⟨by omega,HL⟩ ?_
  intro k ⟨Du,hz⟩ ih;have hlen:(dI i.args).length<=(bJ g.vars).length:=by omega
  by_cases aQ:k<(dI i.args).length;have Sp:(k:Int)<g.params:=by omega
  have v9:k<(bJ g.vars).length:=by omega
  have hw:=wk k (by omega);have hc:=hC (bJ g.vars)[k] (dI i.args)[k];cases he:iU (bJ c.vars) (bJ g.vars)[k] [(dI i.args)[k]] with
  |true=>
   simp[hs,Sp,aQ,v9,hA,bV hA,hV,dw hV,ai,ah,hc,he,hw];exact ih (k+1) ⟨by omega,HM hz aQ v9 he⟩ (by omega)
  |false=>
   have hf:=zT (p:=λa b=>iU (bJ c.vars) b [a]) aQ v9 he;simp[hs,Sp,aQ,v9,hA,bV hA,hV,dw hV,ai,ah,hc,he,hf]
  have Sp:¬(k:Int)<g.params:=by omega
  have cL:k=(dI i.args).length:=by omega
  have hf:=Md (p:=λa b=>iU (bJ c.vars) b [a]) (cL ▸ hz);have DS:=om g i.a;cases e1:decide (i.a = -1) with
  |true=>simp[Sp,hf,of_decide_eq_true e1]|false=>
   have e1':=of_decide_eq_false e1;cases e2:g.bg with
   |true=>simp[hs,Sp,hf,e1',DS]|false=>simp[Sp,hf,e1']
  have hq':((bJ g.vars).length:Int)<g.params:=by omega
  simp[NB,vw,hs,rF,iM,hk,cL,hG,aV hG,CD.cells,hA,bV hA,hp,lS,fV,fq,hV,dw hV,hq,hq',hgq];simp[NB,vw,hs,rF,iM,hk,cL,hG,aV hG,CD.cells,hA,bV hA,hp,mh,lS,fV,fq,hgq]
end cr
namespace cr
open Ax Go aF cJ
def C9(c:CD)(n:Int):Bool:=decide (0<=n)&&decide (n<(gx c.dO).length)
def mj(x:XD)(c:CD)(i:ID):Bool:=
 if i.op=13 then C8 (bP x.codes) (bJ c.vars) i else
 if i.op=14\/i.op=15 then iU (bJ c.vars) uL [i.a] else
 if i.op=16 then C9 c i.n else
 if i.op=17 then iU (bJ c.vars) nu [i.a]&&C9 c i.n&&C9 c i.c else
 if i.op=18 then (if c.bg then iU (bJ c.vars) c.res [i.a] else decide (i.a = -1)) else
 FI (bJ x.globals) (bJ c.vars) i.n i.a
theorem aaK(cs:List CD)(vs:List T3)(i:ID)(p r t:Int):C8 cs vs ⟨p,i.a,r,i.c,t,i.args⟩=C8 cs vs i:=rfl
theorem aoF(wl aa:Nat){x:XD}{f:Int}{c:CD}{i:ID}(a:Int)(st:ag)(h:VW x c i) :
  (aP S).call wl aa 131 [vw x f c i,.agg c.res.cells,.dh 1 [[.int .i64 a]]] st=some (.bool (iU (bJ c.vars) c.res [a]),st):=is1 wl aa _ a st h
theorem aaL(wl aa:Nat){x:XD}{f:Int}{c:CD}{i:ID}(st:ag)(h:VW x c i)(hb:∀g∈bP x.codes,(bJ g.vars).length<1000000000) :
  (aP S).call wl aa 136 [vw x f c i] st=some (.bool (mj x c i),st):=by
 have hs:=h.sl;have Ga:=λp q r s t a=>ab5 0 0 (f:=f) (i:=⟨p,q,r,s,t,i.args⟩) a [] (h.any p q r s t);have Gq:=λp q r s t a=>Ok 0 0 (f:=f) (i:=⟨p,q,r,s,t,i.args⟩) a [] (h.any p q r s t);have hR:=λp q r s t a=>aoF 0 0 (f:=f) (i:=⟨p,q,r,s,t,i.args⟩) a [] (h.any p q r s t);have hP:=λp q r s t n=>Xh 0 0 (f:=f) (i:=⟨p,q,r,s,t,i.args⟩) n [] (h.any p q r s t);have hG:=λp q r s t n a=>Sl 0 0 (f:=f) (i:=⟨p,q,r,s,t,i.args⟩) n a [] (h.any p q r s t);have hL:=λp r t=>II 0 0 (x:=x) (f:=f) (c:=c) (i:=⟨p,i.a,r,i.c,t,i.args⟩) [] (h.any p _ r _ t) hb;have hP:∀p q r s t n,(aP S).call 0 0 141 [vw x f c ⟨p,q,r,s,t,i.args⟩,.int .i64 n] []=some (.bool (C9 c n),[]):=λp q r s t n=>hP p q r s t n;simp only[aaK]at hL;simp only[vw,T3.cells]at Ga Gq hR hP hG hL;refine aH (sf:=zH) rfl rfl (by simp[h.pure]) rfl (by simp) ?_;by_cases Cw:i.op=13
 skip
 simp[zH,vw,hs,hL,mj,Cw]
 skip
 by_cases F2:i.op=14
 skip
 simp[zH,vw,hs,Ga,mj,F2]
 skip
 by_cases HH:i.op=15
 skip
 simp[zH,vw,hs,Ga,mj,HH]
 skip
 by_cases AX:i.op=16
 skip
 simp[zH,vw,hs,hP,mj,AX]
 skip
 by_cases Aa:i.op=17
 skip
 cases eb:iU (bJ c.vars) nu [i.a] with
 |true=>
  cases ep:C9 c i.n with
  |true=>
   simp[zH,vw,hs,Gq,hP,mj,Aa,eb,ep]
  |false=>
   simp[zH,vw,hs,Gq,hP,mj,Aa,eb,ep]
 |false=>
  cases ep:C9 c i.n with
  |true=>
   simp[zH,vw,hs,Gq,mj,Aa,eb,ep]
  |false=>
   simp[zH,vw,hs,Gq,mj,Aa,eb,ep]
 skip
 by_cases FB:i.op=18
 skip
 cases eh:c.bg with
 |true=>
  simp only[eh]at hR;cases er:iU (bJ c.vars) c.res [i.a] with
  |true=>
   simp[zH,vw,hs,hR,mj,FB,eh,er]
  |false=>
   simp[zH,vw,hs,hR,mj,FB,eh,er]
 |false=>
  simp only[eh]at hR;cases er:iU (bJ c.vars) c.res [i.a] with
  |true=>
   simp[zH,vw,hs,mj,FB,eh]
  |false=>
   simp[zH,vw,hs,mj,FB,eh]
 skip
 simp[zH,vw,hs,hG,mj,Cw,F2,HH,AX,Aa,FB]
end cr
namespace cr
open Ax Go aF cJ
def gf(x:XD)(f:Int)(c:CD)(i:ID):Bool:=
 if i.op=1 then iU (bJ c.vars) uL [i.a]||iU (bJ c.vars) nu [i.a]&&(decide (i.n=0)||decide (i.n=1)) else
 if i.op=2 then g9 (fR (bJ c.vars) i.a) else
 if i.op=3 then iU (bJ c.vars) (fR (bJ c.vars) i.a) [i.b] else
 if i.op=4 then mZ (bJ c.vars) i else
 if i.op=5 then decide (i.n=12)&&iU (bJ c.vars) uL [i.a,i.b]||decide (i.n=13)&&iU (bJ c.vars) nu [i.a,i.b] else
 if i.op=6 then C7 (kq x.aD) (bJ c.vars) i.b i.c i.a else
 if i.op=7 then C7 (kq x.aD) (bJ c.vars) i.a i.c i.b else
 if i.op=8 then A7 (bJ c.vars) i.b i.a&&iU (bJ c.vars) uL [i.c] else
 if i.op=9 then A7 (bJ c.vars) i.a i.c&&iU (bJ c.vars) uL [i.b] else
 if i.op=10 then iU (bJ c.vars) uL [i.a]&&decide (0<(fR (bJ c.vars) i.b).d) else
 if i.op=11 then decide ((fR (bJ c.vars) i.a).b=3)&&decide ((fR (bJ c.vars) i.a).d=0)&&C6 (oM x.ax) f (bJ c.vars) i.n i.a else
 if i.op=12 then decide (0<(fR (bJ c.vars) i.a).d)&&C6 (oM x.ax) f (bJ c.vars) i.n i.a&&iU (bJ c.vars) uL [i.b] else
 mj x c i
theorem aaM(vs:List T3)(i:ID)(p:Int):mZ vs ⟨p,i.a,i.b,i.c,i.n,i.args⟩=mZ vs i:=rfl
theorem aaN(wl aa:Nat){x:XD}{f:Int}{c:CD}{i:ID}(st:ag)(h:VW x c i)(hb:∀g∈bP x.codes,(bJ g.vars).length<1000000000) :
  (aP S).call wl aa 121 [vw x f c i] st=some (.bool (gf x f c i),st):=by
 have hs:=h.sl;have Ga:=λp q r s t a=>ab5 0 0 (f:=f) (i:=⟨p,q,r,s,t,i.args⟩) a [] (h.any p q r s t);have hI2:=λp q r s t a b=>ab6 0 0 (f:=f) (i:=⟨p,q,r,s,t,i.args⟩) a b [] (h.any p q r s t);have Gq:=λp q r s t a=>Ok 0 0 (f:=f) (i:=⟨p,q,r,s,t,i.args⟩) a [] (h.any p q r s t);have hB2:=λp q r s t a b=>ae2 0 0 (f:=f) (i:=⟨p,q,r,s,t,i.args⟩) a b [] (h.any p q r s t);have hC:=λp q r s t n a=>ajI 0 0 (f:=f) (i:=⟨p,q,r,s,t,i.args⟩) n a [] (h.any p q r s t);have hT:=λp q r s t n a=>JL 0 0 (f:=f) (i:=⟨p,q,r,s,t,i.args⟩) n a [] (h.any p q r s t);have hF:=λp q r s t a k v=>Xi 0 0 (f:=f) (i:=⟨p,q,r,s,t,i.args⟩) a k v [] (h.any p q r s t);have hY:=λp q r s t a b=>Xg 0 0 (f:=f) (i:=⟨p,q,r,s,t,i.args⟩) a b [] (h.any p q r s t);have hO:=λp q r s t n=>xH 0 0 x f c ⟨p,q,r,s,t,i.args⟩ n [] (h.any p q r s t);have hL2:=λp=>ae4 0 0 (x:=x) (f:=f) (c:=c) (i:=⟨p,i.a,i.b,i.c,i.n,i.args⟩) [] (h.any p _ _ _ _);have hL4:=aaL 0 0 (f:=f) [] h hb;simp only[aaM]at hL2;simp only[vw,T3.cells]at Ga hI2 Gq hB2 hC hT hF hY hO hL2 hL4;refine aH (sf:=mC) rfl rfl (by simp[h.pure]) rfl (by simp) ?_;by_cases h1:i.op=1
 skip
 cases ei:iU (bJ c.vars) uL [i.a] with
 |true=>
  cases eb:iU (bJ c.vars) nu [i.a] with
  |true=>
   cases n0:decide (i.n=0) with
   |true=>
    simp[mC,vw,hs,Ga,gf,h1,ei,eb,n0]
   |false=>
    simp[mC,vw,hs,Ga,gf,h1,ei,eb,n0]
  |false=>
   cases n0:decide (i.n=0) with
   |true=>
    simp[mC,vw,hs,Ga,gf,h1,ei,eb,n0]
   |false=>
    simp[mC,vw,hs,Ga,gf,h1,ei,eb,n0]
 |false=>
  cases eb:iU (bJ c.vars) nu [i.a] with
  |true=>
   cases n0:decide (i.n=0) with
   |true=>
    simp[mC,vw,hs,Ga,Gq,gf,h1,ei,eb,n0]
   |false=>
    simp[mC,vw,hs,Ga,Gq,gf,h1,ei,eb,n0]
  |false=>
   cases n0:decide (i.n=0) with
   |true=>
    simp[mC,vw,hs,Ga,Gq,gf,h1,ei,eb,n0]
   |false=>
    simp[mC,vw,hs,Ga,Gq,gf,h1,ei,eb,n0]
 skip
 by_cases h2:i.op=2
 skip
 simp[mC,vw,hs,hO,JT,gf,h2]
 skip
 by_cases h3:i.op=3
 skip
 simp[mC,vw,hs,ai,ah,hC,hO,gf,h3]
 skip
 by_cases h4:i.op=4
 skip
 simp[mC,vw,hs,hL2,gf,h4]
 skip
 by_cases h5:i.op=5
 skip
 by_cases m12:i.n=12
 skip
 cases e2:iU (bJ c.vars) uL [i.a,i.b] with
 |true=>
  simp[mC,vw,hs,hI2,gf,h5,m12,e2]
 |false=>
  simp[mC,vw,hs,hI2,gf,h5,m12,e2]
 skip
 by_cases m13:i.n=13
 skip
 simp[mC,vw,hs,hB2,gf,h5,m13]
 skip
 simp[mC,vw,hs,gf,h5,m12,m13]
 skip
 by_cases h6:i.op=6
 skip
 simp[mC,vw,hs,hF,gf,h6]
 skip
 by_cases h7:i.op=7
 skip
 simp[mC,vw,hs,hF,gf,h7]
 skip
 by_cases h8:i.op=8
 skip
 cases ea:A7 (bJ c.vars) i.b i.a with
 |true=>
  simp[mC,vw,hs,Ga,hY,gf,h8,ea]
 |false=>
  simp[mC,vw,hs,hY,gf,h8,ea]
 skip
 by_cases h9:i.op=9
 skip
 cases ea:A7 (bJ c.vars) i.a i.c with
 |true=>
  simp[mC,vw,hs,Ga,hY,gf,h9,ea]
 |false=>
  simp[mC,vw,hs,hY,gf,h9,ea]
 skip
 by_cases Bi:i.op=10
 skip
 cases ei:iU (bJ c.vars) uL [i.a] with
 |true=>
  simp[mC,vw,hs,Ga,hO,gf,Bi,ei]
 |false=>
  simp[mC,vw,hs,Ga,gf,Bi,ei]
 skip
 by_cases yN:i.op=11
 skip
 cases e3:decide ((fR (bJ c.vars) i.a).b=3) with
 |true=>
  cases e4:decide ((fR (bJ c.vars) i.a).d=0) with
  |true=>
   simp[mC,vw,hs,hT,hO,gf,yN,e3,e4]
  |false=>
   simp[mC,vw,hs,hO,gf,yN,e3,e4]
 |false=>
  cases e4:decide ((fR (bJ c.vars) i.a).d=0) with
  |true=>
   simp[mC,vw,hs,hO,gf,yN,e3,e4]
  |false=>
   simp[mC,vw,hs,hO,gf,yN,e3,e4]
 skip
 by_cases tX:i.op=12
 skip
 cases e5:decide (0<(fR (bJ c.vars) i.a).d) with
 |true=>
  cases e6:C6 (oM x.ax) f (bJ c.vars) i.n i.a with
  |true=>
   simp[mC,vw,hs,Ga,hT,hO,gf,tX,e5,e6]
  |false=>
   simp[mC,vw,hs,hT,hO,gf,tX,e5,e6]
 |false=>
  cases e6:C6 (oM x.ax) f (bJ c.vars) i.n i.a with
  |true=>
   simp[mC,vw,hs,hO,gf,tX,e5,e6]
  |false=>
   simp[mC,vw,hs,hO,gf,tX,e5,e6]
 skip
 simp[mC,vw,hs,hL4,gf,h1,h2,h3,h4,h5,h6,h7,h8,h9,Bi,yN,tX]
end cr
namespace cr
open Ax Go aF cJ
theorem Ol{i:ID}(hi:tu i.args=true):(bX i).ay=true:=by
 have h1:=cD (jS hi);simp[bX, *]
def uM(x:XD)(f:Int)(i:ID):Bool:=match gh (bP x.codes) f with
 |none=>false|some c=>zm i&&gf x f c i
theorem tr(wl aa:Nat){x:XD}(f:Int){i:ID}(st:ag)(hx:x.ok)(hi:tu i.args=true)(iu:fZ i.args=true)(hb:∀g∈bP x.codes,(bJ g.vars).length<1000000000) :
  (aP S).call wl aa 108 [cH x,.int .i64 f,bX i] st=some (.bool (uM x f i),st):=by
 have hs:=hx.sl;have hG:=hx.codes;have h1:=jS hi;have h2:=dg iu h1;have hB:=aaI 0 0 i [] hi iu;simp only[bX]at hB;refine aH (sf:=Rd) rfl rfl (by simp[hx.pure,Ol hi]) rfl (by simp) ?_;unfold uM;cases hg:gh (bP x.codes) f with
 |none=>
  rcases iq hg with h0|⟨h0,iM⟩;have rF:¬0<=f:=by omega
  simp[Rd,cH,bX,hs,h1,rF,ai,ah];have aoG:¬f<((bP x.codes).length:Int):=by omega
  simp[Rd,cH,bX,hs,h1,h0,aoG,hG,aV hG,ai,ah]
 |some c=>
  obtain⟨k,rfl,hk,hc⟩:=ij hg;have oU:=gQ hG c (hc ▸ aar hk);have hF:=aaN 0 0 (x:=x) (f:=(k:Int)) (c:=c) (i:=i) [] ⟨hx,oU.1,oU.2,hi,iu⟩ hb;have mh:=iB oU.1;have lS:=gr oU.1;have fV:=lA oU.2;have fq:=jQ oU.2;simp only[vw]at hF;have h0:(0:Int)<=(k:Int):=by omega
  have iM:(k:Int)<((bP x.codes).length:Int):=by omega
  cases e:zm i with
  |true=>simp[Rd,cH,bX,hs,h1,h2,h0,hk,hG,aV hG,CD.cells,ai,ah,hB,hF,hc,e,lS,fq]|false=>simp[Rd,cH,bX,hs,h1,h2,h0,hk,hG,aV hG,ai,ah,hB,e]
end cr
namespace cr
open Ax Go aF cJ
def fT(s t:T3):Bool:=decide (s.b=t.b)&&(decide (s.r=t.r)&&decide (s.d=t.d))
theorem ua(s t:T3):fT s t=decide (s=t):=by
 cases s;cases t;simp[fT]
@[simp]theorem T3.eta(t:T3):(⟨t.b,t.r,t.d⟩:T3)=t:=rfl
@[simp high]theorem asy(a b c a' b' c':Int):Kg (.flat [.int,.int,.int]) (.agg [.int .i64 a,.int .i64 b,.int .i64 c]) (.agg [.int .i64 a',.int .i64 b',.int .i64 c'])=some (fT ⟨a,b,c⟩ ⟨a',b',c'⟩):=by
 simp[fT]
def rG(b c n a:Bool)(i:ID):Bool:=(b||decide (i.b=0))&&(c||decide (i.c=0))&&(n||decide (i.n=0))&&(a||decide (((dI i.args).length:Int)=0))
def cQ(i:ID):Bool:=
 if i.op=1\/i.op=11\/i.op=19\/i.op=20 then rG false false true false i else
 if i.op=3\/i.op=10 then rG true false false false i else
 if i.op=4 then rG true true true false i else
 if i.op=5\/i.op=12 then rG true false true false i else
 if i.op=6\/i.op=7\/i.op=8\/i.op=9 then rG true true false false i else
 if i.op=13 then rG false true false true i else
 if i.op=17 then rG false true true false i else
 if i.op=16 then decide (i.a=0)&&decide (i.b=0)&&decide (i.c=0)&&decide (((dI i.args).length:Int)=0) else
 rG false false false false i
theorem Xj(wl aa:Nat)(i:ID)(st:ag)(hi:tu i.args=true)(iu:fZ i.args=true) :
  (aP S).call wl aa 76 [bX i] st=some (.bool (cQ i),st):=by
 have hs:=jS hi;have hv:=dg iu hs;have hl:=bV hi;refine aH (sf:=sS) rfl rfl (by simp[bX,hs]) rfl (by simp) ?_;unfold bX;by_cases h1:i.op=1
 skip
 cases c0:decide (i.b=0) with
 |true=>
  cases c1:decide (i.c=0) with
  |true=>
   simp[sS,hs,hv,hl,cQ,rG,h1,c0,c1]
  |false=>
   simp[sS,hs,cQ,rG,h1,c0,c1]
 |false=>
  simp[sS,hs,cQ,rG,h1,c0]
 skip
 by_cases yN:i.op=11
 skip
 cases c0:decide (i.b=0) with
 |true=>
  cases c1:decide (i.c=0) with
  |true=>
   simp[sS,hs,hv,hl,cQ,rG,yN,c0,c1]
  |false=>
   simp[sS,hs,cQ,rG,yN,c0,c1]
 |false=>
  simp[sS,hs,cQ,rG,yN,c0]
 skip
 by_cases CE:i.op=19
 skip
 cases c0:decide (i.b=0) with
 |true=>
  cases c1:decide (i.c=0) with
  |true=>
   simp[sS,hs,hv,hl,cQ,rG,CE,c0,c1]
  |false=>
   simp[sS,hs,cQ,rG,CE,c0,c1]
 |false=>
  simp[sS,hs,cQ,rG,CE,c0]
 skip
 by_cases CF:i.op=20
 skip
 cases c0:decide (i.b=0) with
 |true=>
  cases c1:decide (i.c=0) with
  |true=>
   simp[sS,hs,hv,hl,cQ,rG,CF,c0,c1]
  |false=>
   simp[sS,hs,cQ,rG,CF,c0,c1]
 |false=>
  simp[sS,hs,cQ,rG,CF,c0]
 skip
 by_cases h3:i.op=3
 skip
 cases c0:decide (i.c=0) with
 |true=>
  cases c1:decide (i.n=0) with
  |true=>
   simp[sS,hs,hv,hl,cQ,rG,h3,c0,c1]
  |false=>
   simp[sS,hs,cQ,rG,h3,c0,c1]
 |false=>
  simp[sS,hs,cQ,rG,h3,c0]
 skip
 by_cases Bi:i.op=10
 skip
 cases c0:decide (i.c=0) with
 |true=>
  cases c1:decide (i.n=0) with
  |true=>
   simp[sS,hs,hv,hl,cQ,rG,Bi,c0,c1]
  |false=>
   simp[sS,hs,cQ,rG,Bi,c0,c1]
 |false=>
  simp[sS,hs,cQ,rG,Bi,c0]
 skip
 by_cases h4:i.op=4
 skip
 simp[sS,hs,hv,hl,cQ,rG,h4]
 skip
 by_cases h5:i.op=5
 skip
 cases c0:decide (i.c=0) with
 |true=>
  simp[sS,hs,hv,hl,cQ,rG,h5,c0]
 |false=>
  simp[sS,hs,cQ,rG,h5,c0]
 skip
 by_cases tX:i.op=12
 skip
 cases c0:decide (i.c=0) with
 |true=>
  simp[sS,hs,hv,hl,cQ,rG,tX,c0]
 |false=>
  simp[sS,hs,cQ,rG,tX,c0]
 skip
 by_cases h6:i.op=6
 skip
 cases c0:decide (i.n=0) with
 |true=>
  simp[sS,hs,hv,hl,cQ,rG,h6,c0]
 |false=>
  simp[sS,hs,cQ,rG,h6,c0]
 skip
 by_cases h7:i.op=7
 skip
 cases c0:decide (i.n=0) with
 |true=>
  simp[sS,hs,hv,hl,cQ,rG,h7,c0]
 |false=>
  simp[sS,hs,cQ,rG,h7,c0]
 skip
 by_cases h8:i.op=8
 skip
 cases c0:decide (i.n=0) with
 |true=>
  simp[sS,hs,hv,hl,cQ,rG,h8,c0]
 |false=>
  simp[sS,hs,cQ,rG,h8,c0]
 skip
 by_cases h9:i.op=9
 skip
 cases c0:decide (i.n=0) with
 |true=>
  simp[sS,hs,hv,hl,cQ,rG,h9,c0]
 |false=>
  simp[sS,hs,cQ,rG,h9,c0]
 skip
 by_cases Cw:i.op=13
 skip
 cases c0:decide (i.b=0) with
 |true=>
  cases c1:decide (i.n=0) with
  |true=>
   simp[sS,hs,cQ,rG,Cw,c0,c1]
  |false=>
   simp[sS,hs,cQ,rG,Cw,c0,c1]
 |false=>
  simp[sS,hs,cQ,rG,Cw,c0]
 skip
 by_cases Aa:i.op=17
 skip
 cases c0:decide (i.b=0) with
 |true=>
  simp[sS,hs,hv,hl,cQ,rG,Aa,c0]
 |false=>
  simp[sS,hs,cQ,rG,Aa,c0]
 skip
 by_cases AX:i.op=16
 skip
 cases c0:decide (i.a=0) with
 |true=>
  cases c1:decide (i.b=0) with
  |true=>
   cases c2:decide (i.c=0) with
   |true=>
    simp[sS,hs,hv,hl,cQ,AX,c0,c1,c2]
   |false=>
    simp[sS,hs,cQ,AX,c0,c1,c2]
  |false=>
   simp[sS,hs,cQ,AX,c0,c1]
 |false=>
  simp[sS,hs,cQ,AX,c0]
 skip
 cases c0:decide (i.b=0) with
 |true=>
  cases c1:decide (i.c=0) with
  |true=>
   cases c2:decide (i.n=0) with
   |true=>
    simp[sS,hs,hv,hl,cQ,rG,h1,yN,CE,CF,h3,Bi,h4,h5,tX,h6,h7,h8,h9,Cw,Aa,AX,c0,c1,c2]
   |false=>
    simp[sS,hs,cQ,rG,h1,yN,CE,CF,h3,Bi,h4,h5,tX,h6,h7,h8,h9,Cw,Aa,AX,c0,c1,c2]
  |false=>
   simp[sS,hs,cQ,rG,h1,yN,CE,CF,h3,Bi,h4,h5,tX,h6,h7,h8,h9,Cw,Aa,AX,c0,c1]
 |false=>
  simp[sS,hs,cQ,rG,h1,yN,CE,CF,h3,Bi,h4,h5,tX,h6,h7,h8,h9,Cw,Aa,AX,c0]
theorem cm(wl aa:Nat)(st:ag):(aP S).call wl aa 78 [] st=some (.agg [.int .i64 1,.int .i64 0,.int .i64 0],st):=by
 refine aH (sf:=s78) rfl rfl rfl rfl rfl ?_;simp[s78]
theorem ck(wl aa:Nat)(st:ag):(aP S).call wl aa 79 [] st=some (.agg [.int .i64 2,.int .i64 0,.int .i64 0],st):=by
 refine aH (sf:=s79) rfl rfl rfl rfl rfl ?_;simp[s79]
def ld(n:Int)(a b d:T3):Bool:=
 if n=14\/n=15\/n=16\/n=17\/n=18 then fT a ⟨1,0,0⟩&&fT b ⟨1,0,0⟩&&fT d ⟨1,0,0⟩ else
 if n=19\/n=20 then fT a ⟨2,0,0⟩&&fT b ⟨1,0,0⟩&&fT d ⟨1,0,0⟩ else
 if n=21\/n=22 then fT a ⟨2,0,0⟩ && !fT b ⟨0,0,0⟩&&fT b d else
 if n=23\/n=24 then fT a ⟨2,0,0⟩&&fT b ⟨2,0,0⟩&&fT d ⟨2,0,0⟩ else false
theorem Sq(wl aa:Nat)(n:Int)(a b d:T3)(st:ag) :
  (aP S).call wl aa 80 [.int .i64 n,.agg [.int .i64 a.b,.int .i64 a.r,.int .i64 a.d],.agg [.int .i64 b.b,.int .i64 b.r,.int .i64 b.d],.agg [.int .i64 d.b,.int .i64 d.r,.int .i64 d.d]] st=some (.bool (ld n a b d),st):=by
 refine aH (sf:=wI) rfl rfl (by simp) rfl (by simp) ?_;by_cases F2:n=14
 skip
 cases c0:fT a ⟨1,0,0⟩ with
 |true=>
  cases c1:fT b ⟨1,0,0⟩ with
  |true=>
   simp[wI,ai,ah,cm,ld,F2,c0,c1]
  |false=>
   simp[wI,ai,ah,cm,ld,F2,c0,c1]
 |false=>
  simp[wI,ai,ah,cm,ld,F2,c0]
 skip
 by_cases HH:n=15
 skip
 cases c0:fT a ⟨1,0,0⟩ with
 |true=>
  cases c1:fT b ⟨1,0,0⟩ with
  |true=>
   simp[wI,ai,ah,cm,ld,HH,c0,c1]
  |false=>
   simp[wI,ai,ah,cm,ld,HH,c0,c1]
 |false=>
  simp[wI,ai,ah,cm,ld,HH,c0]
 skip
 by_cases AX:n=16
 skip
 cases c0:fT a ⟨1,0,0⟩ with
 |true=>
  cases c1:fT b ⟨1,0,0⟩ with
  |true=>
   simp[wI,ai,ah,cm,ld,AX,c0,c1]
  |false=>
   simp[wI,ai,ah,cm,ld,AX,c0,c1]
 |false=>
  simp[wI,ai,ah,cm,ld,AX,c0]
 skip
 by_cases Aa:n=17
 skip
 cases c0:fT a ⟨1,0,0⟩ with
 |true=>
  cases c1:fT b ⟨1,0,0⟩ with
  |true=>
   simp[wI,ai,ah,cm,ld,Aa,c0,c1]
  |false=>
   simp[wI,ai,ah,cm,ld,Aa,c0,c1]
 |false=>
  simp[wI,ai,ah,cm,ld,Aa,c0]
 skip
 by_cases FB:n=18
 skip
 cases c0:fT a ⟨1,0,0⟩ with
 |true=>
  cases c1:fT b ⟨1,0,0⟩ with
  |true=>
   simp[wI,ai,ah,cm,ld,FB,c0,c1]
  |false=>
   simp[wI,ai,ah,cm,ld,FB,c0,c1]
 |false=>
  simp[wI,ai,ah,cm,ld,FB,c0]
 skip
 by_cases CE:n=19
 skip
 cases c0:fT a ⟨2,0,0⟩ with
 |true=>
  cases c1:fT b ⟨1,0,0⟩ with
  |true=>
   simp[wI,ai,ah,cm,ck,ld,CE,c0,c1]
  |false=>
   simp[wI,ai,ah,cm,ck,ld,CE,c0,c1]
 |false=>
  simp[wI,ai,ah,ck,ld,CE,c0]
 skip
 by_cases CF:n=20
 skip
 cases c0:fT a ⟨2,0,0⟩ with
 |true=>
  cases c1:fT b ⟨1,0,0⟩ with
  |true=>
   simp[wI,ai,ah,cm,ck,ld,CF,c0,c1]
  |false=>
   simp[wI,ai,ah,cm,ck,ld,CF,c0,c1]
 |false=>
  simp[wI,ai,ah,ck,ld,CF,c0]
 skip
 by_cases N0:n=21
 skip
 cases e1:fT a ⟨2,0,0⟩ with
 |true=>
  cases e2:fT b ⟨0,0,0⟩ with
  |true=>
   simp[wI,ai,ah,ck,ld,N0,e1,e2]
  |false=>
   simp[wI,ai,ah,ck,ld,N0,e1,e2]
 |false=>
  simp[wI,ai,ah,ck,ld,N0,e1]
 skip
 by_cases N6:n=22
 skip
 cases e1:fT a ⟨2,0,0⟩ with
 |true=>
  cases e2:fT b ⟨0,0,0⟩ with
  |true=>
   simp[wI,ai,ah,ck,ld,N6,e1,e2]
  |false=>
   simp[wI,ai,ah,ck,ld,N6,e1,e2]
 |false=>
  simp[wI,ai,ah,ck,ld,N6,e1]
 skip
 by_cases Ke:n=23
 skip
 cases c0:fT a ⟨2,0,0⟩ with
 |true=>
  cases c1:fT b ⟨2,0,0⟩ with
  |true=>
   simp[wI,ai,ah,ck,ld,Ke,c0,c1]
  |false=>
   simp[wI,ai,ah,ck,ld,Ke,c0,c1]
 |false=>
  simp[wI,ai,ah,ck,ld,Ke,c0]
 skip
 by_cases X9:n=24
 skip
 cases c0:fT a ⟨2,0,0⟩ with
 |true=>
  cases c1:fT b ⟨2,0,0⟩ with
  |true=>
   simp[wI,ai,ah,ck,ld,X9,c0,c1]
  |false=>
   simp[wI,ai,ah,ck,ld,X9,c0,c1]
 |false=>
  simp[wI,ai,ah,ck,ld,X9,c0]
 skip
 simp[wI,ld,F2,HH,AX,Aa,FB,CE,CF,N0,N6,Ke,X9]
end cr
namespace cr
open Ax Go aF cJ
theorem Qk(wl aa:Nat)(t:T3)(st:ag)(h0:0<t.d)(hr:pU t.d=true) :
  (aP S).call wl aa 82 [.agg [.int .i64 t.b,.int .i64 t.r,.int .i64 t.d]] st=some (.agg [.int .i64 t.b,.int .i64 t.r,.int .i64 (t.d-1)],st):=by
 have hw:IntKind.i64.wrap (t.d-1)=t.d-1:=by
  simp only[pU,Ar,decide_eq_true_eq]at hr;rw[cI]<;>omega
 refine aH (sf:=s82) rfl rfl (by simp) rfl (by simp) ?_;simp[s82,hw]
def MH(c:CD):AV:=.agg [.int .i64 c.params,c.vars,.bool c.bg,.int .i64 c.res.b,.int .i64 c.res.r,.int .i64 c.res.d,c.dO]
theorem JW(wl aa:Nat){c:CD}(n:Int)(st:ag)(hV:sY c.vars=true)(hN:BX c.dO=true) :
  (aP S).call wl aa 77 [MH c,.int .i64 n] st=some (.agg (fR (bJ c.vars) n).cells,st):=by
 have mh:=iB hV;have lS:=gr hV;have fV:=lA hN;have fq:=jQ hN;have p1:=cD mh;have p2:=cD fV;refine aH (sf:=s77) rfl rfl (by simp[MH,p1,p2]) rfl (by simp) ?_;by_cases h0:n<0;have e:fR (bJ c.vars) n=T0:=by unfold fR;rw[if_neg (by omega)]
 simp[s77,MH,mh,fV,h0,e];obtain⟨k,rfl⟩:∃k:Nat,n=k:=⟨n.toNat,by omega⟩;by_cases hk:k<(bJ c.vars).length;have e:fR (bJ c.vars) k=(bJ c.vars)[k]:=by simp[fR,adz,hk]
 have uu:¬((bJ c.vars).length:Int)<=(k:Int):=by omega
 simp[s77,MH,lS,fV,h0,hV,dw hV,e,hk,uu];have e:fR (bJ c.vars) k=T0:=by simp[fR,adz,abV (agr hk)]
 have uu:((bJ c.vars).length:Int)<=(k:Int):=by omega
 simp[s77,MH,lS,fV,h0,hV,dw hV,e,uu]
def Sr(ss:List SD)(f n:Int)(t:T3):Bool:=match gh ss n with|some s=>decide (s.fn=f)&&fT s.t t|none=>false
theorem Xk(wl aa:Nat){x:XD}(f n:Int)(t:T3)(st:ag)(hx:x.ok) :
  (aP S).call wl aa 83 [cH x,.int .i64 f,.int .i64 n,.agg [.int .i64 t.b,.int .i64 t.r,.int .i64 t.d]] st=some (.bool (Sr (oM x.ax) f n t),st):=by
 have hs:=hx.sl;have hG:=hx.ax;refine aH (sf:=s83) rfl rfl (by simp[hx.pure]) rfl (by simp) ?_;unfold Sr;cases hg:gh (oM x.ax) n with
 |none=>
  rcases iq hg with h0|⟨h0,h1⟩;have rF:¬0<=n:=by omega
  simp[s83,cH,hs,rF,ai,ah];have iM:¬n<((oM x.ax).length:Int):=by omega
  simp[s83,cH,hs,h0,iM,hG,rE hG,ai,ah]
 |some s=>
  obtain⟨k,rfl,hk,hq⟩:=ij hg;cases hf:decide (s.fn=f) with
  |true=>simp[s83,cH,hs,hk,hG,rE hG,ai,ah,SD.cells,hq,hf]|false=>simp[s83,cH,hs,hk,hG,rE hG,ai,ah,SD.cells,hq,hf]
def Ss(rs:List RD)(t:T3)(k:Int):T3:=if t.b=3/\t.d=0 then
 match gh rs t.r with
 |some r=>(match gh (uT r.bM) k with|some fd=>fd.t|none=>T0)
 |none=>T0 else T0
theorem HN(wl aa:Nat){x:XD}(t:T3)(k:Int)(st:ag)(hx:x.ok) :
  (aP S).call wl aa 81 [cH x,.agg [.int .i64 t.b,.int .i64 t.r,.int .i64 t.d],.int .i64 k] st=some (.agg (Ss (kq x.aD) t k).cells,st):=by
 have hs:=hx.sl;have hR:=hx.aD;refine aH (sf:=ZB) rfl rfl (by simp[hx.pure]) rfl (by simp) ?_;unfold Ss;by_cases hb:t.b=3;by_cases hd:t.d=0;cases hr:gh (kq x.aD) t.r with
 |none=>
  rcases iq hr with h0|⟨h0,h1⟩;simp[ZB,cH,hs,hb,hd,h0];have rF:¬t.r<0:=by omega
  simp[ZB,cH,hs,hb,hd,rF,h1,mL hR]
 |some r=>
  obtain⟨j,hj,kJ,hq⟩:=ij hr;have rF:¬t.r<0:=by omega
  have iM:¬((kq x.aD).length:Int)<=t.r:=by omega
  have hF:=A4 hR r (hq ▸ aar kJ);have S1:=JP hF;have CA:=DA hF;rw[hj]at rF iM;simp only;cases hk:gh (uT r.bM) k with
  |none=>
   rcases iq hk with k0|⟨k0,k1⟩;simp[ZB,cH,hs,hb,hd,rF,iM,mL hR,k0,hj];have k0':¬k<0:=(by omega);simp[ZB,cH,hs,hb,hd,rF,iM,hR,mL hR,kJ,RD.cells,k0',k1,CA,hF,yE hF,hj,hq]
  |some fd=>
   obtain⟨q,hqk,FY,hfd⟩:=ij hk;have k0':¬k<0:=(by omega);have Si:¬((uT r.bM).length:Int)<=k:=(by omega);rw[hqk]at k0' Si;simp[ZB,cH,hs,hb,hd,rF,iM,hR,mL hR,kJ,RD.cells,k0',Si,CA,hF,yE hF,FD.cells,hj,hq,hqk,FY,hfd]
 simp[ZB,cH,hs,hb,hd];simp[ZB,cH,hs,hb]
end cr
namespace cr
open Ax Go aF cJ
def Da(vs:List T3)(a:Int)(t:T3):Bool:=!fT (fR vs a) ⟨0,0,0⟩&&fT (fR vs a) t
def ae6(vs:List T3)(i:ID)(g:CD):Bool:=decide (¬g.params<0)&&decide (g.params<=(bJ g.vars).length)&&decide (((dI i.args).length:Int)=g.params) &&
  ((dI i.args).zip (bJ g.vars)).all (λp=>Da vs p.1 p.2)&&(decide (i.a = -1)||g.bg&&Da vs i.a g.res)
def Om(cs:List CD)(vs:List T3)(i:ID):Bool:=match gh cs i.c with
 |none=>false|some g=>ae6 vs i g
theorem Xl(wl aa:Nat){x:XD}{c:CD}{i:ID}(st:ag)(hx:x.ok)(hV:sY c.vars=true)(hN:BX c.dO=true)(hA:tu i.args=true)(iu:fZ i.args=true)
  (hb:∀g∈bP x.codes,(bJ g.vars).length<1000000000) :
  (aP S).call wl aa 84 [cH x,MH c,bX i] st=some (.bool (Om (bP x.codes) (bJ c.vars) i),st):=by
 have hs:=hx.sl;have hG:=hx.codes;have zW:=iB hV;have On:=gr hV;have FR:=lA hN;have Oo:=jQ hN;have hAs:=jS hA;have hAv:=dg iu hAs;have p1:=cD zW;have p2:=cD FR;have hO:=λn=>JW 0 0 (c:=c) n [] hV hN;simp only[MH,T3.cells]at hO;refine aH (sf:=s84) rfl rfl (by simp[hx.pure,MH,p1,p2,Ol hA]) rfl (by simp) ?_;unfold Om;cases hg:gh (bP x.codes) i.c with
 |none=>
  rcases iq hg with h0|⟨h0,h1⟩;simp[s84,cH,MH,bX,hs,zW,FR,hAs,h0];have rF:¬i.c<0:=by omega
  simp[s84,cH,MH,bX,hs,zW,FR,hAs,rF,h1,hG,aV hG]
 |some g=>
  obtain⟨k,hk,cL,hgq⟩:=ij hg;have rF:¬i.c<0:=by omega
  have iM:¬((bP x.codes).length:Int)<=i.c:=by omega
  have Oa:g∈bP x.codes:=hgq ▸ aar cL;have hV:=(gQ hG _ Oa).1;have mh:=iB hV;have lS:=gr hV;have hN:=(gQ hG _ Oa).2;have fV:=lA hN;have fq:=jQ hN;have Bj:=hb _ Oa;rw[hk]at rF iM;simp only;unfold ae6;by_cases OL:g.params<0;simp[s84,cH,MH,bX,hs,zW,FR,rF,iM,hk,cL,hG,aV hG,CD.cells,hA,lS,fV,fq,hV,hgq,OL];by_cases hq:g.params<=(bJ g.vars).length;have hq':¬((bJ g.vars).length:Int)<g.params:=by omega
  by_cases hp:((dI i.args).length:Int)=g.params;simp[s84,cH,MH,bX,hs,zW,FR,hAv,rF,iM,hk,cL,hG,aV hG,CD.cells,hA,bV hA,lS,fV,fq,hV,dw hV,hgq,OL,hq,hq',hp];refine aT Vm.eq_1 (λq:Nat×List AV=>⟨[(4,.fp 1 0),(5,.fp 2 0),(7,.fp 3 0),(8,.val (.int .i64 q.1))],
   [[x.aD,x.globals,x.codes,x.ax,.int .i64 x.main],
    [.int .i64 c.params,c.vars,.bool c.bg,.int .i64 c.res.b,.int .i64 c.res.r,.int .i64 c.res.d,c.dO],
    [.int .i64 i.op,.int .i64 i.a,.int .i64 i.b,.int .i64 k,.int .i64 i.n,i.args],
    [.int .i64 g.params,g.vars,.bool g.bg,.int .i64 g.res.b,.int .i64 g.res.r,.int .i64 g.res.d,g.dO],q.2,[]],[]⟩)
   (λq=>q.1<=(dI i.args).length/\So (Da (bJ c.vars)) (dI i.args) (bJ g.vars) q.1) (λq=>(dI i.args).length-q.1) (0,[]) (by simp) ⟨by simp,HL⟩ ?_
  rintro⟨m,bb⟩ ⟨Du,hz⟩ ih;simp only at Du hz ih;have hlen:(dI i.args).length<=(bJ g.vars).length:=by omega
  by_cases aQ:m<(dI i.args).length;have v9:m<(bJ g.vars).length:=by omega
  have hw:=wk m (by omega);have hc:=hO (dI i.args)[m];cases e1:fT (fR (bJ c.vars) (dI i.args)[m]) ⟨0,0,0⟩ with
  |true=>
   have hf:=zT (p:=Da (bJ c.vars)) (l:=dI i.args) (m:=bJ g.vars) aQ v9 (by simp[Da,e1]);simp[On,Oo,hAv,aQ,hA,bV hA,aN,bp,dG.aI,dZ,hc,e1,hf]
  |false=>
   cases e2:fT (fR (bJ c.vars) (dI i.args)[m]) (bJ g.vars)[m] with
   |true=>
    simp[On,Oo,hAv,aQ,v9,hA,bV hA,hV,dw hV,aN,bp,dG.aI,dZ,hc,e1,e2,hw];exact ih (m+1,_) ⟨by simp;omega,HM hz aQ v9 (by simp[Da,e1,e2])⟩ (by simp;omega)
   |false=>
    have hf:=zT (p:=Da (bJ c.vars)) (l:=dI i.args) (m:=bJ g.vars) aQ v9 (by simp[Da,e1,e2]);simp[On,Oo,hAv,aQ,v9,hA,bV hA,hV,dw hV,aN,bp,dG.aI,dZ,hc,e1,e2,hf]
  have cL:m=(dI i.args).length:=by omega
  have hf:=Md (p:=Da (bJ c.vars)) (cL ▸ hz);have DS:=hO i.a;have hr:Da (bJ c.vars) i.a g.res=(!fT (fR (bJ c.vars) i.a) ⟨0,0,0⟩&&fT (fR (bJ c.vars) i.a) g.res):=rfl;cases e0:decide (i.a = -1) with
  |true=>simp[hA,bV hA,aQ,hf,of_decide_eq_true e0]|false=>
   have e0':=of_decide_eq_false e0;cases e1:fT (fR (bJ c.vars) i.a) ⟨0,0,0⟩ with
   |true=>
    cases e2:g.bg with
    |true=>simp[On,Oo,hA,bV hA,aQ,hf,e0',e1,DS,hr]|false=>simp[On,Oo,hA,bV hA,aQ,hf,e0',e1,DS,hr]
   |false=>
    cases e2:g.bg with
    |true=>simp[On,Oo,hA,bV hA,aQ,hf,e0',e1,DS,hr]|false=>simp[On,Oo,hA,bV hA,aQ,hf,e0',e1,DS,hr]
  simp[s84,cH,MH,bX,hs,zW,FR,hAv,rF,iM,hk,cL,hG,aV hG,CD.cells,hA,bV hA,lS,fV,fq,hV,dw hV,hgq,OL,hq,hq',hp];have hq':((bJ g.vars).length:Int)<g.params:=by omega
  simp[s84,cH,MH,bX,hs,zW,FR,rF,iM,hk,cL,hG,aV hG,CD.cells,hA,lS,fV,fq,hV,dw hV,hgq,OL,hq,hq']
end cr
