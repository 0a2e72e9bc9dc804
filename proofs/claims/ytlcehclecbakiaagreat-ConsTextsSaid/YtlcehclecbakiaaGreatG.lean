/- Part of a proof. -/
import Derived.Test.YtlcehclecbakiaaGreatI
import Derived.Test.YtlcehclecbakiaaGreatJ

open List renaming take_succ_eq_append_getElem→abL,map_append→abT,sum_append→aj9,map_cons→abh,sum_cons→ahl,range_succ→agX,take_length→aev,getElem_mem→aar,getElem?_eq_getElem→aao,flatMap_append→agq,length_append→aa6,flatMap_cons→afk,flatMap_nil→afF,append_nil→abO,append_assoc→abS,take_zero→aja,mem_iff_getElem→abe,all_eq_true→aaS
open Nat renaming le_refl→aaH
open Int renaming toNat_of_nonneg→agI
open Bool renaming and_eq_true→Ar,false_eq_true→aaq
set_option maxRecDepth 100000
set_option maxHeartbeats 8000000
namespace cr
open Ax Go aF cJ
def Ye(c:CD):Nat:=(bJ c.vars).length
def fD(l:List CD):Nat:=(l.map Ye).sum
theorem HP{l:List CD}{k:Nat}(h:k<l.length):fD (l.take (k+1))=fD (l.take k)+Ye l[k]:=by
 rw[abL h];simp only[fD,abT,aj9,abh,List.map_nil,ahl,List.sum_nil,Nat.add_zero]
theorem aaT(l:List CD)(k:Nat):fD (l.take k)<=fD l:=by
 have:l=l.take k++l.drop k:=(List.take_append_drop k l).symm;conv=>rhs;rw[this]
 simp only[fD,abT,aj9];omega
theorem FK:∀(l:List CD)(m:Nat),(∀g∈l,Ye g<=m)->fD l<=l.length*m
 |[],_,_=>by simp[fD]|c::l,m,h=>by
  have ih:=FK l m λg hg=>h g (List.mem_cons_of_mem _ hg);have h1:=h c List.mem_cons_self;simp only[fD,abh,ahl,List.length_cons]at *;rw[Nat.succ_mul];omega
def lC(l:List CD)(k:Nat):List Int:=(List.range (k+1)).map λj=>(fD (l.take j):Int)
theorem nN(l:List CD)(k:Nat):(lC l k).length=k+1:=by simp[lC]
theorem sQ(l:List CD)(k j:Nat)(h:j<(lC l k).length):(lC l k)[j]=(fD (l.take j):Int):=by simp[lC]
theorem Mh(l:List CD)(k:Nat):lC l (k+1)=lC l k++[(fD (l.take (k+1)):Int)]:=by
 simp[lC,agX]
theorem Mi(l:List CD):lC l 0=[0]:=by simp[lC,fD]
structure Sm (x:XD):Prop where
 codes:(bP x.codes).length<=20
 vars:∀g∈bP x.codes,Ye g<=4500
 dO:∀g∈bP x.codes,(gx g.dO).length<=4500
 globals:(bJ x.globals).length<=20
theorem Sm.sum{x:XD}(h:Sm x)(k:Nat):fD ((bP x.codes).take k)<=90000:=by
 have h1:=aaT (bP x.codes) k;have h2:=FK (bP x.codes) 4500 h.vars;have h3:=h.codes;have:(bP x.codes).length*4500<=20*4500:=Nat.mul_le_mul_right _ h3;omega
theorem Sm.all{x:XD}(h:Sm x):fD (bP x.codes)<=90000:=by
 have:=h.sum (bP x.codes).length
 rwa [aev]at this
theorem zo{wl:Nat}:∀(l:List Int)(st:ag),jH wl (cp l) st=some (cp l,st)
 |[],st=>rfl|n::l,st=>by
  have ih:=zo (wl:=wl) l st;simp only[cp,abh]at *;simp[jH,j6,lE,AV.ay,AV.view,ih]
theorem aff{wl aa:Nat}{a:Int}{st:ag}{bx:br}:aU wl aa (.Qu 1 1 [.int .i64 0] [0]) [.val (.int .i64 a)] st bx=some (.val (.mu st.length 0),st++[.rows 0 1 [[.int .i64 a]]],bx):=rfl
theorem Mj(wl aa:Nat){x:XD}(st:ag)(hx:x.ok)(hm:Sm x) :
  (aP S).call wl aa 26 [cH x] st=some (.dh 1 (cp (lC (bP x.codes) (bP x.codes).length)),st):=by
 have hs:=hx.sl;have hC:=hx.codes;have hl:=aV hx.codes;have F6:=hm.codes;refine aH (sf:=s26) rfl rfl (by simp[hx.pure]) rfl (by simp[AV.ay]) ?_;simp[s26,cH,hs,hl,aff];refine aT UN.eq_1 (λq:Nat×List AV=>⟨[(3,.val (.mu 0 q.1)),(8,.val x.codes),(9,.val (.int .i64 (bP x.codes).length)),(10,.val (.int .i64 q.1))],[[x.aD,x.globals,x.codes,x.ax,.int .i64 x.main],q.2],[.rows q.1 1 (cp (lC (bP x.codes) q.1))]⟩)
  (λq=>q.1<=(bP x.codes).length) (λq=>(bP x.codes).length-q.1) (0,[]) (by rw[Mi];rfl) (by simp) ?_
 rintro⟨k,bb⟩ hk ih;simp only at hk ih;by_cases aQ:k<(bP x.codes).length;have hw:=wk k (by omega);have hF:=gQ hC _ (aar aQ);have S1:=iB hF.1;have CA:=gr hF.1;have Kd:=dw hF.1;have hGs:=lA hF.2;have hGv:=jQ hF.2;have b1:=hm.sum k;have b2:=hm.vars _ (aar aQ);have iO:=HP aQ;have nR:IntKind.i64.wrap ((fD ((bP x.codes).take k):Int)+((bJ (bP x.codes)[k].vars).length:Int))=(fD ((bP x.codes).take (k+1)):Int):=by
  have:Ye (bP x.codes)[k]=(bJ (bP x.codes)[k].vars).length:=rfl;rw[cI]<;>omega
 have hw3:IntKind.i64.wrap (k:Int)=(k:Int):=by rw[cI]<;>omega
 have hg:=sQ (bP x.codes) k k (by rw[nN];omega);have zN:=nN (bP x.codes) k;have hrm:(k+1+1)*8<=dQ:=by unfold dQ;omega
 have hlk:(k:Int)<(k:Int)+1:=by omega
 simp[hs,hC,hl,aQ,CD.cells,S1,CA,Kd,hGs,hGv,hw,nR,hw3,zN,hg,hlk,hrm,bw,ai,ah,AV.au,AV.ay,<-Mh];exact ih (k+1,_) (by simp;omega) (by simp;omega);have cL:k=(bP x.codes).length:=by omega
 subst cL;have jJ:(cp (lC (bP x.codes) (bP x.codes).length)).isEmpty=false:=by
  rw[List.isEmpty_eq_false_iff];intro h;have:=congrArg List.length h;rw[EI,nN]at this;simp at this
 simp;rw[ahO];refine⟨_,.dh 1 (cp (lC (bP x.codes) (bP x.codes).length)),[.rows ((bP x.codes).length+1) 1 []],rfl,?_,?_⟩;simp[iG,jJ,zo];simp
end cr
namespace cr
open Ax Go aF cJ
theorem A8(wl aa:Nat){x:XD}(st:ag)(hx:x.ok)(hm:Sm x) :
  (aP S).call wl aa 27 [cH x] st=some (.int .i64 (fD (bP x.codes)),st):=by
 have hs:=hx.sl;have hl:=aV hx.codes;have e:=Mj 0 0 [] hx hm;simp only[cH]at e;have zN:=nN (bP x.codes) (bP x.codes).length;have hg:=sQ (bP x.codes) (bP x.codes).length (bP x.codes).length (by rw[zN];omega);rw[aev]at hg;have hlk:((bP x.codes).length:Int)<((bP x.codes).length:Int)+1:=by omega
 refine aH (sf:=s27) rfl rfl (by simp[hx.pure]) rfl (by simp) ?_;simp[s27,cH,hs,hl,e,zN,hg,hlk,ai,ah]
theorem DC(wl aa:Nat){x:XD}(k:Nat)(st:ag)(hx:x.ok)(hm:Sm x)(hk:k<=(bP x.codes).length) :
  (aP S).call wl aa 30 [cH x,.int .i64 k] st=some (.int .i64 (fD ((bP x.codes).take k)),st):=by
 have hs:=hx.sl;have hC:=hx.codes;have hl:=aV hx.codes;have F6:=hm.codes;refine aH (sf:=s30) rfl rfl (by simp[hx.pure]) rfl (by simp) ?_;simp[s30,cH,hs];refine aT UQ.eq_1 (λj:Nat=>⟨[(1,.val (.int .i64 k)),(2,.fp 0 0),(5,.val (.int .i64 (fD ((bP x.codes).take j)))),(6,.val (.int .i64 j))],[[x.aD,x.globals,x.codes,x.ax,.int .i64 x.main]],[]⟩)
  (λj=>j<=k) (λj=>k-j) 0 (by simp[fD]) (by simp) ?_
 intro j hj ih;by_cases aQ:j<k;have kJ:j<(bP x.codes).length:=by omega
 have hw:=wk j (by omega);have hF:=gQ hC _ (aar kJ);have S1:=iB hF.1;have CA:=gr hF.1;have Kd:=dw hF.1;have b1:=hm.sum j;have b2:=hm.vars _ (aar kJ);have iO:=HP kJ;have nR:IntKind.i64.wrap ((fD ((bP x.codes).take j):Int)+((bJ (bP x.codes)[j].vars).length:Int))=(fD ((bP x.codes).take (j+1)):Int):=by
  have:Ye (bP x.codes)[j]=(bJ (bP x.codes)[j].vars).length:=rfl;rw[cI]<;>omega
 simp[hs,hC,hl,aQ,kJ,CD.cells,S1,CA,Kd,hw,nR];exact ih (j+1) (by omega) (by omega);have:j=k:=by omega
 subst this;simp
theorem Mk(wl aa:Nat){x:XD}(f:Nat)(st:ag)(hx:x.ok)(hm:Sm x)(hf:f<5000) :
  (aP S).call wl aa 50 [cH x,.int .i64 f] st=some (.int .i64 (fD (bP x.codes)+f),st):=by
 have hs:=hx.sl;have hl:=aV hx.codes;have e:=DC 0 0 (bP x.codes).length [] hx hm (aaH _);simp only[cH,aev]at e;have b:=hm.all;have hw:IntKind.i64.wrap ((fD (bP x.codes):Int)+(f:Int))=(fD (bP x.codes):Int)+(f:Int):=by rw[cI]<;>omega
 refine aH (sf:=s50) rfl rfl (by simp[hx.pure]) rfl (by simp) ?_;simp[s50,cH,hs,hl,e,hw]
theorem Ml(wl aa:Nat){x:XD}(g:Nat)(st:ag)(hx:x.ok)(hm:Sm x)(hg:g<5000) :
  (aP S).call wl aa 51 [cH x,.int .i64 g] st=some (.int .i64 (fD (bP x.codes)+(bP x.codes).length+g),st):=by
 have hs:=hx.sl;have hl:=aV hx.codes;have e:=DC 0 0 (bP x.codes).length [] hx hm (aaH _);simp only[cH,aev]at e;have b:=hm.all;have b2:=hm.codes;have hw0:IntKind.i64.wrap ((fD (bP x.codes):Int)+((bP x.codes).length:Int))=(fD (bP x.codes):Int)+((bP x.codes).length:Int):=by rw[cI]<;>omega
 have hw:IntKind.i64.wrap ((fD (bP x.codes):Int)+((bP x.codes).length:Int)+(g:Int))=(fD (bP x.codes):Int)+((bP x.codes).length:Int)+(g:Int):=by rw[cI]<;>omega
 refine aH (sf:=s51) rfl rfl (by simp[hx.pure]) rfl (by simp) ?_;simp[s51,cH,hs,hl,e,hw0,hw,ai,ah]
abbrev jV(k a b f:Int):List AV:=[.int .i64 k,.int .i64 a,.int .i64 b,.int .i64 f]
abbrev moR(c:CD)(nd:AV)(f many:Int)(codes l:AV):dK:=.rows 0 12 [[.int .i64 c.params,c.vars,.bool c.bg,.int .i64 c.res.b,.int .i64 c.res.r,.int .i64 c.res.d,c.dO,nd,.int .i64 f,.int .i64 many,codes,l]]
abbrev mo(c:CD)(nd:AV)(f many:Int)(codes:AV)(rows:List (List AV)):dK:=moR c nd f many codes (bF 4 rows)
theorem afg{aa:Nat}{c:CD}{nd:AV}{f many:Int}{codes:AV}{rows:List (List AV)}{bx:br} :
  aU 0 aa (.load false 1 true) [.val (.ptr 0 0 0 11)] [mo c nd f many codes rows] bx=some (.val (bF 4 rows),[moR c nd f many codes (AV.eL (bF 4 rows))],bx):=by
 have hv:bF 4 rows=.U\/∃r,bF 4 rows=.jz 4 r:=by
  unfold bF;split;exact .inl rfl;exact .inr ⟨_,rfl⟩
 show aU 0 aa (.load false 1 true) [.val (.ptr 0 0 0 11)] [moR c nd f many codes (bF 4 rows)] bx=_;generalize bF 4 rows=v at *;rcases hv with rfl|⟨r,rfl⟩<;>simp[aU,fy,cut,eK,bD,AV.eL,AV.au,AV.ay,aj,bU]
theorem lz(aa:Nat){c:CD}{nd:AV}{f many:Int}{codes:AV}{rows:List (List AV)}(k a b fd:Int)(hr:rows.length<1000000000) :
  (aP S).call 0 aa 56 [.ptr 0 0 0 0,.int .i64 k,.int .i64 a,.int .i64 b,.int .i64 fd] [mo c nd f many codes rows]=some (.ir [],[mo c nd f many codes (rows++[jV k a b fd])]):=by
 have nC:qY 4 32 (bF 4 rows) [jV k a b fd]=some (bF 4 (rows++[jV k a b fd])):=eB (by simp[bw]) (by simp[dQ];omega);have hp:=cD (cP (sz:=4) (r:=rows++[jV k a b fd]));refine aO (sf:=s56) rfl rfl rfl ?_;simp[s56,afg,nC,bD,AV.au,aj]
abbrev ndL(x:XD):AV:=.dh 1 (cp (lC (bP x.codes) (bP x.codes).length))
abbrev mx(x:XD)(k:Nat)(c:CD)(rows:List (List AV)):dK:=mo c (ndL x) k (fD (bP x.codes)) x.codes rows
def Mm(c:CD)(n:Int):Prop:=0<=n/\n<(bJ c.vars).length
def rf(c:CD)(n:Int):Bool:=g9 (fR (bJ c.vars) n)
def jG(x:XD)(k:Nat):Int:=fD ((bP x.codes).take k)
structure MC (x:XD)(k:Nat)(c:CD):Prop where
 xo:x.ok
 m:Sm x
 kl:k<(bP x.codes).length
 cd:(bP x.codes)[k]=c
theorem MC.T{x:XD}{k:Nat}{c:CD}(h:MC x k c):sY c.vars=true:=by
 have:=(gQ h.xo.codes _ (aar h.kl)).1
 rwa [h.cd]at this
theorem MC.N{x:XD}{k:Nat}{c:CD}(h:MC x k c):BX c.dO=true:=by
 have:=(gQ h.xo.codes _ (aar h.kl)).2
 rwa [h.cd]at this
theorem MC.nv{x:XD}{k:Nat}{c:CD}(h:MC x k c):(bJ c.vars).length<=4500:=by
 have:=h.m.vars _ (aar h.kl)
 rwa [h.cd]at this
theorem MC.Cm{x:XD}{k:Nat}{c:CD}(h:MC x k c)(j:Nat):0<=jG x j/\jG x j<=90000:=by
 have:=h.m.sum j;unfold jG;omega
section
variable {x:XD}{k:Nat}{c:CD}{rows:List (List AV)}{aa:Nat}
theorem afh(h:MC x k c)(n:Int)(h0:0<=n)(h1:n<5000) :
  (aP S).call 0 aa 57 [.ptr 0 0 0 0,.int .i64 n] [mx x k c rows]=some (.int .i64 (jG x k+n),[mx x k c rows]):=by
 have hk:=h.kl;have hb:=h.Cm k;have zN:=nN (bP x.codes) (bP x.codes).length;have hgi:(cp (lC (bP x.codes) (bP x.codes).length))[k]?=some [.int .i64 (jG x k)]:=by
  rw[aao (by rw[EI,zN];omega),K4,sQ];rfl
 have hlk:(k:Int)<((bP x.codes).length:Int)+1:=by omega
 have hw:IntKind.i64.wrap (jG x k+n)=jG x k+n:=by rw[cI]<;>omega
 refine aO (sf:=s57) rfl rfl rfl ?_;simp[s57,cut,zN,hgi,hlk,hw,ai,ah,AV.view]
theorem JY(h:MC x k c)(n:Int)(h1:n<(bJ c.vars).length) :
  (aP S).call 0 aa 59 [.ptr 0 0 0 0,.int .i64 n] [mx x k c rows]=some (.bool (rf c n),[mx x k c rows]):=by
 have hT:=h.T;have n8:=iB hT;have mU:=gr hT;have Bn:=dw hT;have hr:=λa b c st=>JT 0 0 a b c st;refine aO (sf:=s59) rfl rfl rfl ?_;by_cases h0:0<=n;have hn:n.toNat<(bJ c.vars).length:=by omega
 have nF:rf c n=g9 (bJ c.vars)[n.toNat]:=by simp[rf,fR,h0,hn]
 have hr2:=λwl aa st=>JT wl aa (bJ c.vars)[n.toNat].b (bJ c.vars)[n.toNat].r (bJ c.vars)[n.toNat].d st;simp[s59,h0,h1,cut,mU,Bn,hT,hn,hr2,nF];have nF:rf c n=false:=by simp[rf,fR,h0,g9,T0]
 simp[s59,h0,nF]
theorem Qm(h:MC x k c)(n:Int)(h0:0<=n)(h1:n<5000) :
  (aP S).call 0 aa 60 [.ptr 0 0 0 0,.int .i64 n] [mx x k c rows]=some (.int .i64 ((fD (bP x.codes):Int)+n),[mx x k c rows]):=by
 have hb:=h.m.all;have hw:IntKind.i64.wrap ((fD (bP x.codes):Int)+n)=(fD (bP x.codes):Int)+n:=by rw[cI]<;>omega
 refine aO (sf:=s60) rfl rfl rfl ?_;simp[s60,cut,hw]
theorem Mn(h:MC x k c)(n:Int)(h0:0<=n)(h1:n<5000) :
  (aP S).call 0 aa 61 [.ptr 0 0 0 0,.int .i64 n] [mx x k c rows]=some (.int .i64 ((fD (bP x.codes):Int)+(bP x.codes).length+n),[mx x k c rows]):=by
 have hb:=h.m.all;have Ee:=h.m.codes;have hs:=h.xo.sl;have hl:=aV h.xo.codes;have hw0:IntKind.i64.wrap ((fD (bP x.codes):Int)+((bP x.codes).length:Int))=(fD (bP x.codes):Int)+(bP x.codes).length:=by rw[cI]<;>omega
 have hw:IntKind.i64.wrap ((fD (bP x.codes):Int)+((bP x.codes).length:Int)+n)=(fD (bP x.codes):Int)+(bP x.codes).length+n:=by rw[cI]<;>omega
 refine aO (sf:=s61) rfl rfl rfl ?_;simp[s61,cut,hs,hl,hw0,hw,ai,ah]
end
end cr
namespace cr
open Ax Go aF cJ
def l6(c:CD)(to a:Int)(l:List Int)(j:Nat):List (List AV):=(List.range j).flatMap λq=>if rf c (l.getD q 0) then [jV 2 (to+q) (a+l.getD q 0) 0] else []
theorem HQ(c:CD)(to a:Int)(l:List Int)(j:Nat)(h:j<l.length):l6 c to a l (j+1)=l6 c to a l j++if rf c l[j] then [jV 2 (to+j) (a+l[j]) 0] else []:=by
 simp[l6,agX,h]
theorem A9(c:CD)(to a:Int)(l:List Int):∀j:Nat,(l6 c to a l j).length<=j
 |0=>by simp[l6]|j+1=>by
  have ih:=A9 c to a l j;simp only[l6,agX,agq,aa6]at *;have h1:∀(p:Bool) (r:List AV),(if p=true then [r] else []).length<=1:=λp r=>by cases p<;>simp
  have h2:=h1 (rf c (l.getD j 0)) (jV 2 (to+j) (a+l.getD j 0) 0);simp only[afk,afF,abO];omega
def lD(x:XD)(k:Nat)(c:CD)(i:ID):List (List AV):=
 if i.op=3 then (if rf c i.a then [jV 2 (jG x k+i.a) (jG x k+i.b) 0] else []) else
 if i.op=6 then (if rf c i.a then [jV 3 (jG x k+i.a) (jG x k+i.b) i.c] else []) else
 if i.op=8 then (if rf c i.a then [jV 3 (jG x k+i.a) (jG x k+i.b) 0] else []) else
 if i.op=7 then (if rf c i.b then [jV 4 (jG x k+i.a) (jG x k+i.b) i.c] else []) else
 if i.op=9 then (if rf c i.c then [jV 4 (jG x k+i.a) (jG x k+i.c) 0] else []) else
 if i.op=11\/i.op=12 then [jV 1 (jG x k+i.a) i.n 0] else
 if i.op=13 then l6 c (jG x i.c.toNat) (jG x k) (dI i.args) (dI i.args).length++(if rf c i.a then [jV 2 (jG x k+i.a) (fD (bP x.codes)+i.c) 0] else []) else
 if i.op=18 then (if rf c i.a then [jV 2 (fD (bP x.codes)+k) (jG x k+i.a) 0] else []) else
 if i.op=19 then (if rf c i.a then [jV 2 (jG x k+i.a) (fD (bP x.codes)+(bP x.codes).length+i.n) 0] else []) else
 if i.op=20 then (if rf c i.a then [jV 2 (fD (bP x.codes)+(bP x.codes).length+i.n) (jG x k+i.a) 0] else []) else []
structure IOk (x:XD)(c:CD)(i:ID):Prop where
 args:tu i.args=true
 no:fZ i.args=true
 a:i.op=3\/i.op=6\/i.op=7\/i.op=8\/i.op=9\/i.op=11\/i.op=12\/i.op=19\/i.op=20->Mm c i.a
 b:i.op=3\/i.op=6\/i.op=7\/i.op=8->Mm c i.b
 cv:i.op=9->Mm c i.c
 call:i.op=13->0<=i.c/\i.c<(bP x.codes).length/\(∀q∈dI i.args,Mm c q)/\(i.a = -1\/Mm c i.a)/\(dI i.args).length<=4500
 ret:i.op=18->i.a = -1\/Mm c i.a
 aaU:i.op=19\/i.op=20->0<=i.n/\i.n<(bJ x.globals).length
theorem Mo{x:XD}{k:Nat}{c:CD}{i:ID}(h:IOk x c i):(lD x k c i).length<=4501:=by
 unfold lD;have h1:=A9 c (jG x i.c.toNat) (jG x k) (dI i.args) (dI i.args).length;by_cases Cw:i.op=13;have:=(h.call Cw).2.2.2.2;simp only[Cw];simp;split<;>simp<;>omega
 ·simp only[Cw,if_false];repeat' split
  all_goals simp
section
variable {x:XD}{k:Nat}{c:CD}{i:ID}{rows:List (List AV)}{aa:Nat}
theorem Xt(h:MC x k c)(hi:IOk x c i)(hr:rows.length<900000000)(OX:¬(i.op=11\/i.op=12)/\i.op≠13/\i.op≠18/\i.op≠19/\i.op≠20) :
  (aP S).call 0 aa 62 [.ptr 0 0 0 0,bX i] [mx x k c rows]=some (.ir [],[mx x k c (rows++lD x k c i)]):=by
 obtain⟨o1,o2,o3,o4,o5⟩:=OX;have hs:=jS hi.args;have hv:=dg hi.no hs;have hp:=cD hs;have QK:=h.nv;have e1:=λaa n h0 h1=>afh (rows:=rows) (aa:=aa) h n h0 h1;have e2:=λaa n h1=>JY (rows:=rows) (aa:=aa) h n h1;have e3:=λaa kk a b fd=>lz (c:=c) (nd:=ndL x) (f:=(k:Int)) (many:=(fD (bP x.codes):Int)) (codes:=x.codes) (rows:=rows) aa kk a b fd (by omega);refine aO (sf:=s62) rfl rfl rfl ?_;unfold lD;by_cases p3:i.op=3;obtain⟨a0,a1⟩:=hi.a (by omega);obtain⟨b0,b1⟩:=hi.b (by omega);have ea:=λaa=>e1 aa i.a a0 (by omega);have eb:=λaa=>e1 aa i.b b0 (by omega);have er:=λaa=>e2 aa i.a a1;cases nF:rf c i.a<;>simp[s62,bX,hs,p3,ea,eb,er,e3,nF,ai,ah];by_cases p6:i.op=6;obtain⟨a0,a1⟩:=hi.a (by omega);obtain⟨b0,b1⟩:=hi.b (by omega);have ea:=λaa=>e1 aa i.a a0 (by omega);have eb:=λaa=>e1 aa i.b b0 (by omega);have er:=λaa=>e2 aa i.a a1;cases nF:rf c i.a<;>simp[s62,bX,hs,p6,ea,eb,er,e3,nF,ai,ah];by_cases p8:i.op=8;obtain⟨a0,a1⟩:=hi.a (by omega);obtain⟨b0,b1⟩:=hi.b (by omega);have ea:=λaa=>e1 aa i.a a0 (by omega);have eb:=λaa=>e1 aa i.b b0 (by omega);have er:=λaa=>e2 aa i.a a1;cases nF:rf c i.a<;>simp[s62,bX,hs,p8,ea,eb,er,e3,nF,ai,ah];by_cases p7:i.op=7;obtain⟨a0,a1⟩:=hi.a (by omega);obtain⟨b0,b1⟩:=hi.b (by omega);have ea:=λaa=>e1 aa i.a a0 (by omega);have eb:=λaa=>e1 aa i.b b0 (by omega);have er:=λaa=>e2 aa i.b b1;cases nF:rf c i.b<;>simp[s62,bX,hs,p7,ea,eb,er,e3,nF,ai,ah];by_cases p9:i.op=9;obtain⟨a0,a1⟩:=hi.a (by omega);obtain⟨b0,b1⟩:=hi.cv (by omega);have ea:=λaa=>e1 aa i.a a0 (by omega);have eb:=λaa=>e1 aa i.c b0 (by omega);have er:=λaa=>e2 aa i.c b1;cases nF:rf c i.c<;>simp[s62,bX,hs,p9,ea,eb,er,e3,nF,ai,ah];have o1':¬i.op=11/\¬i.op=12:=not_or.1 o1;simp[s62,bX,hs,p3,p6,p8,p7,p9,o1',o2,o3,o4,o5]
end
end cr
namespace cr
open Ax Go aF cJ
mutual
theorem HR:∀a:AV,a.fB a=true
 |.agg a|.ir a=>by simp only[AV.fB];exact sR a|.dh s a|.jz s a|.raw s a=>by simp only[AV.fB,Ar,beq_self_eq_true,true_and];exact xR a|.qt s a i k=>by simp only[AV.fB,Ar,beq_self_eq_true,true_and,and_true];exact xR a|.fn f a b=>by simp only[AV.fB,Ar,beq_self_eq_true,true_and];exact⟨sR a,sR b⟩|.undef|.gone|.eR|.U|.gi|.iZ|.j8|.mV=>rfl|.bool a=>by simp[AV.fB]|.int k a=>by simp[AV.fB]|.str a=>by simp[AV.fB]|.mu i v=>by simp[AV.fB]|.ptr a b c d=>by simp[AV.fB]|.map i=>by simp[AV.fB]
theorem sR:∀l:List AV,AV.s8 l l=true
 |[]=>rfl|a::l=>by simp only[AV.s8,Ar];exact⟨HR a,sR l⟩
theorem xR:∀l:List (List AV),AV.qu l l=true
 |[]=>rfl|a::l=>by simp only[AV.qu,Ar];exact⟨sR a,xR l⟩
end
theorem we(e:eW):e.fB e=true:=by
 cases e with
 |none=>rfl|val v=>exact HR v|fp j k=>simp[eW.fB]
section
variable {x:XD}{k:Nat}{c:CD}{i:ID}{rows:List (List AV)}{aa:Nat}
theorem afi(x:XD)(j:Nat)(h:j<=(bP x.codes).length):(cp (lC (bP x.codes) (bP x.codes).length))[j]?=some [.int .i64 (jG x j)]:=by
 rw[aao (by rw[EI,nN];omega),K4,sQ];rfl
theorem Xu(h:MC x k c)(hi:IOk x c i)(hr:rows.length<900000000)(OX:i.op=13) :
  (aP S).call 0 aa 58 [.ptr 0 0 0 0,bX i] [mx x k c rows]=some (.ir [],[mx x k c (rows++lD x k c i)]):=by
 obtain⟨g0,g1,gq,ga,gl⟩:=hi.call OX;have hA:=hi.args;have hs:=jS hA;have hv:=dg hi.no hs;have hl:=bV hA;have hp:=cD hs;have QK:=h.nv;have zN:=nN (bP x.codes) (bP x.codes).length;have hgn:=afi x i.c.toNat (by omega);have Bj:∀hh,(lC (bP x.codes) (bP x.codes).length)[i.c.toNat]'hh=jG x i.c.toNat:=λhh=>sQ _ _ _ hh;have ajS:i.c<((bP x.codes).length:Int)+1:=by omega
 have hb:=h.Cm i.c.toNat;have e1:=λrows aa n h0 h1=>afh (rows:=rows) (aa:=aa) h n h0 h1;have e2:=λrows aa n h1=>JY (rows:=rows) (aa:=aa) h n h1;have e3:=λrows aa kk a b fd hr=>lz (c:=c) (nd:=ndL x) (f:=(k:Int)) (many:=(fD (bP x.codes):Int)) (codes:=x.codes) (rows:=rows) aa kk a b fd hr;have e4:=λrows aa n h0 h1=>Qm (rows:=rows) (aa:=aa) h n h0 h1;have Ot:lD x k c i=l6 c (jG x i.c.toNat) (jG x k) (dI i.args) (dI i.args).length++(if rf c i.a then [jV 2 (jG x k+i.a) (fD (bP x.codes)+i.c) 0] else []):=by simp[lD,OX]
 rw[Ot];refine aO (sf:=s58) rfl rfl rfl ?_;simp[s58,bX,hs,hv,hl];refine aT U9.eq_1 (λq:Nat=>⟨[(0,.val (.ptr 0 0 0 0)),(3,.fp 0 0),(7,.val i.args),(8,.val (.int .i64 (dI i.args).length)),(9,.val (.int .i64 q))],[[.int .i64 i.op,.int .i64 i.a,.int .i64 i.b,.int .i64 i.c,.int .i64 i.n,i.args]],[mx x k c (rows++l6 c (jG x i.c.toNat) (jG x k) (dI i.args) q)]⟩)
  (λq=>q<=(dI i.args).length) (λq=>(dI i.args).length-q) 0 (by simp[l6]) (by simp) ?_
 intro q hq ih;have hlen:=A9 c (jG x i.c.toNat) (jG x k) (dI i.args) q;by_cases aQ:q<(dI i.args).length;have hw:=wk q (by omega);obtain⟨v0,v1⟩:=gq _ (aar aQ);have Ya:=HQ c (jG x i.c.toNat) (jG x k) (dI i.args) q aQ;generalize hR:rows++l6 c (jG x i.c.toNat) (jG x k) (dI i.args) q=R at *;have QM:R.length<1000000000:=by rw[<-hR,aa6];omega
 have er:=λaa=>e2 R aa (dI i.args)[q] v1;have ev:=λaa=>e1 R aa (dI i.args)[q] v0 (by omega);have ea:=λaa kk a b fd=>e3 R aa kk a b fd QM;have nR:IntKind.i64.wrap (jG x i.c.toNat+(q:Int))=jG x i.c.toNat+(q:Int):=by rw[cI]<;>omega
 cases nF:rf c (dI i.args)[q] with
 |false=>
  simp[hA,hv,hl,aQ,er,nF,hw];have:=ih (q+1) (by omega) (by omega);simp only[Ya,nF,aaq,if_false,abO,hR]at this;exact this
 |true=>
  simp[hA,hv,hl,aQ,er,nF];rw[yd];simp[eE,ju,dY,bp,dG.aI,cut,AV.view,zN,Bj,ajS,g0,nR,ev,ea];refine⟨_,_,⟨rfl,rfl⟩,?_⟩;simp[cut,AV.view,zN,Bj,ajS,g0,hw];have:=ih (q+1) (by omega) (by omega);simp only[Ya,nF,if_true,<-abS,hR]at this;refine⟨⟨we _,we _,we _⟩,?_⟩;rw[abS]at this;exact this
 have FY:q=(dI i.args).length:=by omega
 subst FY;generalize hR:rows++l6 c (jG x i.c.toNat) (jG x k) (dI i.args) (dI i.args).length=R at *;have QM:R.length<1000000000:=by rw[<-hR,aa6];omega
 have Gd:=h.m.all;have F6:=h.m.codes;have ea:=λaa kk a b fd=>e3 R aa kk a b fd QM;have FF:=λaa=>e4 R aa i.c g0 (by omega);rcases ga with ga|⟨a0,a1⟩;have er:=λaa=>e2 R aa i.a (by omega);have nF:rf c i.a=false:=by simp[rf,fR,ga,g9,T0]
 simp[er,nF,hR];have er:=λaa=>e2 R aa i.a a1;have ev:=λaa=>e1 R aa i.a a0 (by omega);cases nF:rf c i.a<;>simp[er,nF,ev,ea,FF,hR,<-abS,ai,ah]
end
end cr
namespace cr
open Ax Go aF cJ
section
variable {x:XD}{k:Nat}{c:CD}{i:ID}{rows:List (List AV)}{aa:Nat}
theorem afj(h:MC x k c)(hi:IOk x c i)(hr:rows.length<900000000) :
  (aP S).call 0 aa 28 [.ptr 0 0 0 0,bX i] [mx x k c rows]=some (.ir [],[mx x k c (rows++lD x k c i)]):=by
 have hs:=jS hi.args;have hv:=dg hi.no hs;have hp:=cD hs;have QK:=h.nv;have cL:=h.kl;have F6:=h.m.codes;have Bj:=h.m.globals;have e1:=λaa n h0 h1=>afh (rows:=rows) (aa:=aa) h n h0 h1;have e2:=λaa n h1=>JY (rows:=rows) (aa:=aa) h n h1;have e3:=λaa kk a b fd=>lz (c:=c) (nd:=ndL x) (f:=(k:Int)) (many:=(fD (bP x.codes):Int)) (codes:=x.codes) (rows:=rows) aa kk a b fd (by omega);refine aO (sf:=X1) rfl rfl rfl ?_;by_cases p11:i.op=11;obtain⟨a0,a1⟩:=hi.a (by omega);have ea:=λaa=>e1 aa i.a a0 (by omega);simp[X1,bX,hs,p11,ea,e3,ai,ah,lD];by_cases p12:i.op=12;obtain⟨a0,a1⟩:=hi.a (by omega);have ea:=λaa=>e1 aa i.a a0 (by omega);simp[X1,bX,hs,p12,ea,e3,ai,ah,lD];by_cases p13:i.op=13;have ec:=λaa=>Xu (aa:=aa) (rows:=rows) h hi hr p13;simp only[bX]at ec;simp[X1,bX,hs,hv,p13]at ec ⊢;simp[ec];by_cases Xv:i.op=18;have Ot:lD x k c i=if rf c i.a then [jV 2 (fD (bP x.codes)+k) (jG x k+i.a) 0] else []:=by simp[lD,Xv]
 rw[Ot];have em:=λaa=>Qm (rows:=rows) (aa:=aa) h k (by omega) (by omega);rcases hi.ret Xv with ga|⟨a0,a1⟩;have er:=λaa=>e2 aa i.a (by omega);have nF:rf c i.a=false:=by simp[rf,fR,ga,g9,T0]
 simp[X1,bX,hs,Xv,er,nF];have er:=λaa=>e2 aa i.a a1;have ev:=λaa=>e1 aa i.a a0 (by omega);cases nF:rf c i.a<;>simp[X1,bX,hs,Xv,er,nF,cut,em,ev,e3,ai,ah];by_cases p19:i.op=19;have Ot:lD x k c i=if rf c i.a then [jV 2 (jG x k+i.a) (fD (bP x.codes)+(bP x.codes).length+i.n) 0] else []:=by simp[lD,p19]
 rw[Ot];obtain⟨n0,n1⟩:=hi.aaU (by omega);obtain⟨a0,a1⟩:=hi.a (by omega);have em:=λaa=>Mn (rows:=rows) (aa:=aa) h i.n n0 (by omega);have er:=λaa=>e2 aa i.a a1;have ev:=λaa=>e1 aa i.a a0 (by omega);cases nF:rf c i.a<;>simp[X1,bX,hs,p19,er,nF,em,ev,e3,ai,ah];by_cases p20:i.op=20;have Ot:lD x k c i=if rf c i.a then [jV 2 (fD (bP x.codes)+(bP x.codes).length+i.n) (jG x k+i.a) 0] else []:=by simp[lD,p20]
 rw[Ot];obtain⟨n0,n1⟩:=hi.aaU (by omega);obtain⟨a0,a1⟩:=hi.a (by omega);have em:=λaa=>Mn (rows:=rows) (aa:=aa) h i.n n0 (by omega);have er:=λaa=>e2 aa i.a a1;have ev:=λaa=>e1 aa i.a a0 (by omega);cases nF:rf c i.a<;>simp[X1,bX,hs,p20,er,nF,em,ev,e3,ai,ah];have em:=λaa=>Xt (aa:=aa) (rows:=rows) h hi hr ⟨by omega,p13,Xv,p19,p20⟩;simp only[bX]at em;simp[X1,bX,hs,hv,p11,p12,p13,Xv,p19,p20,em]
end
end cr
namespace cr
open Ax Go aF cJ
section
variable {x:XD}{k:Nat}{c:CD}{i:ID}
theorem afm(wl aa:Nat)(h:MC x k c)(n:Int)(st:ag)(h0:0<=n)(h1:n<(bJ c.vars).length) :
  (aP S).call wl aa 88 [.agg c.cells,.int .i64 n] st=some (.bool (rf c n),st):=by
 have hT:=h.T;have n8:=iB hT;have mU:=gr hT;have Bn:=dw hT;have fV:=lA h.N;have fq:=jQ h.N;have hn:n.toNat<(bJ c.vars).length:=by omega
 have nF:rf c n=g9 (bJ c.vars)[n.toNat]:=by simp[rf,fR,h0,hn]
 have hr2:=λwl aa st=>pZ wl aa (bJ c.vars)[n.toNat].b (bJ c.vars)[n.toNat].r (bJ c.vars)[n.toNat].d st;refine aH (sf:=s88) rfl rfl (by simp[CD.cells,cD n8,cD fV,AV.ay,AV.au]) rfl (by simp) ?_;simp[s88,CD.cells,h0,h1,mU,Bn,hT,hn,hr2,nF,fV]
theorem Gr(k a b f:Int):qY 4 32 .U [jV k a b f]=some (bF 4 [jV k a b f]):=by
 have:=eB (sz:=4) (bytes:=32) (r:=[]) (new:=[jV k a b f]) (by simp[bw]) (by simp[dQ]);simpa [fY] using this
theorem aaV(wl aa:Nat)(h:MC x k c)(hi:IOk x c i)(st:ag) :
  (aP S).call wl aa 63 [cH x,.int .i64 k,.int .i64 (jG x k),bX i] st=some (bF 4 (lD x k c i),st):=by
 have hx:=h.xo.sl;have hC:=h.xo.codes;have MI:=aV hC;have cL:=h.kl;have BS:=h.cd;have n8:=iB h.T;have mU:=gr h.T;have fV:=lA h.N;have fq:=jQ h.N;have hA:=hi.args;have hs:=jS hA;have hv:=dg hi.no hs;have hl:=bV hA;have QK:=h.nv;have F6:=h.m.codes;have Bj:=h.m.globals;have hb:=h.Cm k;have jZ:=h.m.all;have e1:=λn h0 h1=>afm 0 0 h n [] h0 h1;simp only[CD.cells]at e1;have ew:=λ(n:Int) (h0:0<=n) (h1:n<4500)=>(show IntKind.i64.wrap (jG x k+n)=jG x k+n by rw[cI]<;>omega);have e3:=λ(f:Nat) hf=>Mk 0 0 f [] h.xo h.m hf;have e4:=λ(f:Nat) hf=>Ml 0 0 f [] h.xo h.m hf;simp only[cH]at e3 e4;refine aH (sf:=Nu) rfl rfl (by simp[bX,h.xo.pure,cD hs,AV.ay,AV.au]) rfl (by simp) ?_;unfold lD;by_cases p3:i.op=3;obtain⟨a0,a1⟩:=hi.a (by omega);obtain⟨b0,b1⟩:=hi.b (by omega);have er:=e1 i.a a0 a1;have wa:=ew i.a a0 (by omega);have wb:=ew i.b b0 (by omega);cases nF:rf c i.a<;>simp[Nu,cH,bX,hx,hC,MI,cL,BS,CD.cells,n8,mU,fV,fq,hs,p3,er,nF,wa,wb,Gr,fY];by_cases p6:i.op=6;obtain⟨a0,a1⟩:=hi.a (by omega);obtain⟨b0,b1⟩:=hi.b (by omega);have er:=e1 i.a a0 a1;have wa:=ew i.a a0 (by omega);have wb:=ew i.b b0 (by omega);cases nF:rf c i.a<;>simp[Nu,cH,bX,hx,hC,MI,cL,BS,CD.cells,n8,mU,fV,fq,hs,p6,er,nF,wa,wb,Gr,fY];by_cases p8:i.op=8;obtain⟨a0,a1⟩:=hi.a (by omega);obtain⟨b0,b1⟩:=hi.b (by omega);have er:=e1 i.a a0 a1;have wa:=ew i.a a0 (by omega);have wb:=ew i.b b0 (by omega);cases nF:rf c i.a<;>simp[Nu,cH,bX,hx,hC,MI,cL,BS,CD.cells,n8,mU,fV,fq,hs,p8,er,nF,wa,wb,Gr,fY];by_cases p7:i.op=7;obtain⟨a0,a1⟩:=hi.a (by omega);obtain⟨b0,b1⟩:=hi.b (by omega);have er:=e1 i.b b0 b1;have wa:=ew i.a a0 (by omega);have wb:=ew i.b b0 (by omega);cases nF:rf c i.b<;>simp[Nu,cH,bX,hx,hC,MI,cL,BS,CD.cells,n8,mU,fV,fq,hs,p7,er,nF,wa,wb,Gr,fY];by_cases p9:i.op=9;obtain⟨a0,a1⟩:=hi.a (by omega);obtain⟨b0,b1⟩:=hi.cv (by omega);have er:=e1 i.c b0 b1;have wa:=ew i.a a0 (by omega);have wb:=ew i.c b0 (by omega);cases nF:rf c i.c<;>simp[Nu,cH,bX,hx,hC,MI,cL,BS,CD.cells,n8,mU,fV,fq,hs,p9,er,nF,wa,wb,Gr,fY];by_cases p11:i.op=11;obtain⟨a0,a1⟩:=hi.a (by omega);have wa:=ew i.a a0 (by omega);simp[Nu,cH,bX,hx,hC,MI,cL,BS,CD.cells,n8,mU,fV,fq,hs,p11,wa,Gr];by_cases p12:i.op=12;obtain⟨a0,a1⟩:=hi.a (by omega);have wa:=ew i.a a0 (by omega);simp[Nu,cH,bX,hx,hC,MI,cL,BS,CD.cells,n8,mU,fV,fq,hs,p12,wa,Gr];by_cases p13:i.op=13;obtain⟨g0,g1,gq,ga,gl⟩:=hi.call p13;have Ee:=h.Cm i.c.toNat;have ev:=DC 0 0 i.c.toNat [] h.xo h.m (by omega);rw[agI g0]at ev;have em:=e3 i.c.toNat (by omega);rw[agI g0]at em;simp only[cH]at ev;simp[Nu,cH,bX,hx,hC,MI,cL,BS,CD.cells,n8,mU,fV,fq,hs,p13,ev];refine aT Va.eq_1 (λq:Nat=>⟨[(2,.val (.int .i64 (jG x k))),(4,.fp 0 0),(7,.fp 1 0),(9,.fp 2 0),(10,.val (bF 4 (l6 c (jG x i.c.toNat) (jG x k) (dI i.args) q))),(11,.val (.int .i64 (jG x i.c.toNat))),(12,.val (.int .i64 q))],
   [[x.aD,x.globals,x.codes,x.ax,.int .i64 x.main],[.int .i64 13,.int .i64 i.a,.int .i64 i.b,.int .i64 i.c,.int .i64 i.n,i.args],[.int .i64 c.params,c.vars,.bool c.bg,.int .i64 c.res.b,.int .i64 c.res.r,.int .i64 c.res.d,c.dO]],[]⟩)
  (λq=>q<=(dI i.args).length) (λq=>(dI i.args).length-q) 0 (by simp[l6,fY,jG]) (by simp) ?_
 intro q hq ih;have hlen:=A9 c (jG x i.c.toNat) (jG x k) (dI i.args) q;by_cases aQ:q<(dI i.args).length;have hw:=wk q (by omega);obtain⟨v0,v1⟩:=gq _ (aar aQ);have Ya:=HQ c (jG x i.c.toNat) (jG x k) (dI i.args) q aQ;have er:=e1 (dI i.args)[q] v0 v1;have wa:=ew (dI i.args)[q] v0 (by omega);have nR:IntKind.i64.wrap (jG x i.c.toNat+(q:Int))=jG x i.c.toNat+(q:Int):=by rw[cI]<;>omega
 have nC:=eB (sz:=4) (bytes:=32) (r:=l6 c (jG x i.c.toNat) (jG x k) (dI i.args) q) (new:=[jV 2 (jG x i.c.toNat+q) (jG x k+(dI i.args)[q]) 0]) (by simp[bw]) (by simp[dQ];omega);cases nF:rf c (dI i.args)[q] with
 |false=>
  simp[hA,hv,hl,aQ,mU,fq,er,nF,hw,ai,ah];have:=ih (q+1) (by omega) (by omega);simp only[Ya,nF,aaq,if_false,abO]at this;exact this
 |true=>
  simp[hA,hv,hl,aQ,mU,fq,er,nF,hw,nR,wa,nC,ai,ah];have:=ih (q+1) (by omega) (by omega);simp only[Ya,nF,if_true]at this;exact this
 have FY:q=(dI i.args).length:=by omega
 subst FY;have nC:=λa b=>eB (sz:=4) (bytes:=32) (r:=l6 c (jG x i.c.toNat) (jG x k) (dI i.args) (dI i.args).length) (new:=[jV 2 a b 0]) (by simp[bw]) (by simp[dQ];omega);rcases ga with ga|⟨a0,a1⟩;have nF:rf c (-1)=false:=by simp[rf,fR,g9,T0]
 simp[hA,hv,hl,ga,nF];have er:=e1 i.a a0 a1;have wa:=ew i.a a0 (by omega);cases nF:rf c i.a<;>simp[hx,hA,hv,hl,a0,mU,fq,er,nF,wa,em,nC,ai,ah];by_cases Xv:i.op=18;have em:=e3 k (by omega);rcases hi.ret Xv with ga|⟨a0,a1⟩;have nF:rf c i.a=false:=by simp[rf,fR,ga,g9,T0]
 have aoP:rf c (-1)=false:=by rw[<-ga];exact nF
 simp[Nu,cH,bX,hx,hC,MI,cL,BS,CD.cells,n8,mU,fV,fq,hs,Xv,ga,aoP,fY];have er:=e1 i.a a0 a1;have wa:=ew i.a a0 (by omega);cases nF:rf c i.a<;>simp[Nu,cH,bX,hx,hC,MI,cL,BS,CD.cells,n8,mU,fV,fq,hs,Xv,a0,er,nF,wa,em,Gr,fY,ai,ah];by_cases p19:i.op=19;obtain⟨n0,n1⟩:=hi.aaU (by omega);obtain⟨a0,a1⟩:=hi.a (by omega);have em:=e4 i.n.toNat (by omega);rw[agI n0]at em;have er:=e1 i.a a0 a1;have wa:=ew i.a a0 (by omega);cases nF:rf c i.a<;>simp[Nu,cH,bX,hx,hC,MI,cL,BS,CD.cells,n8,mU,fV,fq,hs,p19,er,nF,wa,em,Gr,fY,ai,ah];by_cases p20:i.op=20;obtain⟨n0,n1⟩:=hi.aaU (by omega);obtain⟨a0,a1⟩:=hi.a (by omega);have em:=e4 i.n.toNat (by omega);rw[agI n0]at em;have er:=e1 i.a a0 a1;have wa:=ew i.a a0 (by omega);cases nF:rf c i.a<;>simp[Nu,cH,bX,hx,hC,MI,cL,BS,CD.cells,n8,mU,fV,fq,hs,p20,er,nF,wa,em,Gr,fY,ai,ah];simp[Nu,cH,bX,hx,hC,MI,cL,BS,CD.cells,n8,mU,fV,fq,hs,p3,p6,p8,p7,p9,p11,p12,p13,Xv,p19,p20,fY]
end
end cr
namespace cr
open Ax Go aF cJ
def xS(x:XD)(k:Nat)(c:CD)(j:Nat):List (List AV):=((gx c.dO).take j).flatMap (lD x k c)
def s7(x:XD):Nat->List (List AV)
 |0=>[]
 |k+1=>s7 x k++match (bP x.codes)[k]? with
  |some c=>xS x k c (gx c.dO).length|none=>[]
def XOk(x:XD):Prop:=∀(k:Nat)(h:k<(bP x.codes).length),∀i∈gx (bP x.codes)[k].dO,IOk x (bP x.codes)[k] i
theorem uN{x:XD}{k:Nat}{c:CD}{j:Nat}(h:j<(gx c.dO).length):xS x k c (j+1)=xS x k c j++lD x k c (gx c.dO)[j]:=by
 simp only[xS];rw[abL h,agq];simp only[afk,afF,abO]
theorem uP{x:XD}{k:Nat}(h:k<(bP x.codes).length):s7 x (k+1)=s7 x k++xS x k (bP x.codes)[k] (gx (bP x.codes)[k].dO).length:=by
 simp[s7,h]
theorem Ba{x:XD}{k:Nat}{c:CD}(hi:∀i∈gx c.dO,IOk x c i):∀j:Nat,j<=(gx c.dO).length->(xS x k c j).length<=4501*j
 |0,_=>by simp[xS]|j+1,h=>by
  rw[uN (by omega),aa6];have h1:=Ba (k:=k) hi j (by omega);have h2:=Mo (k:=k) (hi _ (aar (show j<(gx c.dO).length by omega)));omega
theorem Bb{x:XD}(hm:Sm x)(hi:XOk x):∀k:Nat,k<=(bP x.codes).length->(s7 x k).length<=20254500*k
 |0,_=>by simp[s7]|k+1,h=>by
  rw[uP (by omega),aa6];have h1:=Bb hm hi k (by omega);have h2:=Ba (k:=k) (hi k (by omega)) _ (aaH _);have h3:=hm.dO _ (aar (show k<(bP x.codes).length by omega));have:4501*(gx (bP x.codes)[k].dO).length<=4501*4500:=Nat.mul_le_mul_left _ h3;omega
theorem Bc(a b:List (List AV)):bw 4 (a++b)=(bw 4 a&&bw 4 b):=by simp[bw]
theorem HT(c:CD)(to a:Int)(l:List Int):∀j:Nat,bw 4 (l6 c to a l j)=true
 |0=>rfl|j+1=>by
  have ih:=HT c to a l j;simp only[l6,agX,agq,Bc,afk,afF,abO,Ar]at *;refine⟨ih,?_⟩;split<;>rfl
theorem Xw(p:Prop) [Decidable p](a b:List (List AV)):bw 4 (if p then a else b)=if p then bw 4 a else bw 4 b:=by
 by_cases h:p<;>simp[h]
theorem HU(x:XD)(k:Nat)(c:CD)(i:ID):bw 4 (lD x k c i)=true:=by
 have h0:bw 4 []=true:=rfl;have h1:∀a b d e,bw 4 [jV a b d e]=true:=λ_ _ _ _=>rfl;simp only[lD,Xw,Bc,HT,h0,h1,ite_self,Bool.and_self]
theorem HV(x:XD)(k:Nat)(c:CD):∀j:Nat,j<=(gx c.dO).length->bw 4 (xS x k c j)=true
 |0,_=>rfl|j+1,h=>by rw[uN (by omega),Bc,HV x k c j (by omega),HU];rfl
theorem HW(x:XD):∀k:Nat,k<=(bP x.codes).length->bw 4 (s7 x k)=true
 |0,_=>rfl|k+1,h=>by rw[uP (by omega),Bc,HW x k (by omega),HV _ _ _ _ (aaH _)];rfl
theorem Sx(wl aa:Nat){x:XD}(st:ag)(hx:x.ok)(hm:Sm x)(hi:XOk x) :
  (aP S).call wl aa 29 [cH x] st=some (bF 4 (s7 x (bP x.codes).length),st):=by
 have hs:=hx.sl;have hC:=hx.codes;have hl:=aV hx.codes;have F6:=hm.codes;refine aH (sf:=s29) rfl rfl (by simp[hx.pure]) rfl (by simp) ?_;simp[s29,cH,hs];refine aT UP.eq_1 (λq:Nat×List AV=>⟨[(1,.fp 0 0),(3,.val (bF 4 (s7 x q.1))),(4,.val (.int .i64 q.1))],[[x.aD,x.globals,x.codes,x.ax,.int .i64 x.main],q.2],[]⟩)
  (λq=>q.1<=(bP x.codes).length) (λq=>(bP x.codes).length-q.1) (0,[]) (by simp[s7,fY]) (by simp) ?_
 rintro⟨k,bb⟩ hk ih;simp only at hk ih;by_cases aQ:k<(bP x.codes).length;have hw:=wk k (by omega);have hF:=gQ hC _ (aar aQ);have n8:=iB hF.1;have mU:=gr hF.1;have hN:=hF.2;have fV:=lA hN;have fq:=jQ hN;have s6:=oL hN;have Nl:=hi k aQ;have h3:=hm.dO _ (aar aQ);have hmc:MC x k (bP x.codes)[k]:=⟨hx,hm,aQ,rfl⟩;have ev:=DC 0 0 k [] hx hm (by omega);have eo:=λi hi=>aaV 0 0 (i:=i) hmc hi [];have Xx:=uP aQ;have hlen:=Bb hm hi k (by omega);have Xy:=Ba (k:=k) Nl;simp only[cH,bX]at ev eo;generalize BS:(bP x.codes)[k]=c at *;simp[hs,hC,hl,aQ,BS,CD.cells,n8,mU,fV,fq,ev];refine aT UO.eq_1 (λj:Nat=>⟨[(1,.fp 0 0),(3,.val (bF 4 (s7 x k++xS x k c j))),(4,.val (.int .i64 k)),(5,.fp 1 0),(6,.val (.int .i64 (jG x k))),(7,.val (.int .i64 j))],
   [[x.aD,x.globals,x.codes,x.ax,.int .i64 x.main],[.int .i64 c.params,c.vars,.bool c.bg,.int .i64 c.res.b,.int .i64 c.res.r,.int .i64 c.res.d,c.dO]],[]⟩)
  (λj=>j<=(gx c.dO).length) (λj=>(gx c.dO).length-j) 0 ?_ (by simp) ?_
 simp only[xS,jG,aja,afF,abO];rfl;intro j hj Rh;have l2:=Xy j hj;by_cases kJ:j<(gx c.dO).length;have NF:=wk j (by omega);have hio:=Nl _ (aar kJ);have e:=eo _ hio;have l3:=Mo (k:=k) hio;have Ya:=uN (x:=x) (k:=k) kJ;have nC:=eB (sz:=4) (bytes:=32) (r:=s7 x k++xS x k c j) (new:=lD x k c (gx c.dO)[j]) (HU _ _ _ _) (by simp only[aa6,dQ];omega);have hAs:=jS hio.args;have hAv:=dg hio.no hAs;simp[hs,hN,s6,kJ,ID.cells,hAv,NF,e,nC,ai,ah];have:=Rh (j+1) (by omega) (by omega);simp only[Ya]at this;exact this;have oe:j=(gx c.dO).length:=by omega
 subst oe;simp[fV,s6,hw];have:=ih (k+1,[.int .i64 c.params,c.vars,.bool c.bg,.int .i64 c.res.b,.int .i64 c.res.r,.int .i64 c.res.d,c.dO]) (by simp;omega) (by simp;omega);simp only[Xx]at this;exact this;have cL:k=(bP x.codes).length:=by omega
 subst cL;simp[hs,hl]
theorem Sy(wl aa:Nat){x:XD}(st:ag)(hx:x.ok)(hm:Sm x)(hi:XOk x)(hr:(aP S).call 0 0 25 [cH x] []=some (.bool true,[])) :
  (aP S).call wl aa 10 [cH x] st=some ((bF 4 (s7 x (bP x.codes).length)).view,st):=by
 have hs:=hx.sl;have hC:=hx.codes;have hl:=aV hx.codes;have F6:=hm.codes;have en:=Mj 0 0 [] hx hm;have ev:=A8 0 0 [] hx hm;simp only[cH]at hr en ev;refine aH (sf:=s10) rfl rfl (by simp[hx.pure]) rfl (by simp) ?_;simp[s10,cH,hs,hl,hr,en,ev,ai,ah];refine aT UC.eq_1 (λq:Nat×CD×Int×List AV×List AV=>⟨[(3,.val (.ptr 0 0 0 0)),(20,.val x.codes),(21,.val (.int .i64 (bP x.codes).length)),(22,.val (.int .i64 q.1))],
   [[x.aD,x.globals,x.codes,x.ax,.int .i64 x.main],q.2.2.2.1,q.2.2.2.2],[mo q.2.1 (ndL x) q.2.2.1 (fD (bP x.codes)) x.codes (s7 x q.1)]⟩)
  (λq=>q.1<=(bP x.codes).length/\q.2.1.vars.ay=true) (λq=>(bP x.codes).length-q.1) (0,⟨0,.U,false,⟨0,0,0⟩,.U⟩,0,[],[]) ?_ (by simp) ?_
 simp only[s7];rfl;rintro⟨k,c0,f0,b1,b2⟩ ⟨hk,_⟩ ih;simp only at hk ih;by_cases aQ:k<(bP x.codes).length;have hw:=wk k (by omega);have hF:=gQ hC _ (aar aQ);have n8:=iB hF.1;have mU:=gr hF.1;have hN:=hF.2;have fV:=lA hN;have fq:=jQ hN;have s6:=oL hN;have Nl:=hi k aQ;have h3:=hm.dO _ (aar aQ);have hmc:MC x k (bP x.codes)[k]:=⟨hx,hm,aQ,rfl⟩;have eo:=λaa rows i hi hr=>afj (aa:=aa) (rows:=rows) (i:=i) hmc hi hr;have Xx:=uP aQ;have hlen:=Bb hm hi k (by omega);have Xy:=Ba (k:=k) Nl;have hpT:=cD n8;have hpN:=cD fV;simp only[bX]at eo;generalize BS:(bP x.codes)[k]=c at *;simp[hs,hC,hl,aQ,BS,CD.cells,n8,mU,fV,fq,s6,ai,ah,aj,bD,AV.au];refine aT UB.eq_1 (λq:Nat×List AV=>⟨[(3,.val (.ptr 0 0 0 0)),(20,.val x.codes),(21,.val (.int .i64 (bP x.codes).length)),(22,.val (.int .i64 k)),(36,.val c.dO),(37,.val (.int .i64 (gx c.dO).length)),(38,.val (.int .i64 q.1))],
   [[x.aD,x.globals,x.codes,x.ax,.int .i64 x.main],[.int .i64 c.params,c.vars,.bool c.bg,.int .i64 c.res.b,.int .i64 c.res.r,.int .i64 c.res.d,c.dO],q.2],[mx x k c (s7 x k++xS x k c q.1)]⟩)
  (λq=>q.1<=(gx c.dO).length) (λq=>(gx c.dO).length-q.1) (0,b2) ?_ (by simp) ?_
 simp only[xS,aja,afF,abO];rfl;rintro⟨j,b3⟩ hj Rh;simp only at hj Rh;have l2:=Xy j hj;by_cases kJ:j<(gx c.dO).length;have NF:=wk j (by omega);have hio:=Nl _ (aar kJ);have Ya:=uN (x:=x) (k:=k) kJ;have hAs:=jS hio.args;have hAv:=dg hio.no hAs;have e:=λaa=>eo aa (s7 x k++xS x k c j) _ hio (by rw[aa6];omega);simp[hN,s6,kJ,ID.cells,hAs,hAv,NF,e];have:=Rh (j+1,(gx c.dO)[j].cells) (by simp;omega) (by simp;omega);simp only[Ya,ID.cells]at this;exact this;have oe:j=(gx c.dO).length:=by omega
 subst oe;simp[hw];have:=ih (k+1,c,(k:Int),[.int .i64 c.params,c.vars,.bool c.bg,.int .i64 c.res.b,.int .i64 c.res.r,.int .i64 c.res.d,c.dO],b3) (by simp[hpT];omega) (by simp;omega);simp only[Xx]at this;exact this;have cL:k=(bP x.codes).length:=by omega
 subst cL;simp[cut]
end cr
namespace cr
open Ax Go aF cJ
theorem JZ{c:CD}{n:Int}(h:fR (bJ c.vars) n≠T0):Mm c n:=by
 unfold fR at h;split at h;rename_i h0;refine⟨h0,?_⟩;apply Classical.byContradiction;intro hn;rw[List.getD_eq_getElem?_getD,List.getElem?_eq_none (by omega)]at h;exact h rfl;exact absurd rfl h
theorem ach{c:CD}{n:Int}(h:(fR (bJ c.vars) n).b=3):Mm c n:=JZ λe=>by rw[e]at h;cases h
theorem aci{c:CD}{n:Int}(h:0<(fR (bJ c.vars) n).d):Mm c n:=JZ λe=>by rw[e]at h;cases h
theorem zU{c:CD}{t:T3}{n:Int}(h:iU (bJ c.vars) t [n]=true):Mm c n:=by
 simp only[iU,List.all_cons,List.all_nil,Bool.and_true,Ar,decide_eq_true_eq]at h;exact JZ (by rw[h.1];exact h.2)
theorem afn{vs:List T3}{t:T3}{l:List Int}(h:iU vs t l=true):t≠T0:=by
 simp only[iU,Ar,decide_eq_true_eq]at h;exact h.2
theorem DD{rs:List RD}{c:CD}{a k v:Int}(h:C7 rs (bJ c.vars) a k v=true):Mm c a/\Mm c v:=by
 simp only[C7,Ar,decide_eq_true_eq]at h;obtain⟨⟨h1,h2⟩,h3⟩:=h;refine⟨ach h1,?_⟩;split at h3;split at h3;exact zU h3;cases h3;cases h3
theorem DE{c:CD}{a v:Int}(h:A7 (bJ c.vars) a v=true):Mm c a/\Mm c v:=by
 simp only[A7,Ar,decide_eq_true_eq]at h;exact⟨aci h.1,zU h.2⟩
theorem Qn{α:Type}{l:List α}{n:Int}{y:α}(h:gh l n=some y):0<=n/\n<l.length:=by
 unfold gh at h;split at h;obtain⟨hk,_⟩:=List.getElem?_eq_some_iff.1 h;omega;cases h
theorem DF{gs:List T3}{c:CD}{n a:Int}(h:FI gs (bJ c.vars) n a=true):(0<=n/\n<gs.length)/\Mm c a:=by
 unfold FI at h;split at h;rename_i t ht;exact⟨Qn ht,zU h⟩;cases h
theorem aaW{x:XD}{c:CD}{i:ID}(hm:Sm x)(h:C8 (bP x.codes) (bJ c.vars) i=true) :
  0<=i.c/\i.c<(bP x.codes).length/\(∀q∈dI i.args,Mm c q)/\(i.a = -1\/Mm c i.a)/\(dI i.args).length<=4500:=by
 unfold C8 at h;split at h;cases h;rename_i g hg;obtain⟨h0,h1⟩:=Qn hg;simp only[Sn,Ar,decide_eq_true_eq,Bool.or_eq_true]at h;obtain⟨⟨⟨h2,h3⟩,h4⟩,h5⟩:=h;have Oa:g∈bP x.codes:=by
  unfold gh at hg;rw[if_pos h0]at hg;exact List.mem_of_getElem? hg
 have Oi:=hm.vars g Oa;unfold Ye at Oi;refine⟨h0,h1,λq hq=>?_,?_,by omega⟩;obtain⟨j,hj,rfl⟩:=abe.1 hq;have hjv:j<(bJ g.vars).length:=by omega
 have:=aaS.1 h4 ((dI i.args)[j],(bJ g.vars)[j]) (by
  rw[abe];exact⟨j,by simp;omega,by simp⟩)
 exact zU this;rcases h5 with h5|h5;exact .inl h5;exact .inr (zU h5.2)
theorem aaX{x:XD}{f:Int}{c:CD}{i:ID}(hm:Sm x)(ha:tu i.args=true)(iu:fZ i.args=true)(h:gf x f c i=true):IOk x c i:=by
 unfold gf at h;refine⟨ha,iu,λp=>?_,λp=>?_,λp=>?_,λp=>?_,λp=>?_,λp=>?_⟩;rcases p with p|p|p|p|p|p|p|p|p;simp[p]at h;exact JZ (afn h);simp[p]at h;exact(DD h).2;simp[p]at h;exact(DD h).1;simp[p]at h;exact(DE h.1).2;simp[p]at h;exact(DE h.1).1;simp[p]at h;exact ach h.1.1;simp[p]at h;exact aci h.1.1;simp[p,mj]at h;exact(DF h).2;simp[p,mj]at h;exact(DF h).2;rcases p with p|p|p|p;simp[p]at h;exact zU h;simp[p]at h;exact(DD h).1;simp[p]at h;exact(DD h).2;simp[p]at h;exact(DE h.1).1;simp[p]at h;exact(DE h.1).2;simp[p,mj]at h;exact aaW hm h;simp[p,mj]at h;split at h;exact .inr (zU h);exact .inl (by simpa using h);rcases p with p|p;simp[p,mj]at h;exact(DF h).1;simp[p,mj]at h;exact(DF h).1
theorem HX(x:XD):∀(l:List CD)(f n:Int)(k:Nat)(h:k<l.length),oN x l f n=true->zn x (f+k) l[k]=true
 |[],_,_,_,h,_=>by simp at h|c::l,f,n,0,_,hb=>by
  simp only[oN,Ar]at hb;simpa using hb.1.2
 |c::l,f,n,k+1,h,hb=>by
  simp only[oN,Ar]at hb;have:=HX x l (f+1) _ k (by simpa using h) hb.2;rw[show f+((k+1:Nat):Int)=f+1+(k:Int) by omega];simpa using this
theorem J0{x:XD}(hx:x.ok)(hm:Sm x)(h:lB x=true):XOk x:=by
 intro k hk i hi;have hN:=(gQ hx.codes _ (aar hk)).2;obtain⟨iu,ha⟩:=A5 hN i hi;simp only[lB,Ar]at h;have hc:=HX x _ 0 0 k hk h.2;simp only[zn,Ar]at hc;have hs:=aaS.1 hc.1.2 i hi;simp only[uM]at hs;split at hs;cases hs;rename_i c hg;have MQ:(bP x.codes)[k]=c:=by
  unfold gh at hg;rw[if_pos (by omega)]at hg;simp only[show ((0:Int)+(k:Int)).toNat=k by omega,aao hk,Option.some.injEq]at hg;exact hg
 rw[MQ];simp only[Ar]at hs;exact aaX hm ha iu hs.2
end cr
