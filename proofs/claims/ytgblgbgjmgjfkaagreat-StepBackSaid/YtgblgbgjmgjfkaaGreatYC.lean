/- Part of a proof. -/
import Derived.Test.YtgblgbgjmgjfkaaGreatYB
import Derived.Test.YtgblgbgjmgjfkaaGreatQ
import Derived.Test.YtgblgbgjmgjfkaaGreatUD
import Derived.Test.YtgblgbgjmgjfkaaGreatZB
import Derived.Test.YtgblgbgjmgjfkaaGreatQB

open List renaming length->Q
open Option renaming some->Z,none->K
open Bool renaming true->Y
open Decidable renaming decide->V
open List renaming mem_map->aap,length_map->adW,getD_eq_getElem?_getD->aay,getElem?_map->aaz
open Int renaming toNat_natCast->abu
set_option maxRecDepth 100000
set_option maxHeartbeats 8000000
namespace U14
open Ax Go aM V7 jb jn qu qA
open K9 (dJ)
open N7 U7
open S9 (qc)
open uE (sD mkV oF jW ZX FJ AK FK Df tH)
open Gm (A6 CI Prg D9)
open gy (MP Ms oK m0 nQ)
open uJ (pN SZ A4)
theorem afa{l}(h:¬Be l<0):0<=Be l/\(Be l).toNat<Q l:=by
 grind [Be,List.findIdx?_eq_some_iff_getElem]
theorem Tc{p}(h:FJ p){fuel}(F:fuel<1000000){bs}(v:qc p=K)(z:rK (aY p) (aY p).aZ p.funcs=.ok bs):
  Prg ⟨aY p,dJ p,bs,fuel⟩ (A6 (aY p) bs fuel) (zG (aY p))/\0<=dJ p/\(dJ p).toNat<Q bs:=by
 have t:Q (aY p).aZ=Q p.funcs:=by simp[aY]
 have M:=S9.AD t z;have m:=Fx z;have D:=h.inn.f.1;have G:=h.inn.g.1;have x:=tH h bs z;have l:kR (mw p)=K:=by
  grind [qc]
 have k:¬dJ p<0:=by
  intro q;unfold kR at l;unfold dJ at q;rw[af q]at l;unfold Uv at l
  grind
 have R:=afa k;refine⟨⟨rfl,F,rfl,rfl,rfl,?_,rfl,?_,?_,?_,?_,by grind⟩,R.1,?_⟩;show Q (aY p).ax<1000000;simp[aY,qb];omega;intro s o;obtain⟨r,n,rfl⟩:=aap.1 o;have:=(h.inn.r.2 r n).len;simp[qb];omega;show ((aY p).aZ.map (·.ps.length)).length=Q bs
 grind
 grind [zG]
 intro b j;obtain⟨i,w,rfl⟩:=List.getElem_of_mem j
 grind [Vi,aY,iz]
 have:=R.2;rw[show Q (iN (mw p).funcs)=Q p.funcs by rw[tY,adW]]at this;show (Be (iN (mw p).funcs)).toNat<Q bs;omega
theorem afb{p}(h:FJ p){fB}(j:mX fB=Y)(x:cL fB=Y)(fuel)(F:fuel<1000000)(C L st):
  (bh S).call C L 13 [.agg p.aK,fB,.int .i64 fuel] st=Z (Gm.CF (CI p (Ax.dI fB) fuel.toNat),st):=
 Gm.KC p j x fuel F (aka h.inn) (akb h.inn) (FK h) (λbs z b l=>by grind [tH]) (λbs g z=>Tc h (by omega) g z) C L st
theorem Td(r):(qW r).out=r.out/\(qW r).aL=r.aL:=by unfold qW;grind
theorem XW(C main fB):Q (run C main fB).out<=C.fuel/\(run C main fB).aL<=C.fuel/\((run C main fB).e=3->(run C main fB).aL=C.fuel):=by
 have G0:Gd C 0 (r0 C fB):=⟨by simp[r0],by simp[r0],by simp[r0],by simp[r0],by simp[r0]⟩;have:=(XB (Ns C.fuel).2 main [] (r0 C fB) G0).1;have j:=this.o;have g:=this.st;refine⟨?_,?_,?_⟩
 grind [run,Td]
 grind [run,Td]
 ·intro B;rcases SM C 0 main fB with⟨_,g,_⟩|⟨h,_⟩;all_goals grind
theorem Vx{p}(o:FJ p):(∃e a,e≠0/\sD p=.fC [ZX,.agg [.int .i64 e,.int .i64 a]])\/
  ∃cs ss all bs,sD p=.fC [.agg (oF (aY p) (dJ p) cs ss),.agg [.int .i64 0,.int .i64 0]]/\Hd.DF (aY p)/\Made (aY p) cs ss all/\Q cs=Q (aY p).aZ/\iA.lW (oI.sH (aY p) (dJ p) cs ss)=Y/\
   qc p=K/\rK (aY p) (aY p).aZ p.funcs=.ok bs/\zv [] [] 0 (aY p).aZ bs=.ok (cs,ss):=by
 cases l:kR (mw p) with
 |some a=>simp_all [sD]|none=>
  cases z:rK (aY p) (aY p).aZ p.funcs with
  |error a=>simp_all [sD]|ok bs=>
   cases m:qc p with
   |some a=>simp_all [sD]|none=>
    cases U:jW p with
    |true=>simp_all [sD]|false=>
     cases g:zv [] [] 0 (aY p).aZ bs with
     |error a=>simp_all [sD,mkV]|ok y=>
      obtain⟨cs,ss⟩:=y;have n:Hd.DF (aY p):=Xf l (uE.Pf U);obtain⟨all,k,q⟩:=Sl n (by simp[aY]) z rfl (cs:=[]) (ss:=[]) (all:=0) ⟨λj c h=>by simp at h,λs h=>by simp at h,by simp,rfl,by simp⟩ g
      grind [ahX,sD,mkV,oI.Vf]
section
variable {H:Hd}{main:Int}{cs:List Cd}{ss:List Sd}{all:Nat}
theorem afc:dW.fm (oI.sH H main cs ss).aJ=cs.map oI.iR:=oI.PI cs
theorem afd:dW.lU (oI.sH H main cs ss).aI=ss.map oI.an1:=oI.PJ ss
theorem akL:Q (dW.cx (oI.sH H main cs ss).ax)=Q H.ax:=by
 show (dW.cx (oI.tsV (H.ax.map (·.ty)))).length=_;rw[oI.AX];simp
theorem atQ:(.agg (oF H main cs ss))=uJ.xA (oI.sH H main cs ss):=by
 unfold oF;show _=AV.agg [_,_,_,_,_];simp only[oI.sH,oI.shV,oI.tsV,oI.csV,oI.cn,List.map_map]
 rfl
theorem afe(j:Made H cs ss all):∀g∈dW.fm (oI.sH H main cs ss).aJ,Q (dW.cx g.vars)<=4000:=by
 intro g U;rw[afc]at U;obtain⟨c,l,rfl⟩:=aap.1 U;obtain⟨k,m⟩:=oI.aeE l;obtain⟨s,n,h⟩:=j.code k c m;show Q (dW.cx (oI.tsV c.vars))<=_;rw[oI.AX,adW];exact h.nv
theorem akM(h:Made H cs ss all):∀g∈dW.fm (oI.sH H main cs ss).aJ,Q (dW.jo g.fZ)<=2500:=by
 intro g U;rw[afc]at U;obtain⟨c,j,rfl⟩:=aap.1 U;show Q (dW.jo (oI.ZU c.is))<=_;rw[oI.F7,adW];have:=oI.aeG j;have:=h.sum;have:=h.few;omega
theorem Z8(r:Hd.DF H)(m:Made H cs ss all)(v:Q cs=Q H.aZ)(o:iA.lW (oI.sH H main cs ss)=Y){fB}(t:mX fB=Y)(E:cL fB=Y)(n)(w:n<=1000000)(C L st):
  (bh S).call C L 8 [.agg (oF H main cs ss),fB,.int .i64 n] st=Z (uJ.CF (A4 (oI.sH H main cs ss) (Ax.dI fB) n.toNat),st):=by
 have q:=oI.aeF (main:=main) r m v;have N:=afe (main:=main) m;have M:=akM (main:=main) m;have y:=r.ng;have B:=m.ns;rw[atQ];generalize J:oI.sH H main cs ss=x at *;have z:=λC L st=>iA.SI C L st q (λg h=>by grind) (λg h=>by grind);have F:(uJ.xA x).aH=Y:=q.pure;unfold A4;rw[af o];rw[o]at z;obtain⟨k,s,D⟩:=uJ.XK o;rw[s,abu];have G:Q (dW.lU x.aI)<=60:=by grind [afd]
 have I:Q (dW.cx x.ax)<=8:=by grind [akL]
 exact uJ.KC q F t E n z (Bz:=SZ x) (λC L j st _=>iA.Cr q (λg h=>by grind) (λg h=>by grind) C L j st) (λj=>by
  obtain⟨l,h,_⟩:=iA.SJ x j;exact lH h) (by omega) s D (by grind) (by omega) (uJ.aeF o) (λc h=>by grind) (λc h=>by grind) w C L st
theorem isX(l:Hd.DF H)(k:iA.lW (oI.sH H main cs ss)=Y){bs fuel}:qR.IsX (pN (oI.sH H main cs ss) (SZ (oI.sH H main cs ss))) (A6 H bs fuel) cs ss:=by
 have U:∀(j:Nat) (c:Cd),cs[j]?=Z c->(pN (oI.sH H main cs ss) (SZ (oI.sH H main cs ss))).aJ.getD j gy.C0=oI.iR c:=λj c h=>by
  show (dW.fm (oI.sH H main cs ss).aJ).getD j gy.C0=_;rw[afc,aay,aaz,h];rfl
 refine⟨λj c h=>?_,λj c h=>?_,λn s h v w=>?_⟩;rw[U j c h];exact oI.F7 c.is;unfold nQ;rw[U j c h];show Q (dW.cx (oI.tsV c.vars))=_;rw[oI.AX,adW];have g:n<Q ss:=(List.getElem?_eq_some_iff.1 h).1;have m:Q (dW.lU (oI.sH H main cs ss).aI)=Q ss:=by rw[afd,adW]
 have e:(pN (oI.sH H main cs ss) (SZ (oI.sH H main cs ss))).cells.getD n 0=Q (bf (iA.tN (oI.sH H main cs ss) n)):=by
  show ((List.range (Q (dW.lU (oI.sH H main cs ss).aI))).map λj=>Q (bf (SZ (oI.sH H main cs ss) j))).getD n 0=_;rw[m,aay,aaz,List.getElem?_range g]
  rfl
 rw[e];unfold iA.tN;rw[af ⟨k,by omega,by omega⟩,abu];unfold iA.xB;rw[afd,aaz,h];show Q (bf (if 0<s.ty.d then _ else cw 3 (iA.ZO (oI.sH H main cs ss) s.ty.r.toNat 1000000000)))=_;rw[ah,oZ];unfold iA.ZO;have R:dW.kZ (oI.sH H main cs ss).aR=H.bN.map λs=>⟨s.1,cM s.2⟩:=oI.Ls _;rw[R,aaz];show _=(H.bN.map (·.2.length)).getD s.ty.r.toNat 0;rw[aay,aaz];cases q:H.bN[s.ty.r.toNat]? with
 |none=>simp|some t=>
  have o:=l.bN t (mem_of q)
  grind [oI.Jl]
end
end U14
namespace U14
open Ax Go aM V7 jb jn qu qA
open K9 (dJ)
open N7 U7
open S9 (qc)
open uE (sD mkV oF jW ZX FJ AK FK Df tH)
open Gm (A6 CI Prg D9 Bv)
open gy (MP Ms oK m0 nQ)
open uJ (pN SZ A4 nW)
theorem aoH(l):Bv l=nW l:=rfl
structure Mk (p:Pg)(cs:List Cd)(ss:List Sd)(all:Nat)(bs:List Bd):Prop where
 hF:Hd.DF (aY p)
 hM:Made (aY p) cs ss all
 hl:cs.length=(aY p).aZ.length
 hr:iA.lW (oI.sH (aY p) (dJ p) cs ss)=true
 hS:qc p=none
 hR:rK (aY p) (aY p).aZ p.funcs=.ok bs
 hm:zv [] [] 0 (aY p).aZ bs=.ok (cs,ss)
section
variable {p:Pg}{cs:List Cd}{ss:List Sd}{all:Nat}{bs:List Bd}
theorem aff(g:FJ p)(h:Mk p cs ss all bs):∃k:Nat,dJ p=k/\k<Q bs:=by
 obtain⟨_,j,l⟩:=Tc g (fuel:=0) (by omega) h.hS h.hR
 grind
theorem aoI(h:Mk p cs ss all bs)(l n):CI p l n=run (A6 (aY p) bs n) (dJ p) l:=by
 unfold CI;rw[h.hS];simp only;rw[h.hR]
theorem atR(h:Mk p cs ss all bs)(n M)(g:∀f∈p.funcs,Sm.eJ f.body<=M):qR.KP (pN (oI.sH (aY p) (dJ p) cs ss) (SZ (oI.sH (aY p) (dJ p) cs ss))) (A6 (aY p) bs n) (zG (aY p)) (aY p) cs M/\qR.TP (A6 (aY p) bs n) (zG (aY p)):=
 qR.atJ h.hF (by simp[aY]) h.hR h.hm (isX h.hF h.hr) rfl rfl g
theorem aoJ(g:FJ p)(h:Mk p cs ss all bs)(l n):∃k:Nat,dJ p=k/\k<Q bs/\A4 (oI.sH (aY p) (dJ p) cs ss) l n=oK (pN (oI.sH (aY p) (dJ p) cs ss) (SZ (oI.sH (aY p) (dJ p) cs ss))) n (m0 (pN (oI.sH (aY p) (dJ p) cs ss) (SZ (oI.sH (aY p) (dJ p) cs ss))) k l):=by
 obtain⟨k,m,D⟩:=aff g h;refine⟨k,m,D,?_⟩;unfold A4;rw[af h.hr];show oK _ n (m0 _ (dJ p).toNat l)=_
 grind
end
theorem afg{p}(k:FJ p):(∃e a,e≠0/\sD p=.fC [ZX,.agg [.int .i64 e,.int .i64 a]])\/
  ∃cs ss all bs,sD p=.fC [.agg (oF (aY p) (dJ p) cs ss),.agg [.int .i64 0,.int .i64 0]]/\Mk p cs ss all bs:=by
 rcases Vx k with h|⟨cs,ss,all,bs,g,j,l,m,O,C,N,q⟩;exact .inl h;exact .inr ⟨cs,ss,all,bs,g,⟨j,l,m,O,C,N,q⟩⟩
theorem aab{a b r:List Int}(h:b=a++r):(V (Q a<=Q b)&&V (a=b.take (Q a)))=Y:=by
 rw[h];simp
theorem ajq(p l n):Q (CI p l n).out<=n:=by
 unfold CI;split;simp[D9];split;simp[D9];exact(XW _ _ _).1
end U14
namespace U14
open Ax Go aM V7 jb jn qu qA
open K9 (dJ)
open N7 U7
open S9 (qc)
open uE (sD mkV oF jW ZX FJ AK FK Df tH)
open Gm (A6 CI Prg D9 Bv)
open gy (MP Ms oK m0 nQ)
open uJ (pN SZ A4 nW)
theorem aac(s:List UInt8):∀f∈(ru s).1.funcs,Sm.eJ f.body<=Q s:=by
 unfold ru;split;rename_i j;generalize g:U2.KF s=z;obtain⟨rows,e⟩:=z;cases e with
 |some e=>intro f h;cases h|none=>
  obtain⟨M,m⟩:=Je g;obtain⟨x,l⟩:=yb (sS rows);simp only;rw[l,Option.getD_some];have I:Q (sS rows)=Q rows:=by simp[sS]
  intro f h;have:=RN l f h;omega
 intro f h;cases h
theorem ajr{p:Pg}{cs:List Cd}{ss:List Sd}{all:Nat}{bs:List Bd}(m:FJ p)(h:Mk p cs ss all bs)(l:List Int)(n M N:Nat)(j:∀f∈p.funcs,Sm.eJ f.body<=M)(q:8*n+40*M<N):
  ((A4 (oI.sH (aY p) (dJ p) cs ss) l n).e=3->(A4 (oI.sH (aY p) (dJ p) cs ss) l n).aL=n/\∃r,(CI p l N).out=(A4 (oI.sH (aY p) (dJ p) cs ss) l n).out++r)/\
  ((A4 (oI.sH (aY p) (dJ p) cs ss) l n).e≠3->(CI p l N).e=(A4 (oI.sH (aY p) (dJ p) cs ss) l n).e/\(CI p l N).code=(A4 (oI.sH (aY p) (dJ p) cs ss) l n).code/\
   (CI p l N).out=(A4 (oI.sH (aY p) (dJ p) cs ss) l n).out):=by
 obtain⟨k,o,D,s⟩:=aoJ m h l n;obtain⟨g,T⟩:=atR h N M j;have E:=aoI h l N;rw[o]at E;rw[s,E];exact qR.azy g T akL D l n q (XW _ _ _).2.2
theorem afh(s:List UInt8){fB:AV}(W:mX fB=Y)(eC:cL fB=Y)(n:Int):∃st',(bh S).call 0 0 5 [.str s,fB,.int .i64 n] []=Z (.bool Y,st'):=by
 refine⟨[],?_⟩;have t:=dY W;have J:=bQ eC t;have I:=cC W;have hpi:=dV t;have kn:=λC L st=>abK (sf:=s10) rfl rfl rfl uJ.aos C L st;have k:=λC L st=>ahN C L s st;have j:=AK s;have hM:=aac s;have D:=λC L st=>LN.aij C L (ru s).1 st (aka j.inn) (akb j.inn) (FK j) (Df j);have E:=λn hn C L st=>afb j W eC n hn C L st;have mr:=afg j;refine bu (sf:=s5) rfl rfl (by simp[AV.aD,AV.aH,hpi]) rfl rfl ?_;generalize hP:ru s=P at *;obtain⟨p,fe,fa⟩:=P;simp only at k j E D mr hM;have R:bn (aN 3 (p.aR.map Rc.aK))=Y:=bU;have w:(aN 3 (p.aR.map Rc.aK)).aj=aN 3 (p.aR.map Rc.aK):=cg;have F:bn (aN 7 (p.funcs.map Fc.aK))=Y:=bU;have q:(aN 7 (p.funcs.map Fc.aK)).aj=aN 7 (p.funcs.map Fc.aK):=cg;have y:bn (aN 4 (p.ax.map PD.cells))=Y:=bU;have G:(aN 4 (p.ax.map PD.cells)).aj=aN 4 (p.ax.map PD.cells):=cg;unfold Pg.aK at k E D;generalize aN 3 (p.aR.map Rc.aK)=PR,aN 7 (p.funcs.map Fc.aK)=PF,aN 4 (p.ax.map PD.cells)=PG at *;by_cases o:(1000:Int)<(Q s:Int);simp[s5,k,R,w,F,q,y,G,aB,AV.aj,o];by_cases ce:¬fe=0;simp[s5,k,R,w,F,q,y,G,aB,AV.aj,o,ce];have ce:fe=0:=Decidable.byContradiction ce;subst ce;by_cases c1:(100:Int)<(Q (Ax.dI fB):Int);simp[s5,k,R,w,F,q,y,G,aB,AV.aj,o,t,J,I,c1];by_cases c2:n<0;simp[s5,k,R,w,F,q,y,G,aB,AV.aj,o,t,J,I,c1,c2];by_cases c3:1500<n;simp[s5,k,R,w,F,q,y,G,aB,AV.aj,o,t,J,I,c1,c2,c3];rcases mr with⟨e,a,he,h1⟩|⟨cs,ss,all,bs,h1,m⟩;rw[h1]at D;simp[s5,k,D,R,w,F,q,y,G,aB,AV.aj,AV.cP,o,t,J,I,c1,c2,c3,he,kn];rw[h1]at D;obtain⟨a,rfl⟩:∃a:Nat,n=a:=⟨n.toNat,by omega⟩;generalize hz:Q s=z at *;have UW:IntKind.i64.wrap (8*(a:Int))=8*(a:Int):=by rw[dg]<;>omega
 have rJ:IntKind.i64.wrap (40*(z:Int))=40*(z:Int):=by rw[dg]<;>omega
 have M:IntKind.i64.wrap (8*(a:Int)+40*(z:Int))=8*(a:Int)+40*(z:Int):=by rw[dg]<;>omega
 have N:IntKind.i64.wrap (8*(a:Int)+40*(z:Int)+10)=8*(a:Int)+40*(z:Int)+10:=by rw[dg]<;>omega
 have T:=E (8*(a:Int)+40*(z:Int)+10) (by omega);have O:=λC L st=>Z8 m.hF m.hM m.hl m.hr W eC (a:Int) (by omega) C L st;have rr:∀C L st,(bh S).call C L 16 [.agg (oF (aY p) (dJ p) cs ss)] st=Z (.bool Y,st):=λC L st=>by
  rw[atQ];have:=iA.ZT C L st (oI.aeF (main:=dJ p) m.hF m.hM m.hl) (λg h=>by have:=afe (main:=dJ p) m.hM g h;omega) (λg h=>by have:=akM (main:=dJ p) m.hM g h;omega);rw[<-iA.aez,m.hr]at this;exact this
 rw[show (8*(a:Int)+40*(z:Int)+10).toNat=8*a+40*z+10 by omega]at T;rw[abu]at O;have o1:=ajq p (Ax.dI fB) (8*a+40*z+10);have o2:=uJ.ai6 (x:=oI.sH (aY p) (dJ p) cs ss) (Ax.dI fB) a;have va:∀l,(nW l).aj=nW l:=λl=>by unfold nW;split<;>rfl
 have ca:∀l,(nW l).cT=Y:=λl=>by unfold nW;split<;>rfl
 obtain⟨m3,mn⟩:=ajr j m (Ax.dI fB) a z (8*a+40*z+10) hM (by omega);have bg:=λC L st=>uJ.Z4 C L (A4 (oI.sH (aY p) (dJ p) cs ss) (Ax.dI fB) a).out (CI p (Ax.dI fB) (8*a+40*z+10)).out (by omega) st;have ig:=λC L st=>uJ.Dj C L (uJ.Hw (CI p (Ax.dI fB) (8*a+40*z+10)).out).1 (uJ.Hw (A4 (oI.sH (aY p) (dJ p) cs ss) (Ax.dI fB) a).out).1 (by rw[(uJ.Hw _).2];omega) st;simp only[(uJ.Hw _).2]at ig;unfold Gm.CF at T;unfold uJ.CF at O;simp only[aoH]at T;have q1:bn (aN 2 ((aY p).bN.map gh))=Y:=bU;have q2:(aN 2 ((aY p).bN.map gh)).aj=aN 2 ((aY p).bN.map gh):=cg;have q3:bn (aN 3 ((aY p).ax.map (λv=>v.ty.cells)))=Y:=bU;have q4:(aN 3 ((aY p).ax.map (λv=>v.ty.cells))).aj=aN 3 ((aY p).ax.map (λv=>v.ty.cells)):=cg;have q5:bn (aN 7 (cs.map Cd.aK))=Y:=bU;have q6:(aN 7 (cs.map Cd.aK)).aj=aN 7 (cs.map Cd.aK):=cg;have q7:bn (aN 4 (ss.map Sd.aK))=Y:=bU;have q8:(aN 4 (ss.map Sd.aK)).aj=aN 4 (ss.map Sd.aK):=cg;unfold oF at D O rr;generalize A4 (oI.sH (aY p) (dJ p) cs ss) (Ax.dI fB) a=B,CI p (Ax.dI fB) (8*a+40*z+10)=A,aN 2 ((aY p).bN.map gh)=X1,aN 3 ((aY p).ax.map (λv=>v.ty.cells))=X2,aN 7 (cs.map Cd.aK)=X3,aN 4 (ss.map Sd.aK)=X4 at *;by_cases U:B.e=3;obtain⟨m0,r,hr⟩:=m3 U;have hb:=aab hr;simp only[hb]at bg;simp[s5,k,D,R,w,F,q,y,G,q1,q2,q3,q4,q5,q6,q7,q8,aB,AV.aj,AV.cP,o,t,J,I,hz,c1,c2,c3,kn,T,UW,rJ,M,N,O,bO,cut,aA,ay,U,m0,va,ca,bg];obtain⟨m1,m2,m4⟩:=mn U;rw[m4]at ig;simp only[decide_true]at ig;rw[m1,m2,m4]at T;simp[s5,k,D,R,w,F,q,y,G,q1,q2,q3,q4,q5,q6,q7,q8,aB,AV.aj,AV.cP,o,t,J,I,hz,c1,c2,c3,kn,T,UW,rJ,M,N,O,bO,cut,aA,ay,U,va,ca,ig,rr]
end U14
