/- Part of a proof. -/
import Derived.Test.YtgblgbgjmgjfkaaGreatYB
import Derived.Test.YtgblgbgjmgjfkaaGreatQ
import Derived.Test.YtgblgbgjmgjfkaaGreatUD
import Derived.Test.YtgblgbgjmgjfkaaGreatZB

open List renaming mem_map->ad7,length_map->aes,getD_eq_getElem?_getD->aen,getElem?_map->aej
open Int renaming toNat_natCast->aeu
set_option maxRecDepth 100000
set_option maxHeartbeats 8000000
namespace U14
open Ax Go aO V7 iQ iZ pX qb
open K9 (eu)
open N7 U7
open S9 (pM)
open tQ (rJ mkV qc jR ZX F9 DL Ip Ga wI)
open Ft (Ay Az Prg Fk)
open iq (MP Ms pW m0 nt)
open ur (qt Zw Gr)
theorem adZ{l:List FN}(h:¬yI l<0):0<=yI l/\(yI l).toNat<l.length:=by
 grind [yI,List.findIdx?_eq_some_iff_getElem]
theorem Sa{p:Pg}(h:F9 p){fuel:Nat}(B:fuel<1000000){bs:List Bd}(t:pM p=none)(z:qJ (aX p) (aX p).aW p.funcs=.ok bs) :
  Prg ⟨aX p,eu p,bs,fuel⟩ (Ay (aX p) bs fuel) (yQ (aX p))/\0<=eu p/\(eu p).toNat<bs.length:=by
 have J:(aX p).aW.length=p.funcs.length:=by simp[aX]
 have D:=S9.zH J z;have m:=EB z;have C:=h.inn.f.1;have S:=h.inn.g.1;have U:=wI h bs z;have l:ke (lG p)=none:=by
  grind [pM]
 have k:¬eu p<0:=by
  intro q;unfold ke at l;unfold eu at q;rw[af q]at l;unfold TF at l
  grind
 have X:=adZ k;refine⟨⟨rfl,B,rfl,rfl,rfl,?_,rfl,?_,?_,?_,?_,by grind⟩,X.1,?_⟩;show (aX p).az.length<1000000;simp[aX,o9];omega;intro s o;obtain⟨r,n,rfl⟩:=ad7.1 o;have:=(h.inn.r.2 r n).len;simp[o9];omega;show ((aX p).aW.map (·.ps.length)).length=bs.length
 grind
 grind [yQ]
 intro b j;obtain⟨i,v,rfl⟩:=List.getElem_of_mem j
 grind [Us,aX,gR]
 have:=X.2;rw[show (gT (lG p).funcs).length=p.funcs.length by rw[sW,aes]]at this;show (yI (gT (lG p).funcs)).toNat<bs.length;omega
theorem ad0{p:Pg}(h:F9 p){fm:AV}(j:mK fm=true)(x:cJ fm=true)(fuel:Int)(B:fuel<1000000)(w l:Nat)(st:aj) :
  (aZ S).call w l 13 [.agg p.aI,fm,.int .i64 fuel] st=some (Ft.BK (Az p (Ax.dI fm) fuel.toNat),st):=
 Ft.JU p j x fuel B (aiO h.inn) (aiP h.inn) (Ip h) (λbs z b k=>by grind [wI]) (λbs g z=>Sa h (by omega) g z) w l st
theorem Sb(r:Rs):(qo r).out=r.out/\(qo r).aK=r.aK:=by unfold qo;grind
theorem WX(C:Cx)(main:Int)(fm:List Int):(run C main fm).out.length<=C.fuel/\(run C main fm).aK<=C.fuel/\((run C main fm).e=3->(run C main fm).aK=C.fuel):=by
 have G0:Gd C 0 (r0 C fm):=⟨by simp[r0],by simp[r0],by simp[r0],by simp[r0],by simp[r0]⟩;have:=(Wx (MD C.fuel).2 main [] (r0 C fm) G0).1;have j:=this.o;have g:=this.st;refine⟨?_,?_,?_⟩
 grind [run,Sb]
 grind [run,Sb]
 ·intro U;rcases RG C 0 main fm with⟨_,g,_⟩|⟨h,_⟩;all_goals grind
theorem UH{p:Pg}(o:F9 p):(∃e a:Int,e≠0/\rJ p=.eY [ZX,.agg [.int .i64 e,.int .i64 a]])\/
  ∃cs ss all bs,rJ p=.eY [.agg (qc (aX p) (eu p) cs ss),.agg [.int .i64 0,.int .i64 0]]/\Hd.CQ (aX p)/\Made (aX p) cs ss all/\cs.length=(aX p).aW.length/\jc.mU (oW.sH (aX p) (eu p) cs ss)=true/\
   pM p=none/\qJ (aX p) (aX p).aW p.funcs=.ok bs/\yJ [] [] 0 (aX p).aW bs=.ok (cs,ss):=by
 cases l:ke (lG p) with
 |some a=>simp_all [rJ]|none=>
  cases z:qJ (aX p) (aX p).aW p.funcs with
  |error a=>simp_all [rJ]|ok bs=>
   cases m:pM p with
   |some a=>simp_all [rJ]|none=>
    cases O:jR p with
    |true=>simp_all [rJ]|false=>
     cases g:yJ [] [] 0 (aX p).aW bs with
     |error a=>simp_all [rJ,mkV]|ok y=>
      obtain⟨cs,ss⟩:=y;have k:Hd.CQ (aX p):=Wd l (tQ.Ou O);obtain⟨all,n,q⟩:=Ri k (by simp[aX]) z rfl (cs:=[]) (ss:=[]) (all:=0) ⟨λj c h=>by simp at h,λs h=>by simp at h,by simp,rfl,by simp⟩ g
      grind [agK,rJ,mkV,oW.Up]
section
variable {H:Hd}{main:Int}{cs:List Cd}{ss:List Sd}{all:Nat}
theorem ad1:dh.iI (oW.sH H main cs ss).aR=cs.map oW.iE:=oW.OQ cs
theorem ad2:dh.ox (oW.sH H main cs ss).aJ=ss.map oW.amq:=oW.OR ss
theorem ajk:(dh.dn (oW.sH H main cs ss).az).length=H.az.length:=by
 show (dh.dn (oW.Zt (H.az.map (·.ty)))).length=_;rw[oW.zY];simp
theorem ayj:(.agg (qc H main cs ss):AV)=ur.xA (oW.sH H main cs ss):=by
 unfold qc;show _=AV.agg [_,_,_,_,_];simp only[oW.sH,oW.shV,oW.Zt,oW.csV,oW.bZ,List.map_map]
 rfl
theorem am6(n:Made H cs ss all):∀g∈dh.iI (oW.sH H main cs ss).aR,(dh.dn g.vars).length<=4000:=by
 intro g O;rw[ad1]at O;obtain⟨c,j,rfl⟩:=ad7.1 O;obtain⟨k,l⟩:=oW.adt j;obtain⟨s,m,h⟩:=n.code k c l;show (dh.dn (oW.Zt c.vars)).length<=_;rw[oW.zY,aes];exact h.nv
theorem asc(n:Made H cs ss all):∀g∈dh.iI (oW.sH H main cs ss).aR,(dh.mF g.jr).length<=2500:=by
 intro g O;rw[ad1]at O;obtain⟨c,h,rfl⟩:=ad7.1 O;show (dh.mF (oW.YU c.is)).length<=_;rw[oW.E1,aes];have:=oW.adu h;have:=n.sum;have:=n.few;omega
theorem Y7(r:Hd.CQ H)(m:Made H cs ss all)(v:cs.length=H.aW.length)(o:jc.mU (oW.sH H main cs ss)=true){fm:AV}(t:mK fm=true)(E:cJ fm=true)(n:Int)(y:n<=1000000)(w L:Nat)(st:aj) :
  (aZ S).call w L 8 [.agg (qc H main cs ss),fm,.int .i64 n] st=some (ur.BK (Gr (oW.sH H main cs ss) (Ax.dI fm) n.toNat),st):=by
 have q:=oW.amu (main:=main) r m v;have M:=am6 (main:=main) m;have K:=asc (main:=main) m;have B:=r.ng;have C:=m.ns;rw[ayj];generalize J:oW.sH H main cs ss=x at *;have z:=λw L st=>jc.RB w L st q (λg h=>by grind) (λg h=>by grind);have D:(ur.xA x).aH=true:=q.pure;unfold Gr;rw[af o];rw[o]at z;obtain⟨k,s,G⟩:=ur.ahM o;rw[s,aeu];have F:(dh.ox x.aJ).length<=60:=by grind [ad2]
 have I:(dh.dn x.az).length<=8:=by grind [ajk]
 exact ur.JU q D t E n z (BJ:=Zw x) (λw L j st _=>jc.By q (λg h=>by grind) (λg h=>by grind) w L j st) (λj=>by
  obtain⟨l,h,_⟩:=jc.RC x j;exact kL h) (by omega) s G (by grind) (by omega) (ur.amu o) (λc h=>by grind) (λc h=>by grind) y w L st
theorem isX(l:Hd.CQ H)(k:jc.mU (oW.sH H main cs ss)=true){bs:List Bd}{fuel:Nat}:qf.IsX (qt (oW.sH H main cs ss) (Zw (oW.sH H main cs ss))) (Ay H bs fuel) cs ss:=by
 have O:∀(j:Nat) (c:Cd),cs[j]?=some c->(qt (oW.sH H main cs ss) (Zw (oW.sH H main cs ss))).aR.getD j iq.C0=oW.iE c:=λj c h=>by
  show (dh.iI (oW.sH H main cs ss).aR).getD j iq.C0=_;rw[ad1,aen,aej,h];rfl
 refine⟨λj c h=>?_,λj c h=>?_,λn s h v w=>?_⟩;rw[O j c h];exact oW.E1 c.is;unfold nt;rw[O j c h];show (dh.dn (oW.Zt c.vars)).length=_;rw[oW.zY,aes];have g:n<ss.length:=(List.getElem?_eq_some_iff.1 h).1;have m:(dh.ox (oW.sH H main cs ss).aJ).length=ss.length:=by rw[ad2,aes]
 have e:(qt (oW.sH H main cs ss) (Zw (oW.sH H main cs ss))).cells.getD n 0=(aY (jc.sG (oW.sH H main cs ss) n)).length:=by
  show ((List.range (dh.ox (oW.sH H main cs ss).aJ).length).map λj=>(aY (Zw (oW.sH H main cs ss) j)).length).getD n 0=_;rw[m,aen,aej,List.getElem?_range g]
  rfl
 rw[e];unfold jc.sG;rw[af ⟨k,by omega,by omega⟩,aeu];unfold jc.wN;rw[ad2,aej,h];show (aY (if 0<s.ty.d then _ else cq 3 (jc.YT (oW.sH H main cs ss) s.ty.r.toNat 1000000000))).length=_;rw[U (by omega),oe];unfold jc.YT;have R:dh.pD (oW.sH H main cs ss).aU=H.bJ.map λs=>⟨s.1,cG s.2⟩:=oW.KL _;rw[R,aej];show _=(H.bJ.map (·.2.length)).getD s.ty.r.toNat 0;rw[aen,aej];cases q:H.bJ[s.ty.r.toNat]? with
 |none=>simp|some t=>
  have o:=l.bJ t (mem_of q)
  grind [oW.It]
end
end U14
namespace U14
open Ax Go aO V7 iQ iZ pX qb
open K9 (eu)
open N7 U7
open S9 (pM)
open tQ (rJ mkV qc jR ZX F9 DL Ip Ga wI)
open Ft (Ay Az Prg Fk BQ)
open iq (MP Ms pW m0 nt)
open ur (qt Zw Gr nA)
theorem am7(l:List Int):BQ l=nA l:=rfl
structure Mk (p:Pg)(cs:List Cd)(ss:List Sd)(all:Nat)(bs:List Bd):Prop where
 hF:Hd.CQ (aX p)
 hM:Made (aX p) cs ss all
 hl:cs.length=(aX p).aW.length
 hr:jc.mU (oW.sH (aX p) (eu p) cs ss)=true
 hS:pM p=none
 hR:qJ (aX p) (aX p).aW p.funcs=.ok bs
 hm:yJ [] [] 0 (aX p).aW bs=.ok (cs,ss)
section
variable {p:Pg}{cs:List Cd}{ss:List Sd}{all:Nat}{bs:List Bd}
theorem ad3(g:F9 p)(h:Mk p cs ss all bs):∃k:Nat,eu p=k/\k<bs.length:=by
 obtain⟨_,j,l⟩:=Sa g (fuel:=0) (by omega) h.hS h.hR
 grind
theorem am8(h:Mk p cs ss all bs)(l:List Int)(n:Nat):Az p l n=run (Ay (aX p) bs n) (eu p) l:=by
 unfold Az;rw[h.hS];simp only;rw[h.hR]
theorem asd(h:Mk p cs ss all bs)(n M:Nat)(g:∀f∈p.funcs,Sm.eD f.body<=M):qf.KP (qt (oW.sH (aX p) (eu p) cs ss) (Zw (oW.sH (aX p) (eu p) cs ss))) (Ay (aX p) bs n) (yQ (aX p)) (aX p) cs M/\qf.TP (Ay (aX p) bs n) (yQ (aX p)):=
 qf.ar5 h.hF (by simp[aX]) h.hR h.hm (isX h.hF h.hr) rfl rfl g
theorem am9(j:F9 p)(h:Mk p cs ss all bs)(l:List Int)(n:Nat):∃k:Nat,eu p=k/\k<bs.length/\Gr (oW.sH (aX p) (eu p) cs ss) l n=pW (qt (oW.sH (aX p) (eu p) cs ss) (Zw (oW.sH (aX p) (eu p) cs ss))) n (m0 (qt (oW.sH (aX p) (eu p) cs ss) (Zw (oW.sH (aX p) (eu p) cs ss))) k l):=by
 obtain⟨k,m,g⟩:=ad3 j h;refine⟨k,m,g,?_⟩;unfold Gr;rw[af h.hr];show pW _ n (m0 _ (eu p).toNat l)=_
 grind
theorem ad4(g:F9 p)(h:Mk p cs ss all bs)(l:List Int)(n:Nat) :
  ((Az p l n).e=3->∃r,(Gr (oW.sH (aX p) (eu p) cs ss) l (3*n+10)).out=(Az p l n).out++r)/\
  ((Az p l n).e≠3->(Gr (oW.sH (aX p) (eu p) cs ss) l (3*n+10)).e=(Az p l n).e/\(Gr (oW.sH (aX p) (eu p) cs ss) l (3*n+10)).code=(Az p l n).code/\
   (Gr (oW.sH (aX p) (eu p) cs ss) l (3*n+10)).out=(Az p l n).out):=by
 obtain⟨k,j,G,m⟩:=am9 g h l (3*n+10);obtain⟨K,T⟩:=asd h n 12010 g.Jx;have E:=am8 h l n;rw[j]at E;rw[m,E];exact qf.ar4 K T ajk G l (3*n+10) rfl (WX _ _ _).2.1
end
theorem ad5{p:Pg}(m:F9 p):(∃e a:Int,e≠0/\rJ p=.eY [ZX,.agg [.int .i64 e,.int .i64 a]])\/
  ∃cs ss all bs,rJ p=.eY [.agg (qc (aX p) (eu p) cs ss),.agg [.int .i64 0,.int .i64 0]]/\Mk p cs ss all bs:=by
 rcases UH m with h|⟨cs,ss,all,bs,g,j,k,l,V,z,Y,n⟩;exact .inl h;exact .inr ⟨cs,ss,all,bs,g,⟨j,k,l,V,z,Y,n⟩⟩
theorem Y8{a b r:List Int}(h:b=a++r):(decide (a.length<=b.length)&&decide (a=b.take a.length))=true:=by
 rw[h];simp
theorem ah6(p:Pg)(l:List Int)(n:Nat):(Az p l n).out.length<=n:=by
 unfold Az;split;simp[Fk];split;simp[Fk];exact(WX _ _ _).1
theorem Y9(s:List UInt8){fm:AV}(y:mK fm=true)(z:cJ fm=true)(n:Int):∃G,(aZ S).call 0 0 4 [.str s,fm,.int .i64 n] []=some (.bool true,G):=by
 refine⟨[],?_⟩;have h:=eA y;have t:=bT z h;have q:=cY y;have hpi:=eC h;have K:=λw L st=>aaH (sf:=s10) rfl rfl rfl ur.amR w L st;have g:=λw L st=>agA w L s st;have Z:=DL s;have m:=λw L st=>K2.ag3 w L (rI s).1 st (aiO Z.inn) (aiP Z.inn) (Ip Z) (Ga Z);have o:=λn hn w L st=>ad0 Z y z n hn w L st;have Q:=ad5 Z;refine bE (sf:=s4) rfl rfl (by simp_all) rfl rfl ?_;generalize hP:rI s=P at *;obtain⟨p,N,fa⟩:=P;simp only at g Z o m Q;have R:bf (aM 3 (p.aU.map Rc.aI))=true:=bL;have k:(aM 3 (p.aU.map Rc.aI)).ai=aM 3 (p.aU.map Rc.aI):=bU;have F:bf (aM 7 (p.funcs.map Fc.aI))=true:=bL;have j:(aM 7 (p.funcs.map Fc.aI)).ai=aM 7 (p.funcs.map Fc.aI):=bU;have V:bf (aM 4 (p.az.map PD.cells))=true:=bL;have W:(aM 4 (p.az.map PD.cells)).ai=aM 4 (p.az.map PD.cells):=bU;unfold Pg.aI at g o m;generalize aM 3 (p.aU.map Rc.aI)=PR,aM 7 (p.funcs.map Fc.aI)=PF,aM 4 (p.az.map PD.cells)=PG at *;by_cases C:(4000:Int)<(s.length:Int);simp[s4,g,R,k,F,j,V,W,ay,AV.ai,C];by_cases ce:¬N=0;simp[s4,g,R,k,F,j,V,W,ay,AV.ai,C,ce];have ce:N=0:=Decidable.byContradiction ce;subst ce;by_cases c1:(100:Int)<((Ax.dI fm).length:Int);simp[s4,g,R,k,F,j,V,W,ay,AV.ai,C,h,t,q,c1];by_cases c2:n<0;simp[s4,g,R,k,F,j,V,W,ay,AV.ai,C,h,t,q,c1,c2];by_cases c3:3000<n;simp[s4,g,R,k,F,j,V,W,ay,AV.ai,C,h,t,q,c1,c2,c3];rcases Q with⟨e,a,he,D⟩|⟨cs,ss,all,bs,D,x⟩;rw[D]at m;simp[s4,g,m,R,k,F,j,V,W,ay,AV.ai,AV.cC,C,h,t,q,c1,c2,c3,he,K];rw[D]at m;obtain⟨a,rfl⟩:∃a:Nat,n=a:=⟨n.toNat,by omega⟩;have U:IntKind.i64.wrap (3*(a:Int))=3*(a:Int):=by rw[dY]<;>omega
 have xx:IntKind.i64.wrap (3*(a:Int)+10)=3*(a:Int)+10:=by rw[dY]<;>omega
 have T:=o a (by omega);have Y:=λw L st=>Y7 x.hF x.hM x.hl x.hr y z (3*(a:Int)+10) (by omega) w L st;rw[aeu]at T;rw[show (3*(a:Int)+10).toNat=3*a+10 by omega]at Y;have o1:=ah6 p (Ax.dI fm) a;have va:∀l,(nA l).ai=nA l:=λl=>by unfold nA;split<;>rfl
 have M:∀l,(nA l).cM=true:=λl=>by unfold nA;split<;>rfl
 obtain⟨m3,mn⟩:=ad4 Z x (Ax.dI fm) a;have J:=λw L st=>ur.Y4 w L (Az p (Ax.dI fm) a).out (Gr (oW.sH (aX p) (eu p) cs ss) (Ax.dI fm) (3*a+10)).out (by omega) st;have I:=λw L st=>ur.Cr w L (ur.Gp (Az p (Ax.dI fm) a).out).1 (ur.Gp (Gr (oW.sH (aX p) (eu p) cs ss) (Ax.dI fm) (3*a+10)).out).1 (by rw[(ur.Gp _).2];omega) st;simp only[(ur.Gp _).2]at I;unfold Ft.BK at T;unfold ur.BK at Y;simp only[am7]at T;have q1:bf (aM 2 ((aX p).bJ.map fQ))=true:=bL;have q2:(aM 2 ((aX p).bJ.map fQ)).ai=aM 2 ((aX p).bJ.map fQ):=bU;have X:bf (aM 3 ((aX p).az.map (λv=>v.ty.cells)))=true:=bL;have q4:(aM 3 ((aX p).az.map (λv=>v.ty.cells))).ai=aM 3 ((aX p).az.map (λv=>v.ty.cells)):=bU;have q5:bf (aM 7 (cs.map Cd.aI))=true:=bL;have q6:(aM 7 (cs.map Cd.aI)).ai=aM 7 (cs.map Cd.aI):=bU;have q7:bf (aM 4 (ss.map Sd.aI))=true:=bL;have q8:(aM 4 (ss.map Sd.aI)).ai=aM 4 (ss.map Sd.aI):=bU;unfold qc at m Y;generalize Gr (oW.sH (aX p) (eu p) cs ss) (Ax.dI fm) (3*a+10)=B,Az p (Ax.dI fm) a=A,aM 2 ((aX p).bJ.map fQ)=X1,aM 3 ((aX p).az.map (λv=>v.ty.cells))=X2,aM 7 (cs.map Cd.aI)=X3,aM 4 (ss.map Sd.aI)=X4 at *;by_cases E:A.e=3;obtain⟨r,hr⟩:=m3 E;have hb:=Y8 hr;simp only[hb]at J;simp[s4,g,m,R,k,F,j,V,W,q1,q2,X,q4,q5,q6,q7,q8,ay,AV.ai,AV.cC,C,h,t,q,c1,c2,c3,K,T,U,xx,Y,bH,cut,aD,aC,E,va,M,J];obtain⟨m1,m2,O⟩:=mn E;rw[O]at I;simp only[decide_true]at I;rw[m1,m2,O]at Y;simp[s4,g,m,R,k,F,j,V,W,q1,q2,X,q4,q5,q6,q7,q8,ay,AV.ai,AV.cC,C,h,t,q,c1,c2,c3,K,T,U,xx,Y,bH,cut,aD,aC,E,va,M,I]
end U14
