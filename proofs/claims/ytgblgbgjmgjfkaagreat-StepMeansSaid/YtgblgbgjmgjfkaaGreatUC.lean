/- Part of a proof. -/
import Derived.Test.YtgblgbgjmgjfkaaGreatUB

open List renaming getElem?_eq_getElem->aas,getElem_mem->acH,replicate->acp,range->aiI,getElem?_eq_none->aeQ
open Bool renaming true_and->agC,and_self->ah8
set_option maxRecDepth 100000
set_option maxHeartbeats 4000000
namespace ur
open Ax Go aO dh iq
variable {x:XD}{cl:AV}{ah:Nat}{m:Ms}{I:uF}{st st':aj}{f:Fr}{l:List Fr}{i:ID}{X:MP}
theorem amM{ah f:Nat}{k:Int}{E:List (AV×AV)}{st:aj}{B:bK}:bz 0 ah (.mapUpdate .int) [.val (.map st.length),.val (.int .i64 k),.val (.fn f [] [])] (st++[.map E]) B =
  match IF .int (.int .i64 k) (.fn f [] []) E with|some z=>some (.none,st++[.map z],B)|none=>none:=by
 simp[bz,LH,bu,AV.aB,AV.aH,AV.ai];cases IF SK.int (AV.int IntKind.i64 k) (AV.fn f [] []) E<;>rfl
theorem ahF{w ah:Nat}{st:aj}{B:bK}:bz w ah .makeMap [] st B=some (.val (.map st.length),st++[.map []],B):=rfl
theorem adH(L:Nat)(st:aj):(aZ S).call 0 L 19 [] st=some (.map st.length,st++[.map UB]):=by
 refine aG (sf:=s19) rfl rfl rfl ?_;simp[s19,UB,ahF,amM,IF,K5]
def xA(x:XD):AV:=.agg [x.aU,x.az,x.aR,x.aJ,.int .i64 x.main]
end ur
namespace ur
open Ax Go aO dh iq
variable {x:XD}{cl:AV}{ah:Nat}{m:Ms}{I:uF}{st st':aj}{f:Fr}{l:List Fr}{i:ID}{X:MP}
structure Hi (x:XD)(cl:AV)(X:MP)(p:Nat)(m:Ms)(I:uF)(st:aj):Prop where
 yb:dL x cl 0 m I st
 ok:KK X m
 p:I.p=p
def mz(x:XD):List AV:=[x.aU,x.az,x.aR,x.aJ,.int .i64 x.main]
def ebx(x:XD)(b1 B:List AV):bK:=[mz x,b1,B]
theorem ahG(k:Nat)(h:1<=k)(H:k<=20):yd .int (.int .i64 (k:Nat)) UB=some (some (.fn (49+k) [] [])):=by
 have:k=1\/k=2\/k=3\/k=4\/k=5\/k=6\/k=7\/k=8\/k=9\/k=10\/k=11\/k=12\/k=13\/k=14\/k=15\/k=16\/k=17\/k=18\/k=19\/k=20:=by omega
 rcases this with rfl|rfl|rfl|rfl|rfl|rfl|rfl|rfl|rfl|rfl|rfl|rfl|rfl|rfl|rfl|rfl|rfl|rfl|rfl|rfl<;>rfl
theorem OZ{rs:List jv}{Q:Ex->St->Prop}{K:List uQ}(O:Of x cl X)(hX:XOk X)(Y:∀c∈iI x.aR,(mF c.jr).length<1000000){fuel:Int}(hfu:fuel<=1000000){p:Nat}{b1:List AV}{y:Ms}
  (hK:∀I' st' B,dL x cl 0 y I' st'->I'.p=p->W S 0 0 rs Q K .normal ⟨[(6,.fp 1 0),(7,.val (.ptr p 0 0 0))],ebx x b1 B,st'⟩)
  (B:List AV) (h:Hi x cl X p m I st) (J:(m.aK:Int)<=max fuel 0) (w:pW X (fuel.toNat-m.aK) m=y) :
  W S 0 0 rs Q (.code (.loop abn)::.kC 2::K) .normal ⟨[(2,.val (.int .i64 fuel)),(3,.fp 0 0),(6,.fp 1 0),(7,.val (.ptr p 0 0 0))],ebx x b1 B,st⟩:=by
 refine bN abn.eq_1 (λq:Ms×uF×aj×List AV=>⟨[(2,.val (.int .i64 fuel)),(3,.fp 0 0),(6,.fp 1 0),(7,.val (.ptr p 0 0 0))],ebx x b1 q.2.2.2,q.2.2.1⟩)
  (λq=>Hi x cl X p q.1 q.2.1 q.2.2.1/\(q.1.aK:Int)<=max fuel 0/\pW X (fuel.toNat-q.1.aK) q.1=y) (λq=>fuel.toNat-q.1.aK) (m,I,st,B) rfl ⟨h,J,w⟩ ?_
 clear h J w;rintro⟨m,I,st,B⟩ ⟨h,J,w⟩ ih;simp only at h J w ih ⊢;have z:=h.yb;have hP:=z.P;have hpp:=h.p;subst hpp;by_cases H:m.e=0
 ·by_cases iH:(m.aK:Int)<max fuel 0
  ·have bP:¬((if fuel<0 then 0 else fuel)<=(m.aK:Int)):=(by grind);obtain⟨n,hn⟩:∃n,fuel.toNat-m.aK=n+1:=⟨fuel.toNat-m.aK-1,by omega⟩;rw[hn]at w;simp only[pW,af H]at w;cases G:m.l with
   |nil=>exact au G (h.ok.e H)|cons f l=>
   have Jy:=oL hX h.ok H;have C5:=h.ok.l;rw[G,oz]at C5;obtain⟨j,Mi⟩:=C5;obtain⟨k,E,t,hi⟩:=Wn j;obtain⟨yT,_⟩:=hX.yT f.f j.fo k E;rw[<-hi]at yT;have v:=O.ok.aR;have F:f.f<(iI x.aR).length:=(by rw[<-O.aR];exact j.fo);have hcg:X.aR.getD f.f C0=(iI x.aR)[f.f]:=(by rw[O.aR,List.getD_eq_getElem?_getD,aas F];rfl);have V:=rC v _ (acH F);have Ld:=Y _ (acH F);have vR:k<(mF (iI x.aR)[f.f].jr).length:=(by grind);have Zf:oy X f=(mF (iI x.aR)[f.f].jr)[k]:=(by grind);obtain⟨ee,r⟩:=KF V.2 _ (acH vR);rw[<-Zf]at ee r;have hdp:=h.ok.d;obtain⟨L,vk⟩:∃s,s=st.set I.p (.rows 0 15 [iT x cl I.s I.iv I.g (.mu I.fq I.fv) I.mp m.e m.code (if m.out=[] then .aF else .mu I.o I.ov) (m.aK+1)]):=⟨_,rfl⟩;have C:dL x cl 0 { m with aK:=m.aK+1 } I L:=(by rw[vk];exact z.aI { m with aK:=m.aK+1 } I.iv rfl rfl rfl rfl z.iv);have GN:({ m with aK:=m.aK+1 }:Ms).l=f::l:=G;obtain⟨a,b,ha,t1,t2,_⟩:=C.Zu GN;have ht:=λwl li=>Gn wl li C ha (show m.l.length<=1000 by omega);have P1:=C.P;obtain⟨s2,Al⟩:∃s,s=L.set a.1 (.rows 0 4 [qG { f with at_:=f.at_+1 } a.2]):=⟨_,rfl⟩;have R:=C.place GN (f.at_+1) ha;rw[<-Al]at R;have N:=R.P;have M2:=R.M;have ej:mB { m with aK:=m.aK+1 } (f.at_+1)={ m with aK:=m.aK+1,l:={ f with at_:=f.at_+1 }::l }:=by
    grind [mB]
   rw[ej]at R N;have es:kR X { m with aK:=m.aK+1 }=pF X { m with aK:=m.aK+1,l:={ f with at_:=f.at_+1 }::l } f.vs (oy X f):=by
    grind [kR]
   have hso:=h.ok.s;have hoo:=h.ok.o;rw[G]at hdp;have D:=arQ (f:={ f with at_:=f.at_+1 }) (l:=l) (i:=oy X f) (ni:=EX X f.f) O R rfl (by grind) (by grind) (by grind) (by simp only;rw[j.vo];exact yT) r ee h.ok.g ?_;obtain⟨s3,I3,l3,c3,p3,r3⟩:=D;have c4:=c3 0 (Nat.le_refl _);rw[<-es]at r3;have axz:(kR X { m with aK:=m.aK+1 }).aK=m.aK+1:=Wq.st;have tE:=ih (kR X { m with aK:=m.aK+1 },I3,s3,(oy X f).cells) ⟨⟨r3,Jy,p3⟩,by grind,by simp only[axz];rw[show fuel.toNat-(m.aK+1)=n by omega];exact w⟩ (by grind);have cs:=Bv v;have cv:=Cq v;have crl:=nJ v;have nS:=Bu V.2;have nV:=zR V.2;have nL:=Is V.2;have aS:=eA r;have aV:=bT ee aS;have Uc:=wk m.aK (by omega);have xx:IntKind.i64.wrap (f.at_+1)=f.at_+1:=(by rw[dY]<;>omega);have qv:(mF (iI x.aR)[f.f].jr)[k].cells=(oy X f).cells:=(by rw[Zf]);generalize oy X f=ii at *;simp only[iT]at vk P1 N;have Z:st.set I.p (.rows 0 15 [[x.aU,x.az,x.aR,x.aJ,.int .i64 x.main,cl,.ptr I.s 0 0 0,I.iv,.mu I.g 0,.mu I.fq I.fv,.map I.mp,.int .i64 0,.int .i64 m.code,(if m.out=[] then .aF else .mu I.o I.ov),.int .i64 ((m.aK:Int)+1)]])=L:=(by grind);clear vk;simp[ebx,hP,iT,cut,H,bP,bu,AV.aB,AV.aH,ay,Uc,Z,ht];rw[dX];refine⟨rfl,?_⟩;simp[mz,v,V,cv,crl,F,t1,qG,cut,CD.cells,nV,nL,t,vR,qv];have axB:L.set a.1 (.rows 0 4 [[.int .i64 f.f,.int .i64 ((k:Int)+1),.mu a.2 0,.int .i64 f.to]])=s2:=(by rw[Al,<-t];rfl);have hw3:IntKind.i64.wrap ((k:Int)+1)=(k:Int)+1:=(by grind);have CM:=yT.op;have axC:ii.op=((ii.op.toNat:Nat):Int):=(by omega);have T:=ahG ii.op.toNat (by omega) (by omega);rw[<-axC]at T;have hlk:∀bx,bz 0 0 (.lookup .int .je false) [.val (.map I.mp),.val (.int .i64 ii.op)] s2 bx=some (.val (.fn (49+ii.op.toNat) [] []),s2,bx):=λbx=>by
    simp only[bz,M2,LH,bh,T]
    rfl
   have M3:ii.cells=[.int .i64 ii.op,.int .i64 ii.a,.int .i64 ii.b,.int .i64 ii.c,.int .i64 ii.n,ii.args]:=rfl;rw[M3]at c4 tE;simp[M3,aS,aV,t1,qG,cut,t,hw3,bu,AV.aB,AV.aH,ay,axB,aD,aC,N,hlk,c4];exact afx.2 tE;simp only;by_cases q:f.to = -1;exact .inl q;refine .inr λg l' e=>?_;subst e;obtain⟨q1,q2⟩:=Mi;rw[oz]at q2;rcases q1 with q1|q1
   grind
   rw[q2.1.vo];exact q1
  have h0:fuel.toNat-m.aK=0:=by omega
  rw[h0]at w;have hge:(if fuel<0 then 0 else fuel)<=(m.aK:Int):=by grind
  have j:y={ m with e:=3 }:=by simp_all [pW]
  have hR3:=z.aI { m with e:=3 } I.iv rfl rfl rfl rfl z.iv;subst j;have E:=hK _ _ B hR3 rfl;simp only[iT]at E;simp[ebx,hP,iT,cut,H,hge,bu,AV.aB,AV.aH,ay];exact E
 have j:y=m:=by
  rw[<-w];cases fuel.toNat-m.aK with
  |zero=>simp only[pW,U H]|succ n=>simp only[pW,U H]
 simp[ebx,hP,iT,cut,H];subst j;exact hK I st B z rfl
end ur
namespace ur
open Ax Go aO dh iq
variable {x:XD}{cl:AV}{ah:Nat}{m:Ms}{I:uF}{st st':aj}{f:Fr}{l:List Fr}{i:ID}{X:MP}
@[simp]theorem aon(s:Nat)(r:List (List AV)):AV.cells (.raw s r)=[.raw s r]:=rfl
@[simp]theorem amP(s:Nat)(r:List (List AV)):AV.cM (.raw s r)=true:=rfl
mutual
theorem mw:∀a:AV,a.cU a=true
 |.undef|.gone|.eP|.aF|.gu|.je|.lz|.oI=>rfl|.bool b=>by simp[AV.cU]|.int k n=>by simp[AV.cU]|.str l=>by simp[AV.cU]|.agg l=>by simp only[AV.cU];exact fj l|.eY l=>by simp only[AV.cU];exact fj l|.dV s r=>by simp only[AV.cU,beq_self_eq_true,agC];exact eW r|.ju s r=>by simp only[AV.cU,beq_self_eq_true,agC];exact eW r|.raw s r=>by simp only[AV.cU,beq_self_eq_true,agC];exact eW r|.mu i v=>by simp[AV.cU]|.ptr a b c d=>by simp[AV.cU]|.tM s a i k=>by simp only[AV.cU,beq_self_eq_true,agC,Bool.and_true];exact eW a|.map i=>by simp[AV.cU]|.fn f a b=>by simp only[AV.cU,beq_self_eq_true,agC,Bool.and_eq_true];exact⟨fj a,fj b⟩
theorem fj:∀l:List AV,AV.uw l l=true
 |[]=>rfl|a::l=>by simp only[AV.uw,mw a,fj l,ah8]
theorem eW:∀l:List (List AV),AV.qK l l=true
 |[]=>rfl|a::l=>by simp only[AV.qK,fj a,eW l,ah8]
end
theorem ahH{O p r:dJ}{j g S h y c q Y k n E b1 B o z:AV}{bx:bK} :
  bz 0 0 (.load false 1 true) [.val (.ptr 2 0 0 5)] [O,p,.rows 0 15 [[j,g,S,h,y,c,q,Y,k,n,E,b1,B,o,z]],r] bx =
   some (.val c,[O,p,.rows 0 15 [[j,g,S,h,y,c.gi,q,Y,k,n,E,b1,B,o,z]],r],bx):=by
 simp[bz,gm,cut,bH,fR,bu,ay]
theorem Y3(L p:Nat)(k:x.ok){C c6 c7 c8 c9 d0 D g h j:AV}(Y:st[p]?=some (.rows 0 15 [[x.aU,x.az,x.aR,x.aJ,.int .i64 x.main,C,c6,c7,c8,c9,d0,D,g,h,j]])){c:Nat}(H:c<(iI x.aR).length)(w:(dn (iI x.aR)[c].vars).length<1000000)(to:Int) :
  (aZ S).call 0 L 21 [.ptr p 0 0 0,.int .i64 c,.int .i64 to] st =
   some (.ptr (st.length+1) 0 0 0,st++[.rows 0 1 (aP (acp (dn (iI x.aR)[c].vars).length 0)),.rows 0 4 [qG ⟨c,0,to,[]⟩ st.length]]):=by
 have s:=k.aR;have t:=Bv s;have K:=Cq s;have o:=nJ s;have v:=rC s _ (acH H);have n:=pz v.1;have r:=oN v.1;have y:=lE v.1;have q:((dn (iI x.aR)[c].vars).length:Int)*8<=cZ:=by unfold cZ;omega
 have hint:acp (dn (iI x.aR)[c].vars).length [AV.int .i64 0]=aP (acp (dn (iI x.aR)[c].vars).length 0):=by simp[aP]
 refine aG (sf:=s21) rfl rfl rfl ?_;simp_all [s21,CD.cells,qG]
theorem ahI{ah a b:Nat}{st:aj}{B:bK}(h:st[b]?=some (.rows 0 1 [[.ptr a 0 0 0]])) :
  bz 0 ah (.jH 1 8) [.val .aF,.val (.mu b 0)] st B=some (.val (.mu st.length 0),st++[.rows 0 1 [[.ptr a 0 0 0]]],B):=by
 simp[bz,tR,dG,fA,h,cr,AV.cC,AV.ai,cZ]
theorem ahJ{ah a:Nat}{o O q g h j:dJ}{bx:bK} :
  bz 0 ah (.jH 1 8) [.val .aF,.val (.mu 6 0)] [o,O,q,g,h,j,.rows 0 1 [[.ptr a 0 0 0]]] bx=some (.val (.mu 7 0),[o,O,q,g,h,j,.rows 0 1 [[.ptr a 0 0 0]],.rows 0 1 [[.ptr a 0 0 0]]],bx):=
 ahI rfl
theorem pY{wl:Nat}:∀(l:List Int)(st:aj),jV wl (aP l) st=some (aP l,st)
 |[],st=>rfl|n::l,st=>by
  have g:=pY (wl:=wl) l st;simp only[aP,List.map_cons]at *;simp[jV,lB,mM,AV.aH,AV.ai,g]
def nA(l:List Int):AV:=if l=[] then .aF else .dV 1 (aP l)
theorem O1(h:dL x cl ah m I st):∃st',qM 0 (if m.out=[] then .aF else .mu I.o I.ov) st=some (nA m.out,st')/\st'[I.p]?=st[I.p]?/\st'.length=st.length:=by
 unfold nA;by_cases q:m.out=[];rw[af q,af q];exact⟨st,rfl,rfl,rfl⟩;rw[U q,U q];have g:=h.O q;have M:(aP m.out).isEmpty=false:=by
  cases j:m.out with
  |nil=>exact au j q|cons a b=>rfl
 have H:I.o≠I.p:=BH (h.lo q) h.lp (by decide);refine⟨st.set I.o (.rows (I.ov+1) 1 []),?_,List.getElem?_set_ne H,by simp⟩;show jw 0 (.mu I.o I.ov) st=_;simp only[jw,g,M,pY];simp
theorem MF(l:List Int):(nA l).aH=true:=by
 unfold nA;split<;>rfl
def qt(x:XD)(BJ:Nat->AV):MP:=⟨iI x.aR,(aiI (ox x.aJ).length).map λj=>(aY (BJ j)).length,(dn x.az).length⟩
def BK(m:Ms):AV:=.agg [.int .i64 m.e,.int .i64 m.code,nA m.out,.int .i64 m.aK]
def amQ(j:Nat):Lb:=if j=0 then .st else if j=1 then .mp else if j=2 then .p else if j=3 then .g else if j=4\/j=5 then .fr else if j=7 then .fs else .no
theorem JU(h:x.ok)(hp:(xA x).aH=true){fm:AV}(hi:mK fm=true)(V:cJ fm=true)(fuel:Int)(hR:∀wl o st,(aZ S).call wl o 17 [xA x] st=some (.bool true,st))
  {BJ:Nat->AV}(Z:∀wl o k st,k<(ox x.aJ).length->(aZ S).call wl o 20 [xA x,.int .i64 (k:Nat)] st=some (BJ k,st))(z:∀k,bf (BJ k)=true)(hns:(ox x.aJ).length<1000000)
  {mk:Nat} (N:x.main=mk) (H:mk<(iI x.aR).length) (C:(dn (iI x.aR)[mk].vars).length<1000000)
  (hng:(dn x.az).length<1000000) (hX:XOk (qt x BJ)) (Dq:∀c∈iI x.aR,(dn c.vars).length<1000000) (Y:∀c∈iI x.aR,(mF c.jr).length<1000000) (B:fuel<=1000000) (wl o:Nat) (st:aj) :
  (aZ S).call wl o 8 [xA x,fm,.int .i64 fuel] st=some (BK (pW (qt x BJ) fuel.toNat (m0 (qt x BJ) mk (dI fm))),st):=by
 have hr:(BK (pW (qt x BJ) fuel.toNat (m0 (qt x BJ) mk (dI fm)))).aH=true:=by
  simp only[BK,AV.aH,AV.aB,MF,ah8]
 generalize wL:pW (qt x BJ) fuel.toNat (m0 (qt x BJ) mk (dI fm))=O at *;have J:=eA hi;have hv:=bT V J;have hT:=h.az;have U:=pz h.az;have G:=oN h.az;have gl:=lE h.az;have rs:=KE h.aU;have R:=OJ h.aU;have T:=Bv h.aR;have cv:=Cq h.aR;have M:=KG h.aJ;have w:=OK h.aJ;have sl:=zT h.aJ;have tb:=λo st=>adH o st;have nw:=λwl o st=>wT.amF wl o st;unfold xA at hR hp Z ⊢;have D:((dn x.az).length:Int)*8<=cZ:=by unfold cZ;omega
 have hpi:=eC J;refine bE (sf:=s8) rfl rfl (by simp_all) rfl hr ?_;simp[s8,hR,rs,R,T,cv,U,G,M,w];rw[gO];simp[cR,eR,cw,di,fZ.bM,J,rs,R,T,cv,U,G,gl,M,w,nw,tb,D,AV.aB,AV.aH,ay];refine⟨_,_,⟨rfl,rfl⟩,?_⟩;simp[fz.cU,AV.cU,U];refine⟨by grind,?_⟩;rw[DE];have fG:acp (dn x.az).length [AV.int .i64 0]=aP (acp (dn x.az).length 0):=by simp[aP]
 rw[fG];refine⟨2,0,0,0,_,.mu 3 0,_,_,rfl,rfl,rfl,rfl,?_⟩;simp[ay,M,w,sl];generalize qI:uQ.code (aT.seq (aT.region _ (some [(4,8),(4,9)]) _) _)=K;refine bN aiG.eq_1 (λk:Nat=>⟨[(2,.val (.int .i64 fuel)),(3,.fp 0 0),(6,.fp 1 0),(7,.val (.ptr 2 0 0 0)),(27,.val (.int .i64 (ox x.aJ).length)),(28,.val (.int .i64 k))],
   [[x.aU,x.az,x.aR,x.aJ,.int .i64 x.main],[.int .i64 0,.int .i64 0,.aF,.int .i64 0],[]],
   [.rows 0 1 [[.aF]],.map UB,.rows 0 15 [[x.aU,x.az,x.aR,x.aJ,.int .i64 x.main,cq 1 (aP ((aiI k).map λj=>((aY (BJ j)).length:Int))),.ptr 0 0 0 0,fm,.mu 3 0,.aF,.map 1,.int .i64 0,.int .i64 0,.aF,.int .i64 0]],
    .rows 0 1 (aP (acp (dn x.az).length 0))]⟩)
  (λk=>k<=(ox x.aJ).length) (λk=>(ox x.aJ).length-k) 0 (by simp[cq,aP]) (by simp) ?_
 intro k hk ih;by_cases F:k<(ox x.aJ).length;have hw:=wk k (by omega);have c1:=λwl o st=>Z wl o k st F;have c2:=z k;have sR:v8 1 8 (cq 1 (aP ((aiI k).map λj=>((aY (BJ j)).length:Int)))) [[.int .i64 ((aY (BJ k)).length:Int)]]=some (cq 1 (aP ((aiI (k+1)).map λj=>((aY (BJ j)).length:Int)))):=by
  rw[gP (by rfl) (by simp[cZ];omega),List.range_succ];simp[aP]
 generalize hL:cq 1 (aP ((aiI k).map λj=>((aY (BJ j)).length:Int)))=L at *;simp[F];rw[gO];simp[-aE,ahH,cR,eR,cw,bu,di,fZ.bM,R,cv,G,w,c1,c2,sR,cut,ay,AV.aB,AV.aH];refine⟨_,_,⟨rfl,rfl⟩,?_⟩;simp[c1,c2,mw,AV.ai,fz.cU,AV.cU,hw];exact ih (k+1) (by omega) (by omega);have gW:k=(ox x.aJ).length:=by omega
 simp[F];rw[<-qI];have hL:cq 1 (aP ((aiI k).map λj=>((aY (BJ j)).length:Int)))=cq 1 (aP (((aiI (ox x.aJ).length).map λj=>(aY (BJ j)).length).map λn:Nat=>(n:Int))):=by rw[gW,List.map_map];rfl
 rw[hL];have q:Of x (cq 1 (aP (((aiI (ox x.aJ).length).map λj=>(aY (BJ j)).length).map λn:Nat=>(n:Int)))) (qt x BJ):=⟨h,rfl,rfl,Dq⟩;generalize cq 1 (aP (((aiI (ox x.aJ).length).map λj=>(aY (BJ j)).length).map λn:Nat=>(n:Int)))=L at *;have E:=λo=>Y3 (st:=[.rows 0 1 [[.aF]],.map UB,.rows 0 15 [[x.aU,x.az,x.aR,x.aJ,.int .i64 x.main,L,.ptr 0 0 0 0,fm,.mu 3 0,.aF,.map 1,.int .i64 0,.int .i64 0,.aF,.int .i64 0]],
   .rows 0 1 (aP (acp (dn x.az).length 0))]) o 2 h rfl H C (-1)
 simp only[List.length_cons,List.length_nil,List.cons_append,List.nil_append]at E;rw[N]at E ⊢;simp;rw[gO];have la:=λwl ah a st bx=>(adF (wl:=wl) (ah:=ah) (a:=a) (st:=st) (bx:=bx));simp[-rQ,-yz,cR,eR,cw,bu,di,fZ.bM,cut,ay,E,la,ahJ];refine⟨_,_,⟨rfl,rfl⟩,?_⟩;simp[bH,AV.cC,AV.ai,fz.cU,AV.cU];have y:nt (qt x BJ) mk=(dn (iI x.aR)[mk].vars).length:=q.nv H;have R0:dL x L 0 (m0 (qt x BJ) mk (dI fm)) ⟨2,0,0,0,3,7,0,0,0,1,[],[(5,4)],amQ,fm⟩ [.rows 0 1 [[.aF]],.map UB,.rows 0 15 [[x.aU,x.az,x.aR,x.aJ,.int .i64 x.main,L,.ptr 0 0 0 0,fm,.mu 3 0,.mu 7 0,.map 1,.int .i64 0,.int .i64 0,.aF,.int .i64 0]],
   .rows 0 1 (aP (acp (dn x.az).length 0)),.rows 0 1 (aP (acp (dn (iI x.aR)[mk].vars).length 0)),.rows 0 4 [qG ⟨mk,0,-1,[]⟩ 4],.rows 0 1 [[.ptr 5 0 0 0]],.rows 0 1 [[.ptr 5 0 0 0]]]:=by
  refine⟨by simp[iT,m0],⟨hi,V,rfl⟩,?_,by simp[m0,qt],by simp,⟨by simp[qG],by simp[y],trivial⟩,λe=>au rfl e,by simp,rfl,rfl,rfl,λe=>au rfl e,rfl,rfl,λe=>au rfl e,by simp,?_,by simp[kz],λ_ _=>Nat.zero_le _⟩;exact⟨rfl,by simp[m0],λe=>au rfl e,λk hk=>by simp at hk,λe=>au rfl e,by simp,λe=>au rfl e,by simp⟩;intro j hj;simp[kz]at hj;rcases hj with rfl|rfl<;>rfl
 rw[<-N];refine OZ q hX Y B (p:=2) (b1:=[.int .i64 0,.int .i64 0,.aF,.int .i64 0]) (λt st' b2 hF yU=>?_) [] ⟨R0,arC hX H _,rfl⟩ (by simp[m0];omega) (by simpa [m0] using wL);have v:=hF.P;obtain⟨s4,f1,W,f3⟩:=O1 hF;rw[yU]at v W;have l2:2<s4.length:=by rw[f3];exact iU v
 have P4:=W.trans v;have ov:=MF O.out;simp[ebx];rw[DE];obtain⟨s6,r⟩:∃s,s=s4.set 2 (.rows 0 15 [[x.aU,x.az,x.aR,x.aJ,.int .i64 x.main,L,.ptr t.s 0 0 0,t.iv,.mu t.g 0,.mu t.fq t.fv,.map t.mp,.int .i64 O.e,.int .i64 O.code,nA O.out,.int .i64 O.aK]]):=⟨_,rfl⟩;have Q:=List.getElem?_set_self (a:=dJ.rows 0 15 [[x.aU,x.az,x.aR,x.aJ,.int .i64 x.main,L,.ptr t.s 0 0 0,t.iv,.mu t.g 0,.mu t.fq t.fv,.map t.mp,.int .i64 O.e,.int .i64 O.code,nA O.out,.int .i64 O.aK]]) l2;rw[<-r]at Q;have ow:(nA O.out).ai=nA O.out:=by unfold nA;split<;>rfl
 have oc:(nA O.out).cM=true:=by unfold nA;split<;>rfl
 refine⟨2,0,0,0,_,_,s4,s6,rfl,?_,f1,?_,?_⟩;simp[gm,v,iT,cut];simp[fR,P4,iT,bu,ay,r];simp[cut,Q,ow,oc,AV.cC,bH,ay,BK]
end ur
namespace ur
open Ax Go aO dh iq
def cU(a b:List Int)(k:Nat):Prop:=∀j,j<k->a[j]?=b[j]?
theorem adI{a b:List Int}(h:a.length=b.length)(g:cU a b a.length):a=b:=by
 apply List.ext_getElem?;intro j;by_cases H:j<a.length;exact g j H;rw[aeQ (by omega),aeQ (by omega)]
theorem Cr(W y:Nat){a b:AV}(o:mK a=true)(p:mK b=true)(T:(dI a).length<1000000000)(st:aj):(aZ S).call W y 15 [a,b] st=some (.bool (decide (dI a=dI b)),st):=by
 have s:=eA o;have r:=eA p;have z:=DF o;have Z:=DF p;have L:=cY o;have n:=cY p;have P:=eC s;have B:=eC r;refine bE (sf:=s15) rfl rfl (by rw[AV.aB,P,AV.aB,B];rfl) rfl rfl ?_;by_cases H:(dI a).length=(dI b).length;simp[s15,s,r,L,n,H];refine bN abu.eq_1 (λk:Nat=>⟨[(0,.val a),(1,.val b),(5,.val (.int .i64 k))],[],[]⟩)
  (λk=>k<=(dI a).length/\cU (dI a) (dI b) k) (λk=>(dI a).length-k) 0 (by simp) ⟨by omega,λ_ h=>by omega⟩ ?_
 intro k ⟨D,t⟩ w;by_cases F:k<(dI a).length;have M:k<(dI b).length:=by omega
 have v:=wk k (by omega);by_cases g:(dI a)[k]=(dI b)[k];simp[s,z,Z,L,n,M,H,g,v,aD,aC];exact w (k+1) ⟨by omega,λj C=>by
  by_cases e:j=k;subst e;rw[aas F,aas M,g];exact t j (by omega)⟩ (by omega)
 have q:¬dI a=dI b:=λe=>g (by simp only[e]);simp[s,z,Z,L,n,M,H,g,q,aD,aC];have G:k=(dI a).length:=by omega
 have U:dI a=dI b:=adI H (G ▸ t);rw[show decide (dI a=dI b)=true from cz U];simp[s,L,F];have q:¬dI a=dI b:=λe=>H (by rw[e]);simp[s15,s,r,L,n,H,q]
theorem Gp(l:List Int):mK (nA l)=true/\dI (nA l)=l:=by
 unfold nA;by_cases h:l=[];rw[af h,h];exact⟨rfl,rfl⟩;rw[U h];refine⟨?_,?_⟩;simp[mK,aP,cr];simp only[dI,aY];exact Ek l
theorem Y4(w n:Nat)(a b:List Int)(T:a.length<1000000000)(st:aj):(aZ S).call w n 14 [nA a,nA b] st=some (.bool (decide (a.length<=b.length)&&decide (a=b.take a.length)),st):=by
 obtain⟨j,D⟩:=Gp a;obtain⟨g,o⟩:=Gp b;have s:=eA j;have r:=eA g;have L:=cY j;have k:=cY g;have Z:=DF g;rw[D]at L;rw[o]at k;have P:=eC s;have t:=eC r;have v:(nA a).ai=nA a:=by unfold nA;split<;>rfl
 have V:(nA b).ai=nA b:=by unfold nA;split<;>rfl
 refine bE (sf:=s14) rfl rfl (by rw[AV.aB,P,AV.aB,t];rfl) rfl rfl ?_;by_cases h:a.length<=b.length;have O:=Nn (lo:=0) (hi:=a.length) g;have H:dI (rR (nA b) 0 a.length)=b.take a.length:=by rw[akn g,o];simp
 have hi:=λw n st=>Cr w n j O (by rw[D];exact T) st;rw[D,H]at hi;have G:=eA O;have y:(rR (nA b) 0 a.length).ai=rR (nA b) 0 a.length:=by unfold nA;split<;>rfl
 generalize p:nA a=A at *;generalize q:nA b=B at *;simp[s14,s,r,L,k,Z,v,V,h,hi];generalize p:nA a=A at *;generalize q:nA b=B at *;simp[s14,s,r,L,k,v,V,h]
end ur
