/- Part of a proof. -/
import Derived.Test.YtgblgbgjmgjfkaaGreatUB

open List renaming length->Q
open Option renaming some->Z,none->K
open Bool renaming true->Y
open Decidable renaming decide->V
open List renaming getElem?_eq_getElem->aae,getElem_mem->aah,replicate->aag,range->agb,getElem?_eq_none->afl
open Bool renaming true_and->afp,and_self->afH
set_option maxRecDepth 100000
set_option maxHeartbeats 4000000
namespace uJ
open Ax Go aM dW gy
variable {x:XD}{cl:AV}{ai:Nat}{m:Ms}{I:v9}{st st':aO}{f:Fr}{l:List Fr}{i:ID}{X:MP}
theorem aon{ai f k E}{st:aO}{B}:bD 0 ai (.mapUpdate .int) [.val (.map (Q st)),.val (.int .i64 k),.val (.fn f [] [])] (st++[.map E]) B =
  match Jw .int (.int .i64 k) (.fn f [] []) E with|some g=>Z (.none,st++[.map g],B)|none=>K:=by
 simp[bD,Mm,bw,AV.aD,AV.aH,AV.aj];cases Jw SK.int (AV.int IntKind.i64 k) (AV.fn f [] []) E<;>rfl
theorem aiZ{C ai st B}:bD C ai .makeMap [] st B=Z (.val (.map (Q st)),st++[.map []],B):=rfl
theorem aeT(L st):(bh S).call 0 L 19 [] st=Z (.map (Q st),st++[.map Vr]):=by
 refine aG (sf:=s19) rfl rfl rfl ?_;simp[s19,Vr,aiZ,aon,Jw,LQ]
def xA(x:XD):AV:=.agg [x.aR,x.ax,x.aJ,x.aI,.int .i64 x.main]
end uJ
namespace uJ
open Ax Go aM dW gy
variable {x:XD}{cl:AV}{ai:Nat}{m:Ms}{I:v9}{st st':aO}{f:Fr}{l:List Fr}{i:ID}{X:MP}
structure Ii (x:XD)(cl:AV)(X:MP)(p:Nat)(m:Ms)(I:v9)(st:aO):Prop where
 yT:ee x cl 0 m I st
 ok:Ho X m
 p:I.p=p
def nt(x:XD):List AV:=[x.aR,x.ax,x.aJ,x.aI,.int .i64 x.main]
def ebx(x:XD)(b1 B:List AV):jM:=[nt x,b1,B]
theorem ai0(k:Nat)(h:1<=k)(H:k<=20):yW .int (.int .i64 k) Vr=Z (Z (.fn (49+k) [] [])):=by
 have:k=1\/k=2\/k=3\/k=4\/k=5\/k=6\/k=7\/k=8\/k=9\/k=10\/k=11\/k=12\/k=13\/k=14\/k=15\/k=16\/k=17\/k=18\/k=19\/k=20:=by omega
 rcases this with rfl|rfl|rfl|rfl|rfl|rfl|rfl|rfl|rfl|rfl|rfl|rfl|rfl|rfl|rfl|rfl|rfl|rfl|rfl|rfl<;>rfl
theorem PT{rs r j}(O:Of x cl X)(hX:XOk X)(aop:∀c∈fm x.aJ,Q (jo c.fZ)<1000000){fuel:Int}(hfu:fuel<=1000000){p b1 G}(hK:∀I' st' v,ee x cl 0 G I' st'->I'.p=p->W S 0 0 rs r j .normal ⟨[(6,.fp 1 0),(7,.val (.ptr p 0 0 0))],ebx x b1 v,st'⟩)(v)(h:Ii x cl X p m I st)(hs:m.aL<=max fuel 0)(t:oK X (fuel.toNat-m.aL) m=G):
  W S 0 0 rs r (.code (.loop acL)::.lz 2::j) .normal ⟨[(2,.val (.int .i64 fuel)),(3,.fp 0 0),(6,.fp 1 0),(7,.val (.ptr p 0 0 0))],ebx x b1 v,st⟩:=by
 refine bM acL.eq_1 (λq:Ms×v9×aO×List AV=>⟨[(2,.val (.int .i64 fuel)),(3,.fp 0 0),(6,.fp 1 0),(7,.val (.ptr p 0 0 0))],ebx x b1 q.2.2.2,q.2.2.1⟩)
  (λq=>Ii x cl X p q.1 q.2.1 q.2.2.1/\(q.1.aL:Int)<=max fuel 0/\oK X (fuel.toNat-q.1.aL) q.1=G) (λq=>fuel.toNat-q.1.aL) (m,I,st,v) rfl ⟨h,hs,t⟩ ?_
 clear h hs t;rintro⟨m,I,st,v⟩ ⟨h,hs,t⟩ ih;simp only at h hs t ih ⊢;have z:=h.yT;have hP:=z.P;have hpp:=h.p;subst hpp;by_cases B:m.e=0
 ·by_cases iX:(m.aL:Int)<max fuel 0
  ·have bK:¬((if fuel<0 then 0 else fuel)<=(m.aL:Int)):=(by grind);obtain⟨n,hn⟩:∃n,fuel.toNat-m.aL=n+1:=⟨fuel.toNat-m.aL-1,by omega⟩;rw[hn]at t;simp only[oK,af B]at t;cases hl:m.l with
   |nil=>exact bH hl (h.ok.e B)|cons f l=>
   have Kf:=oC hX h.ok B;have DT:=h.ok.l;rw[hl,pG]at DT;obtain⟨H,M0⟩:=DT;obtain⟨k,T,y,hi⟩:=Xs H;obtain⟨zR,_⟩:=hX.zR f.f H.fo k T;rw[<-hi]at zR;have C:=O.ok.aJ;have N:f.f<Q (fm x.aJ):=(by rw[<-O.aJ];exact H.fo);have hcg:X.aJ.getD f.f C0=(fm x.aJ)[f.f]:=(by rw[O.aJ,List.getD_eq_getElem?_getD,aae N];rfl);have J:=mE C _ (aah N);have LZ:=aop _ (aah N);have uS:k<Q (jo (fm x.aJ)[f.f].fZ):=(by grind);have F:pF X f=(jo (fm x.aJ)[f.f].fZ)[k]:=(by grind);obtain⟨eC,w⟩:=FZ J.2 _ (aah uS);rw[<-F]at eC w;have hdp:=h.ok.d;obtain⟨s1,wm⟩:∃s,s=st.set I.p (.rows 0 15 [jl x cl I.s I.iv I.g (.mu I.fq I.fv) I.mp m.e m.code (if m.out=[] then .aF else .mu I.o I.ov) (m.aL+1)]):=⟨_,rfl⟩;have L:ee x cl 0 { m with aL:=m.aL+1 } I s1:=(by rw[wm];exact z.aK { m with aL:=m.aL+1 } I.iv rfl rfl rfl rfl z.iv);have HT:({ m with aL:=m.aL+1 }:Ms).l=f::l:=hl;obtain⟨a,b,ha,t1,t2,_⟩:=L.top HT;have ht:=λwl li=>Hv wl li L ha (show Q m.l<=1000 by omega);have P1:=L.P;obtain⟨s2,E2⟩:∃s,s=s1.set a.1 (.rows 0 4 [rH { f with at_:=f.at_+1 } a.2]):=⟨_,rfl⟩;have R:=L.place HT (f.at_+1) ha;rw[<-E2]at R;have P2:=R.P;have M2:=R.M;have ej:nu { m with aL:=m.aL+1 } (f.at_+1)={ m with aL:=m.aL+1,l:={ f with at_:=f.at_+1 }::l }:=by
    grind [nu]
   rw[ej]at R P2;have es:lP X { m with aL:=m.aL+1 }=qt X { m with aL:=m.aL+1,l:={ f with at_:=f.at_+1 }::l } f.vs (pF X f):=by
    grind [lP]
   have hso:=h.ok.s;have hoo:=h.ok.o;rw[hl]at hdp;have D:=atx (f:={ f with at_:=f.at_+1 }) (l:=l) (i:=pF X f) (ni:=F5 X f.f) O R rfl (by grind) (by grind) (by grind) (by simp only;rw[H.vo];exact zR) w eC h.ok.g ?_;obtain⟨s3,I3,l3,c3,p3,r3⟩:=D;have c4:=c3 0 (Nat.le_refl _);rw[<-es]at r3;have aze:(lP X { m with aL:=m.aL+1 }).aL=m.aL+1:=Xv.st;have uC:=ih (lP X { m with aL:=m.aL+1 },I3,s3,(pF X f).cells) ⟨⟨r3,Kf,p3⟩,by grind,by simp only[aze];rw[show fuel.toNat-(m.aL+1)=n by omega];exact t⟩ (by grind);have cs:=Cp C;have cv:=Di C;have crl:=bR C;have nS:=sF J.2;have nV:=pZ J.2;have nL:=uc J.2;have aS:=dY w;have aV:=bQ eC aS;have UW:=wk m.aL (by omega);have rJ:IntKind.i64.wrap (f.at_+1)=f.at_+1:=(by rw[dg]<;>omega);have qZ:(jo (fm x.aJ)[f.f].fZ)[k].cells=(pF X f).cells:=(by rw[F]);generalize pF X f=ii at *;simp only[jl]at wm P1 P2;have azf:st.set I.p (.rows 0 15 [[x.aR,x.ax,x.aJ,x.aI,.int .i64 x.main,cl,.ptr I.s 0 0 0,I.iv,.mu I.g 0,.mu I.fq I.fv,.map I.mp,.int .i64 0,.int .i64 m.code,(if m.out=[] then .aF else .mu I.o I.ov),.int .i64 ((m.aL:Int)+1)]])=s1:=(by grind);clear wm;simp[ebx,hP,jl,cut,B,bK,bw,AV.aD,AV.aH,aB,UW,azf,ht];rw[bF];refine⟨rfl,?_⟩;simp[nt,C,J,cv,crl,N,t1,rH,cut,CD.cells,nV,nL,y,uS,qZ];have azg:s1.set a.1 (.rows 0 4 [[.int .i64 f.f,.int .i64 ((k:Int)+1),.mu a.2 0,.int .i64 f.to]])=s2:=(by rw[E2,<-y];rfl);have hw3:IntKind.i64.wrap ((k:Int)+1)=(k:Int)+1:=(by grind);have DC:=zR.op;have azh:ii.op=((ii.op.toNat:Nat):Int):=(by omega);have E:=ai0 ii.op.toNat (by omega) (by omega);rw[<-azh]at E;have hlk:∀bx,bD 0 0 (.lookup .int .jx false) [.val (.map I.mp),.val (.int .i64 ii.op)] s2 bx=Z (.val (.fn (49+ii.op.toNat) [] []),s2,bx):=λbx=>by
    simp only[bD,M2,Mm,bz,E]
    rfl
   have NQ:ii.cells=[.int .i64 ii.op,.int .i64 ii.a,.int .i64 ii.b,.int .i64 ii.c,.int .i64 ii.n,ii.args]:=rfl;rw[NQ]at c4 uC;simp[NQ,aS,aV,t1,rH,cut,y,hw3,bw,AV.aD,AV.aH,aB,azg,aA,ay,P2,hlk,c4];exact agI.2 uC;simp only;by_cases q:f.to = -1;exact .inl q;refine .inr λg l' e=>?_;subst e;obtain⟨q1,q2⟩:=M0;rw[pG]at q2;rcases q1 with q1|q1
   grind
   rw[q2.1.vo];exact q1
  have h0:fuel.toNat-m.aL=0:=by omega
  rw[h0]at t;have hge:(if fuel<0 then 0 else fuel)<=(m.aL:Int):=by grind
  have H:G={ m with e:=3 }:=by simp_all [oK]
  have hR3:=z.aK { m with e:=3 } I.iv rfl rfl rfl rfl z.iv;subst H;have T:=hK _ _ v hR3 rfl;simp only[jl]at T;simp[ebx,hP,jl,cut,B,hge,bw,AV.aD,AV.aH,aB];exact T
 have H:G=m:=by
  rw[<-t];cases fuel.toNat-m.aL with
  |zero=>simp only[oK,U B]|succ n=>simp only[oK,U B]
 simp[ebx,hP,jl,cut,B];subst H;exact hK I st v z rfl
end uJ
namespace uJ
open Ax Go aM dW gy
variable {x:XD}{cl:AV}{ai:Nat}{m:Ms}{I:v9}{st st':aO}{f:Fr}{l:List Fr}{i:ID}{X:MP}
@[simp]theorem ap0(s r):AV.cells (.raw s r)=[.raw s r]:=rfl
@[simp]theorem aoq(s r):AV.cT (.raw s r)=Y:=rfl
mutual
theorem nq:∀a:AV,a.de a=Y
 |.undef|.gone|.ff|.aF|.gR|.jx|.me|.pP=>rfl|.bool b=>by simp[AV.de]|.int k n=>by simp[AV.de]|.str l=>by simp[AV.de]|.agg l=>by simp only[AV.de];exact fK l|.fC l=>by simp only[AV.de];exact fK l|.eE s r=>by simp only[AV.de,beq_self_eq_true,afp];exact fz r|.iY s r=>by simp only[AV.de,beq_self_eq_true,afp];exact fz r|.raw s r=>by simp only[AV.de,beq_self_eq_true,afp];exact fz r|.mu i v=>by simp[AV.de]|.ptr a b c d=>by simp[AV.de]|.uL s a i k=>by simp only[AV.de,beq_self_eq_true,afp,Bool.and_true];exact fz a|.map i=>by simp[AV.de]|.fn f a b=>by simp only[AV.de,beq_self_eq_true,afp,Bool.and_eq_true];exact⟨fK a,fK b⟩
theorem fK:∀l:List AV,AV.vk l l=Y
 |[]=>rfl|a::l=>by simp only[AV.vk,nq a,fK l,afH]
theorem fz:∀l:List (List AV),AV.rM l l=Y
 |[]=>rfl|a::l=>by simp only[AV.rM,fK a,fz l,afH]
end
theorem ai1{k o q j g W n t c w O h y J b1 B p M bx}:
  bD 0 0 (.load false 1 Y) [.val (.ptr 2 0 0 5)] [k,o,.rows 0 15 [[j,g,W,n,t,c,w,O,h,y,J,b1,B,p,M]],q] bx =
   Z (.val c,[k,o,.rows 0 15 [[j,g,W,n,t,c.gK,w,O,h,y,J,b1,B,p,M]],q],bx):=by
 simp[bD,gP,cut,bO,gT,bw,aB]
theorem Z3(L p)(k:x.ok){C c6 c7 c8 c9 d0 D g h j}(F:st[p]?=Z (.rows 0 15 [[x.aR,x.ax,x.aJ,x.aI,.int .i64 x.main,C,c6,c7,c8,c9,d0,D,g,h,j]])){c:Nat}(H)(v:Q (cx (fm x.aJ)[c].vars)<1000000)(to):
  (bh S).call 0 L 21 [.ptr p 0 0 0,.int .i64 c,.int .i64 to] st =
   Z (.ptr (Q st+1) 0 0 0,st++[.rows 0 1 (aT (aag (Q (cx (fm x.aJ)[c].vars)) 0)),.rows 0 4 [rH ⟨c,0,to,[]⟩ (Q st)]]):=by
 have s:=k.aJ;have t:=Cp s;have w:=Di s;have q:=bR s;have o:=mE s _ (aah H);have z:=lR o.1;have y:=kQ o.1;have n:=fA o.1;have r:(Q (cx (fm x.aJ)[c].vars):Int)*8<=dj:=by unfold dj;omega
 have hint:aag (Q (cx (fm x.aJ)[c].vars)) [AV.int .i64 0]=aT (aag (Q (cx (fm x.aJ)[c].vars)) 0):=by simp[aT]
 refine aG (sf:=s21) rfl rfl rfl ?_;simp_all [s21,CD.cells,rH]
theorem ai2{ai a b st B}(h:st[b]?=Z (.rows 0 1 [[.ptr a 0 0 0]])):
  bD 0 ai (.j8 1 8) [.val .aF,.val (.mu b 0)] st B=Z (.val (.mu (Q st) 0),st++[.rows 0 1 [[.ptr a 0 0 0]]],B):=by
 simp[bD,uN,dO,fO,h,cy,AV.cP,AV.aj,dj]
theorem ai3{ai a k O p o g h bx}:
  bD 0 ai (.j8 1 8) [.val .aF,.val (.mu 6 0)] [k,O,p,o,g,h,.rows 0 1 [[.ptr a 0 0 0]]] bx=Z (.val (.mu 7 0),[k,O,p,o,g,h,.rows 0 1 [[.ptr a 0 0 0]],.rows 0 1 [[.ptr a 0 0 0]]],bx):=
 ai2 rfl
theorem qI{wl}:∀l st,kI wl (aT l) st=Z (aT l,st)
 |[],st=>rfl|n::l,st=>by
  have g:=qI (wl:=wl) l st;simp only[aT,List.map_cons]at *;simp[kI,mg,nH,AV.aH,AV.aj,g]
def nW(l:List Int):AV:=if l=[] then .aF else .eE 1 (aT l)
theorem PU(h:ee x cl ai m I st):∃st',rO 0 (if m.out=[] then .aF else .mu I.o I.ov) st=Z (nW m.out,st')/\st'[I.p]?=st[I.p]?/\Q st'=Q st:=by
 unfold nW;by_cases q:m.out=[];rw[af q,af q];exact⟨st,rfl,rfl,rfl⟩;rw[U q,U q];have k:=h.O q;have g:(aT m.out).isEmpty=false:=by
  cases H:m.out with
  |nil=>grind|cons a b=>rfl
 have t:I.o≠I.p:=CB (h.lo q) h.lp (by decide);refine⟨st.set I.o (.rows (I.ov+1) 1 []),?_,List.getElem?_set_ne t,by simp⟩;show jN 0 (.mu I.o I.ov) st=_
 grind [jN,qI]
theorem Nu(l):(nW l).aH=Y:=by
 unfold nW;split<;>rfl
def pN(x:XD)(Bz:Nat->AV):MP:=⟨fm x.aJ,(agb (Q (lU x.aI))).map λj=>Q (bf (Bz j)),Q (cx x.ax)⟩
def CF(m:Ms):AV:=.agg [.int .i64 m.e,.int .i64 m.code,nW m.out,.int .i64 m.aL]
def aor(j:Nat):Lb:=if j=0 then .st else if j=1 then .mp else if j=2 then .p else if j=3 then .g else if j=4\/j=5 then .fr else if j=7 then .fs else .no
theorem KC(H:x.ok)(hp:(xA x).aH=Y){fB}(hi:mX fB=Y)(eC:cL fB=Y)(fuel)(hR:∀wl o st,(bh S).call wl o 17 [xA x] st=Z (.bool Y,st)){Bz}(hC:∀wl o k st,k<Q (lU x.aI)->(bh S).call wl o 20 [xA x,.int .i64 k] st=Z (Bz k,st))(D:∀k,bn (Bz k)=Y)(hns:Q (lU x.aI)<1000000){mk:Nat}(Ij:x.main=mk)(y)(J:Q (cx (fm x.aJ)[mk].vars)<1000000)(hng:Q (cx x.ax)<1000000)(hX:XOk (pN x Bz))(Eb:∀c∈fm x.aJ,Q (cx c.vars)<1000000)(z:∀c∈fm x.aJ,Q (jo c.fZ)<1000000)(F:fuel<=1000000)(wl o st):
  (bh S).call wl o 8 [xA x,fB,.int .i64 fuel] st=Z (CF (oK (pN x Bz) fuel.toNat (m0 (pN x Bz) mk (dI fB))),st):=by
 have hr:(CF (oK (pN x Bz) fuel.toNat (m0 (pN x Bz) mk (dI fB)))).aH=Y:=by
  simp only[CF,AV.aH,AV.aD,Nu,afH]
 generalize xz:oK (pN x Bz) fuel.toNat (m0 (pN x Bz) mk (dI fB))=M at *;have O:=dY hi;have hv:=bQ eC O;have hT:=H.ax;have G:=lR H.ax;have C:=kQ H.ax;have gl:=fA H.ax;have rs:=Ll H.aR;have T:=Pv H.aR;have cs:=Cp H.aJ;have cv:=Di H.aJ;have W:=Lm H.aI;have w:=Pw H.aI;have sl:=sG H.aI;have tb:=λo st=>aeT o st;have nw:=λwl o st=>xI.aog wl o st;unfold xA at hR hp hC ⊢;have N:(Q (cx x.ax):Int)*8<=dj:=by unfold dj;omega
 have hpi:=dV O;refine bu (sf:=s8) rfl rfl (by simp_all) rfl hr ?_;simp[s8,hR,rs,T,cs,cv,G,C,W,w];rw[iu];simp[cY,fh,cA,bP,eu.aX,O,rs,T,cs,cv,G,C,gl,W,w,nw,tb,N,AV.aD,AV.aH,aB];refine⟨_,_,⟨rfl,rfl⟩,?_⟩;simp[kz.de,AV.de,G];refine⟨by grind,?_⟩;rw[Ep];have fR:aag (Q (cx x.ax)) [AV.int .i64 0]=aT (aag (Q (cx x.ax)) 0):=by simp[aT]
 rw[fR];refine⟨2,0,0,0,_,.mu 3 0,_,_,rfl,rfl,rfl,rfl,?_⟩;simp[aB,W,w,sl];generalize rI:B1.code (aW.seq (aW.region _ (Z [(4,8),(4,9)]) _) _)=h;refine bM aj0.eq_1 (λk:Nat=>⟨[(2,.val (.int .i64 fuel)),(3,.fp 0 0),(6,.fp 1 0),(7,.val (.ptr 2 0 0 0)),(27,.val (.int .i64 (Q (lU x.aI)))),(28,.val (.int .i64 k))],
   [[x.aR,x.ax,x.aJ,x.aI,.int .i64 x.main],[.int .i64 0,.int .i64 0,.aF,.int .i64 0],[]],
   [.rows 0 1 [[.aF]],.map Vr,.rows 0 15 [[x.aR,x.ax,x.aJ,x.aI,.int .i64 x.main,cw 1 (aT ((agb k).map λj=>(Q (bf (Bz j)):Int))),.ptr 0 0 0 0,fB,.mu 3 0,.aF,.map 1,.int .i64 0,.int .i64 0,.aF,.int .i64 0]],
    .rows 0 1 (aT (aag (Q (cx x.ax)) 0))]⟩)
  (λk=>k<=Q (lU x.aI)) (λk=>Q (lU x.aI)-k) 0 (by simp[cw,aT]) (by simp) ?_
 intro k hk ih;by_cases R:k<Q (lU x.aI);have hw:=wk k (by omega);have c1:=λwl o st=>hC wl o k st R;have c2:=D k;have tV:wS 1 8 (cw 1 (aT ((agb k).map λj=>(Q (bf (Bz j)):Int)))) [[.int .i64 (Q (bf (Bz k)):Int)]]=Z (cw 1 (aT ((agb (k+1)).map λj=>(Q (bf (Bz j)):Int)))):=by
  rw[iw (by rfl) (by simp[dj];omega),List.range_succ];simp[aT]
 generalize hL:cw 1 (aT ((agb k).map λj=>(Q (bf (Bz j)):Int)))=L at *;simp[R];rw[iu];simp[-aE,ai1,cY,fh,cA,bw,bP,eu.aX,T,cv,C,w,c1,c2,tV,cut,aB,AV.aD,AV.aH];refine⟨_,_,⟨rfl,rfl⟩,?_⟩;simp[c1,c2,nq,AV.aj,kz.de,AV.de,hw];exact ih (k+1) (by omega) (by omega);have dQ:k=Q (lU x.aI):=by omega
 simp[R];rw[<-rI];have hL:cw 1 (aT ((agb k).map λj=>(Q (bf (Bz j)):Int)))=cw 1 (aT (((agb (Q (lU x.aI))).map λj=>Q (bf (Bz j))).map λn:Nat=>(n:Int))):=by rw[dQ,List.map_map];rfl
 rw[hL];have q:Of x (cw 1 (aT (((agb (Q (lU x.aI))).map λj=>Q (bf (Bz j))).map λn:Nat=>(n:Int)))) (pN x Bz):=⟨H,rfl,rfl,Eb⟩;generalize cw 1 (aT (((agb (Q (lU x.aI))).map λj=>Q (bf (Bz j))).map λn:Nat=>(n:Int)))=L at *;have E:=λo=>Z3 (st:=[.rows 0 1 [[.aF]],.map Vr,.rows 0 15 [[x.aR,x.ax,x.aJ,x.aI,.int .i64 x.main,L,.ptr 0 0 0 0,fB,.mu 3 0,.aF,.map 1,.int .i64 0,.int .i64 0,.aF,.int .i64 0]],
   .rows 0 1 (aT (aag (Q (cx x.ax)) 0))]) o 2 H rfl y J (-1)
 simp only[List.length_cons,List.length_nil,List.cons_append,List.nil_append]at E;rw[Ij]at E ⊢;simp;rw[iu];have la:=λwl ai a st bx=>(aeR (wl:=wl) (ai:=ai) (a:=a) (st:=st) (bx:=bx));simp[-tc,-zh,cY,fh,cA,bw,bP,eu.aX,cut,aB,E,la,ai3];refine⟨_,_,⟨rfl,rfl⟩,?_⟩;simp[bO,AV.cP,AV.aj,kz.de,AV.de];have B:nQ (pN x Bz) mk=Q (cx (fm x.aJ)[mk].vars):=q.nv y;have R0:ee x L 0 (m0 (pN x Bz) mk (dI fB)) ⟨2,0,0,0,3,7,0,0,0,1,[],[(5,4)],aor,fB⟩ [.rows 0 1 [[.aF]],.map Vr,.rows 0 15 [[x.aR,x.ax,x.aJ,x.aI,.int .i64 x.main,L,.ptr 0 0 0 0,fB,.mu 3 0,.mu 7 0,.map 1,.int .i64 0,.int .i64 0,.aF,.int .i64 0]],
   .rows 0 1 (aT (aag (Q (cx x.ax)) 0)),.rows 0 1 (aT (aag (Q (cx (fm x.aJ)[mk].vars)) 0)),.rows 0 4 [rH ⟨mk,0,-1,[]⟩ 4],.rows 0 1 [[.ptr 5 0 0 0]],.rows 0 1 [[.ptr 5 0 0 0]]]:=by
  refine⟨by simp[jl,m0],⟨hi,eC,rfl⟩,?_,by simp[m0,pN],by simp,⟨by simp[rH],by simp[B],trivial⟩,λe=>bH rfl e,by simp,rfl,rfl,rfl,λe=>bH rfl e,rfl,rfl,λe=>bH rfl e,by simp,?_,by simp[kX],λ_ _=>Nat.zero_le _⟩;exact⟨rfl,by simp[m0],λe=>bH rfl e,λk hk=>by simp at hk,λe=>bH rfl e,by simp,λe=>bH rfl e,by simp⟩;intro j hj;simp[kX]at hj;rcases hj with rfl|rfl<;>rfl
 rw[<-Ij];refine PT q hX z F (p:=2) (b1:=[.int .i64 0,.int .i64 0,.aF,.int .i64 0]) (λt st' b2 hF zK=>?_) [] ⟨R0,aku hX y _,rfl⟩ (by simp[m0];omega) (by simpa [m0] using xz);have v:=hF.P;obtain⟨U,f1,f2,f3⟩:=PU hF;rw[zK]at v f2;have l2:2<Q U:=by rw[f3];exact jm v
 have P4:=f2.trans v;have ov:=Nu M.out;simp[ebx];rw[Ep];obtain⟨s6,r⟩:∃s,s=U.set 2 (.rows 0 15 [[x.aR,x.ax,x.aJ,x.aI,.int .i64 x.main,L,.ptr t.s 0 0 0,t.iv,.mu t.g 0,.mu t.fq t.fv,.map t.mp,.int .i64 M.e,.int .i64 M.code,nW M.out,.int .i64 M.aL]]):=⟨_,rfl⟩;have P5:=List.getElem?_set_self (a:=iW.rows 0 15 [[x.aR,x.ax,x.aJ,x.aI,.int .i64 x.main,L,.ptr t.s 0 0 0,t.iv,.mu t.g 0,.mu t.fq t.fv,.map t.mp,.int .i64 M.e,.int .i64 M.code,nW M.out,.int .i64 M.aL]]) l2;rw[<-r]at P5;have ow:(nW M.out).aj=nW M.out:=by unfold nW;split<;>rfl
 have oc:(nW M.out).cT=Y:=by unfold nW;split<;>rfl
 refine⟨2,0,0,0,_,_,U,s6,rfl,?_,f1,?_,?_⟩;simp[gP,v,jl,cut];simp[gT,P4,jl,bw,aB,r];simp[cut,P5,ow,oc,AV.cP,bO,aB,CF]
end uJ
namespace uJ
open Ax Go aM dW gy
def de(a b:List Int)(k:Nat):Prop:=∀j,j<k->a[j]?=b[j]?
theorem aeU{a b:List Int}(h:Q a=Q b)(H:de a b (Q a)):a=b:=by
 apply List.ext_getElem?;intro j;by_cases k:j<Q a;exact H j k;rw[afl (by omega),afl (by omega)]
theorem Dj(W E:Nat){a b:AV}(o:mX a=Y)(p:mX b=Y)(N:Q (dI a)<1000000000)(st:aO):(bh S).call W E 15 [a,b] st=Z (.bool (V (dI a=dI b)),st):=by
 have s:=dY o;have r:=dY p;have z:=Er o;have v:=Er p;have L:=cC o;have n:=cC p;have P:=dV s;have F:=dV r;refine bu (sf:=s15) rfl rfl (by rw[AV.aD,P,AV.aD,F];rfl) rfl rfl ?_;by_cases H:Q (dI a)=Q (dI b);simp[s15,s,r,L,n,H];refine bM acS.eq_1 (λk:Nat=>⟨[(0,.val a),(1,.val b),(5,.val (.int .i64 k))],[],[]⟩)
  (λk=>k<=Q (dI a)/\de (dI a) (dI b) k) (λk=>Q (dI a)-k) 0 (by simp) ⟨by omega,λ_ h=>by omega⟩ ?_
 intro k ⟨J,t⟩ C;by_cases R:k<Q (dI a);have w:k<Q (dI b):=by omega
 have y:=wk k (by omega);by_cases g:(dI a)[k]=(dI b)[k];simp[s,z,v,L,n,w,H,g,y,aA,ay];exact C (k+1) ⟨by omega,λj G=>by
  by_cases e:j=k;subst e;rw[aae R,aae w,g];exact t j (by omega)⟩ (by omega)
 have q:¬dI a=dI b:=λe=>g (by simp only[e]);simp[s,z,v,L,n,w,H,g,q,aA,ay];have D:k=Q (dI a):=by omega
 have B:dI a=dI b:=aeU H (D ▸ t);rw[show V (dI a=dI b)=Y from cH B];simp[s,L,R];have q:¬dI a=dI b:=λe=>H (by rw[e]);simp[s15,s,r,L,n,H,q]
theorem Hw(l:List Int):mX (nW l)=Y/\dI (nW l)=l:=by
 unfold nW;by_cases h:l=[];rw[af h,h];exact⟨rfl,rfl⟩;rw[U h];refine⟨?_,?_⟩;simp[mX,aT,cy];simp only[dI,bf];exact Ff l
theorem Z4(C n:Nat)(a b:List Int)(N:Q a<1000000000)(st:aO):(bh S).call C n 14 [nW a,nW b] st=Z (.bool (V (Q a<=Q b)&&V (a=b.take (Q a))),st):=by
 obtain⟨j,D⟩:=Hw a;obtain⟨g,o⟩:=Hw b;have s:=dY j;have r:=dY g;have L:=cC j;have k:=cC g;have z:=Er g;rw[D]at L;rw[o]at k;have P:=dV s;have F:=dV r;have p:(nW a).aj=nW a:=by unfold nW;split<;>rfl
 have q:(nW b).aj=nW b:=by unfold nW;split<;>rfl
 refine bu (sf:=s14) rfl rfl (by rw[AV.aD,P,AV.aD,F];rfl) rfl rfl ?_;by_cases h:Q a<=Q b;have v:=Oe (lo:=0) (hi:=Q a) g;have H:dI (td (nW b) 0 (Q a))=b.take (Q a):=by rw[alR g,o];simp
 have hi:=λC n st=>Dj C n j v (by rw[D];exact N) st;rw[D,H]at hi;have G:=dY v;have E:(td (nW b) 0 (Q a)).aj=td (nW b) 0 (Q a):=by unfold nW;split<;>rfl
 generalize M:nW a=A at *;generalize t:nW b=B at *;simp[s14,s,r,L,k,z,p,q,h,hi];generalize M:nW a=A at *;generalize t:nW b=B at *;simp[s14,s,r,L,k,p,q,h]
end uJ
