/-
  Calls.
-/
import Derived.Test.YtgblgbgjmgjfkaaGreatU

open List renaming length->Q
open Option renaming some->Z
open Bool renaming true->Y
open List renaming getElem_mem->aah,take_of_length_le->aas,flatMap_cons->aj3,cons_append->abb,nil_append->aeN,mem_cons->ac2,nodup_cons->ahK,replicate->aag,getElem?_set_ne->aao,getElem?_set_self->aar,getElem?_append_left->aaj
open Nat renaming le_trans->adX
set_option maxRecDepth 100000
set_option maxHeartbeats 4000000
namespace uJ
open Ax Go aM dW gy
variable {x:XD}{cl:AV}{ai:Nat}{m:Ms}{I:v9}{st st':aO}{f:Fr}{l:List Fr}{i:ID}
theorem aiT(wl L)(h:ee x cl ai m I st)(e:m.l=f::l)(q:Q m.l<=1000){a}(H:mX a=Y)(E:cL a=Y)(r:∀n∈dI a,qf (Q f.vs) n)(y:Q (dI a)<1000000):
  (bh S).call wl L 118 [a,.fn 108 [.ptr I.p 0 0 0] []] st=Z (cw 1 (aT ((dI a).map (eB f.vs))),st):=by
 have j:=dY H;have o:=bQ E j;have U:=cC H;refine aG (sf:=al9) rfl rfl rfl ?_;simp[al9,j,o,U];refine bM Wp.eq_1 (λk:Nat=>⟨[(1,.val (.fn 108 [.ptr I.p 0 0 0] [])),(5,.val (cw 1 (aT (((dI a).map (eB f.vs)).take k)))),(8,.val a),(9,.val (.int .i64 (Q (dI a)))),(10,.val (.int .i64 k))],[],st⟩)
  (λk=>k<=Q (dI a)) (λk=>Q (dI a)-k) 0 (by simp[cw,aT]) (by simp) ?_
 intro k w v;by_cases R:k<Q (dI a);have s:=wk k (by omega);have v1:=λwl L=>zH wl L h e q (dI a)[k] (r _ (aah R));have g:((dI a).map (eB f.vs)).take (k+1)=((dI a).map (eB f.vs)).take k++[eB f.vs (dI a)[k]]:=by
  simp_all [List.take_succ_eq_append_getElem]
 have T:wS 1 8 (cw 1 (aT (((dI a).map (eB f.vs)).take k))) [[.int .i64 (eB f.vs (dI a)[k])]]=Z (cw 1 (aT (((dI a).map (eB f.vs)).take (k+1)))):=by
  rw[iw (by rfl) (by simp[dj];omega),g];simp[aT]
 have t:=Er H;simp[t,o,U,R,v1,T,s];exact v (k+1) (by omega) (by omega);have D:k=Q (dI a):=by omega
 have g:((dI a).map (eB f.vs)).take k=(dI a).map (eB f.vs):=aas (by simp;omega);simp_all
theorem ee.push(h:ee x cl ai m I st){a b g}(k:∀j,j<Q st->j≠I.p->j≠I.fq->st'[j]?=st[j]?)(y:st'[I.p]?=Z (.rows 0 15 [jl x cl I.s I.iv I.g (.mu I.fq (I.fv+1)) I.mp m.e m.code (if m.out=[] then .aF else .mu I.o I.ov) m.aL]))(E:st'[I.fq]?=Z (.rows (I.fv+1) 1 ((I.fl.reverse.map λf=>[AV.ptr f.1 0 0 0])++[[.ptr b 0 0 0]])))(C:Q st<=a)(D:Q st<=b)(W:a≠b)(r:st'[b]?=Z (.rows 0 4 [rH g a]))(t:st'[a]?=Z (.rows 0 1 (aT g.vs))):
  ee x cl ai { m with l:=g::m.l } { I with fv:=I.fv+1,fl:=(b,a)::I.fl,ku:=λj=>if j=a\/j=b then .fr else I.ku j } st':=by
 have B:=h.SX;have L:∀j,j<Q st->(if j=a\/j=b then Lb.fr else I.ku j)=I.ku j:=λj H=>ah;have v:∀j,j<Q st->I.ku j≠.p->I.ku j≠.fs->st'[j]?=st[j]?:=λj H N z=>k j H (λq=>N (by rw[q];exact h.lp)) (λq=>z (by rw[q];exact h.lf));have w:ai<=Q st:=by
  have:=h.low I.p (by rw[h.lp];decide);have:=B.p;omega
 refine⟨y,h.iv,h.S.oq (v _ B.s (by rw[h.ls];decide) (by rw[h.ls];decide)) (λe=>v _ (B.q e) (by rw[h.lq e];decide) (by rw[h.lq e];decide)) (λi n=>v i (B.gm i n) (by rw[h.li i n];decide) (by rw[h.li i n];decide)),?_,?_,
  ⟨r,t,h.FR.oq λi n=>v i (B.fr i n) (by rw[h.lr i n];decide) (by rw[h.lr i n];decide)⟩,λe=>?_,?_,(L _ B.p).trans h.lp,(L _ B.g).trans h.lg,(L _ B.fq).trans h.lf,λe=>(L _ (B.o e)).trans (h.lo e),(L _ B.mp).trans h.lm,(L _ B.s).trans h.ls,
  λe=>(L _ (B.q e)).trans (h.lq e),λj H=>(L _ (B.gm j H)).trans (h.li j H),λj H=>?_,?_,λj H=>?_⟩
 exact(v _ B.g (by rw[h.lg];decide) (by rw[h.lg];decide)).trans h.G
 grind
 exact(v _ (B.o e) (by rw[h.lo e];decide) (by rw[h.lo e];decide)).trans (h.O e);exact(v _ B.mp (by rw[h.lm];decide) (by rw[h.lm];decide)).trans h.M;simp only[kX,aj3,abb,aeN,ac2]at H;rcases H with rfl|rfl|H;simp;simp;exact(L _ (B.fr j H)).trans (h.lr j H);simp only[kX,aj3,abb,aeN,ahK,ac2,not_or];exact⟨⟨λq=>W q.symm,λq=>by have:=B.fr b q;omega⟩,λq=>by have:=B.fr a q;omega,h.nd⟩;simp only at H;by_cases q:j=a\/j=b;omega;rw[U q]at H;exact h.low j H
theorem ee.pop(h:ee x cl ai m I st)(e:m.l=f::l){c fl}(t:I.fl=c::fl)(k:∀j,j≠I.p->j≠I.fq->st'[j]?=st[j]?)(z:st'[I.p]?=Z (.rows 0 15 [jl x cl I.s I.iv I.g (.mu I.fq (I.fv+1)) I.mp m.e m.code (if m.out=[] then .aF else .mu I.o I.ov) m.aL]))(y:st'[I.fq]?=Z (.rows (I.fv+1) 1 (fl.reverse.map λf=>[AV.ptr f.1 0 0 0]))):
  ee x cl ai { m with l:=l } { I with fv:=I.fv+1,fl:=fl } st':=by
 have v:∀j,I.ku j≠.p->I.ku j≠.fs->st'[j]?=st[j]?:=λj N B=>k j (λq=>N (by rw[q];exact h.lp)) (λq=>B (by rw[q];exact h.lf));have r:∀j∈kX fl,j∈kX I.fl:=λj w=>by grind [kX]
 have H:=h.FR;have U:=h.nd;rw[e,t]at H;rw[t]at U;simp only[kX,aj3,abb,aeN,ahK]at U;refine⟨z,h.iv,h.S.oq (v _ (by rw[h.ls];decide) (by rw[h.ls];decide)) (λe=>v _ (by rw[h.lq e];decide) (by rw[h.lq e];decide)) (λi n=>v i (by rw[h.li i n];decide) (by rw[h.li i n];decide)),?_,y,
  H.2.2.oq λi n=>v i (by rw[h.lr i (r i n)];decide) (by rw[h.lr i (r i n)];decide),λe=>?_,?_,h.lp,h.lg,h.lf,h.lo,h.lm,h.ls,h.lq,h.li,λj w=>h.lr j (r j w),U.2.2,h.low⟩
 exact(v _ (by rw[h.lg];decide) (by rw[h.lg];decide)).trans h.G;exact(v _ (by rw[h.lo e];decide) (by rw[h.lo e];decide)).trans (h.O e);exact(v _ (by rw[h.lm];decide) (by rw[h.lm];decide)).trans h.M
theorem ee.Gh(h:ee x cl ai m I st){o ov out}(D:out≠[])(r:(m.out≠[]/\o=I.o)\/Q st<=o)(k:∀j,j<Q st->j≠I.p->(m.out≠[]->j≠I.o)->st'[j]?=st[j]?)(C:st'[I.p]?=Z (.rows 0 15 [jl x cl I.s I.iv I.g (.mu I.fq I.fv) I.mp m.e m.code (.mu o ov) m.aL]))(z:st'[o]?=Z (.rows ov 1 (aT out))):
  ee x cl ai { m with out:=out } { I with o:=o,ov:=ov,ku:=λj=>if j=o then .o else I.ku j } st':=by
 have B:=h.SX;have L:∀j,j<Q st->(m.out≠[]->I.ku j≠.o)->(if j=o then Lb.o else I.ku j)=I.ku j:=λj H w=>by
  by_cases q:j=o;rcases r with⟨c,d⟩|d;exact bH (by rw[q,d];exact h.lo c) (w c);omega
  grind
 have v:∀j,j<Q st->I.ku j≠.p->I.ku j≠.o->st'[j]?=st[j]?:=λj H N y=>k j H (λq=>N (by rw[q];exact h.lp)) (λc q=>y (by rw[q];exact h.lo c));have t:ai<=Q st:=by
  have:=h.low I.p (by rw[h.lp];decide);have:=B.p;omega
 refine⟨?_,h.iv,h.S.oq (v _ B.s (by rw[h.ls];decide) (by rw[h.ls];decide)) (λe=>v _ (B.q e) (by rw[h.lq e];decide) (by rw[h.lq e];decide)) (λi n=>v i (B.gm i n) (by rw[h.li i n];decide) (by rw[h.li i n];decide)),?_,?_,
  h.FR.oq λi n=>v i (B.fr i n) (by rw[h.lr i n];decide) (by rw[h.lr i n];decide),λ_=>z,?_,(L _ B.p λ_=>by rw[h.lp];decide).trans h.lp,(L _ B.g λ_=>by rw[h.lg];decide).trans h.lg,(L _ B.fq λ_=>by rw[h.lf];decide).trans h.lf,λ_=>af rfl,
  (L _ B.mp λ_=>by rw[h.lm];decide).trans h.lm,(L _ B.s λ_=>by rw[h.ls];decide).trans h.ls,λe=>(L _ (B.q e) λ_=>by rw[h.lq e];decide).trans (h.lq e),λj H=>(L _ (B.gm j H) λ_=>by rw[h.li j H];decide).trans (h.li j H),
  λj H=>(L _ (B.fr j H) λ_=>by rw[h.lr j H];decide).trans (h.lr j H),h.nd,λj H=>?_⟩
 grind
 exact(v _ B.g (by rw[h.lg];decide) (by rw[h.lg];decide)).trans h.G;exact(v _ B.fq (by rw[h.lf];decide) (by rw[h.lf];decide)).trans h.F;exact(v _ B.mp (by rw[h.lm];decide) (by rw[h.lm];decide)).trans h.M;simp only at H;by_cases q:j=o;rcases r with⟨c,d⟩|d;rw[q,d];exact h.low _ (by rw[h.lo c];decide);omega;rw[U q]at H;exact h.low j H
end uJ
namespace uJ
open Ax Go aM dW gy
variable {x:XD}{cl:AV}{ai:Nat}{m:Ms}{I:v9}{st st':aO}{f:Fr}{l:List Fr}{i:ID}
theorem aeQ(L)(g:x.ok)(h:ee x cl ai m I st){c:Nat}(H)(r:Q (cx (fm x.aJ)[c].vars)<1000000)(to):
  (bh S).call 0 L 21 [.ptr I.p 0 0 0,.int .i64 c,.int .i64 to] st =
   Z (.ptr (Q st+1) 0 0 0,st++[.rows 0 1 (aT (aag (Q (cx (fm x.aJ)[c].vars)) 0)),.rows 0 4 [rH ⟨c,0,to,[]⟩ (Q st)]]):=by
 have s:=g.aJ;have q:=Cp s;have t:=Di s;have k:=bR s;have o:=mE s _ (aah H);have z:=lR o.1;have y:=kQ o.1;have j:=fA o.1;have F:=h.P;have n:(Q (cx (fm x.aJ)[c].vars):Int)*8<=dj:=by unfold dj;omega
 have hint:aag (Q (cx (fm x.aJ)[c].vars)) [AV.int .i64 0]=aT (aag (Q (cx (fm x.aJ)[c].vars)) 0):=by simp[aT]
 refine aG (sf:=s21) rfl rfl rfl ?_;simp_all [s21,jl,CD.cells,rH]
theorem aeR{wl ai a st bx}:bD wl ai (.Ts 1 1 [.ff] [0]) [.val (.ptr a 0 0 0)] st bx=Z (.val (.mu (Q st) 0),st++[.rows 0 1 [[.ptr a 0 0 0]]],bx):=rfl
theorem aok{ai a b q v kF st bx}(h:st[b]?=Z (.rows 0 1 [[.ptr a 0 0 0]]))(H:st[q]?=Z (.rows v 1 kF))(j:(Q kF+1)*8<=dj)(g:ai<=q):
  bD 0 ai (.j8 1 8) [.val (.mu q v),.val (.mu b 0)] st bx=Z (.val (.mu q (v+1)),st.set q (.rows (v+1) 1 (kF++[[.ptr a 0 0 0]])),bx):=by
 simp[bD,uN,dO,fO,h,H,cy,AV.cP,AV.aj,j,g]
theorem aiU{ai id v kF new st bx}(h:st[id]?=Z (.rows v 1 (aT kF)))(j:Q new<=Q kF):
  bD 0 ai (.copy 1) [.val (.mu id v),.val (cw 1 (aT new))] st bx=Z (.val (.int .i64 (Q new)),st.set id (.rows v 1 (aT (new++kF.drop (Q new)))),bx):=by
 have g:cy 1 (aT new)=Y:=by simp_all
 have k:(aT new).all AV.aD=Y:=by simp[aT,AV.aD,AV.aH]
 have H:dO st (cw 1 (aT new))=Z (aT new):=by
  simp_all
 simp_all [bD]
theorem xW(hx:x.ok)(h:ee x cl ai m I st)(e:m.l=f::l)(hd:Q m.l<=40)(hi:mX i.args=Y)(eC:cL i.args=Y){c:Nat}(hic:i.c=c)(hc)(hv:Q (cx (fm x.aJ)[c].vars)<1000000)(hn:∀n∈dI i.args,qf (Q f.vs) n)(hlen:Q (dI i.args)<=Q (cx (fm x.aJ)[c].vars))(h40:Q m.l<40):
  ∃st' I',Q st<=Q st'/\(∀L,L<=ai->(bh S).call 0 L 62 [.ptr I.p 0 0 0,.agg i.cells] st=Z (.fC [],st'))/\I'.p=I.p/\
   ee x cl ai { m with l:=⟨c,0,i.a,(dI i.args).map (eB f.vs)++aag (Q (cx (fm x.aJ)[c].vars)-Q (dI i.args)) 0⟩::m.l } I' st':=by
 have hs:=dY hi;have kY:=bQ eC hs;have hP:=h.P;have hF:=h.F;have B:=h.SX;have en:=λL=>aeQ L hx h hc hv i.a;generalize hnv:Q (cx (fm x.aJ)[c].vars)=N at *;have DT:=h.FR.len;have Gy:Q ((dI i.args).map (eB f.vs))=Q (dI i.args):=by simp
 generalize Eb:(dI i.args).map (eB f.vs)=vs at *;obtain⟨t,wm⟩:∃s,s=st++[.rows 0 1 (aT (aag N 0)),.rows 0 4 [rH ⟨c,0,i.a,[]⟩ (Q st)]]:=⟨_,rfl⟩;have l1:Q t=Q st+2:=by grind
 have r1:ee x cl ai m I t:=by rw[wm];exact h.eD _
 have J:t[Q st]?=Z (.rows 0 1 (aT (aag N 0))):=by grind
 have G:t[Q st+1]?=Z (.rows 0 4 [rH ⟨c,0,i.a,[]⟩ (Q st)]):=by grind
 have o1:∀j,j<Q st->t[j]?=st[j]?:=λj k=>by grind
 rw[<-wm]at en;have ea:=λwl L=>aiT wl L r1 e (by omega) hi eC hn (by omega);rw[Eb]at ea;have E:=λL bx=>aiU (ai:=L) (bx:=bx) (new:=vs) J (by simp;omega);have z:vs++(aag N (0:Int)).drop (Q vs)=vs++aag (N-Q (dI i.args)) 0:=by grind
 rw[z]at E;obtain⟨r,E2⟩:∃s,s=t.set (Q st) (.rows 0 1 (aT (vs++aag (N-Q (dI i.args)) 0))):=⟨_,rfl⟩;rw[<-E2]at E;have l2:Q r=Q st+2:=by grind
 have o2:∀j,j≠Q st->r[j]?=t[j]?:=λj k=>by grind
 have T:r[Q st]?=Z (.rows 0 1 (aT (vs++aag (N-Q (dI i.args)) 0))):=by grind
 obtain⟨D,hs3⟩:∃s,s=r++[.rows 0 1 [[.ptr (Q st+1) 0 0 0]]]:=⟨_,rfl⟩;have o3:∀j,j<Q r->D[j]?=r[j]?:=λj k=>by grind
 have g3:D[Q r]?=Z (.rows 0 1 [[.ptr (Q st+1) 0 0 0]]):=by grind
 have l3:Q D=Q st+3:=by grind
 have U:D[I.fq]?=Z (.rows I.fv 1 (I.fl.reverse.map λf=>[AV.ptr f.1 0 0 0])):=by
  grind
 have wL:(Q (I.fl.reverse.map λf=>[AV.ptr f.1 0 0 0])+1)*8<=dj:=by simp[dj];omega
 obtain⟨v,hs4⟩:∃s,s=D.set I.fq (.rows (I.fv+1) 1 ((I.fl.reverse.map λf=>[AV.ptr f.1 0 0 0])++[[.ptr (Q st+1) 0 0 0]])):=⟨_,rfl⟩;have ap:=λL bx (M:L<=ai)=>aok (ai:=L) (bx:=bx) g3 U wL (adX M (h.low _ (by rw[h.lf];decide)));rw[<-hs4]at ap;have w:=λwl ai bx=>(aeR (wl:=wl) (ai:=ai) (a:=Q st+1) (st:=r) (bx:=bx));rw[<-hs3]at w;have l4:Q v=Q st+3:=by grind
 have o4:∀j,j≠I.fq->v[j]?=D[j]?:=λj k=>by grind
 have hpf:I.p≠I.fq:=CB h.lp h.lf (by decide);have kF:∀j,j<Q st->j≠I.fq->v[j]?=st[j]?:=λj k hq=>by rw[o4 _ hq,o3 _ (by omega),o2 _ (by omega),o1 _ k]
 have H:=(o1 _ B.p).trans hP;have O:=(o2 _ (by grind)).trans H;have W:=(kF _ B.p hpf).trans hP;have R:r[Q st+1]?=Z (.rows 0 4 [rH ⟨c,0,i.a,[]⟩ (Q st)]):=(o2 _ (by omega)).trans G;have Jo:=h.low _ (show I.ku I.p≠.no by rw[h.lp];decide);have hw:∀j,j≠I.p->∀y,(v.set I.p y)[j]?=v[j]?:=λj k y=>aao λq=>k q.symm;have xz:ee x cl ai { m with l:=⟨c,0,i.a,vs++aag (N-Q (dI i.args)) 0⟩::m.l } { I with fv:=I.fv+1,fl:=(Q st+1,Q st)::I.fl,ku:=λj=>if j=Q st\/j=Q st+1 then .fr else I.ku j }
   (v.set I.p (.rows 0 15 [jl x cl I.s I.iv I.g (.mu I.fq (I.fv+1)) I.mp m.e m.code (if m.out=[] then .aF else .mu I.o I.ov) m.aL])):=by
  have bp:=B.p;have bq:=B.fq;refine h.push (a:=Q st) (b:=Q st+1) (g:=⟨c,0,i.a,vs++aag (N-Q (dI i.args)) 0⟩) (λj k n1 n2=>(hw j n1 _).trans (kF j k n2)) (aar (by omega)) ?_ (Nat.le_refl _) (by omega) (by omega) ?_ ?_
  grind [aar]
  rw[hw _ (by omega),o4 _ (by omega),o3 _ (by omega)];exact R;rw[hw _ (by omega),o4 _ (by omega),o3 _ (by omega)];exact T
 refine⟨_,{ I with fv:=I.fv+1,fl:=(Q st+1,Q st)::I.fl,ku:=λj=>if j=Q st\/j=Q st+1 then .fr else I.ku j },?_,λL M=>?_,rfl,xz⟩;simp[l4];refine aG (sf:=s62) rfl rfl rfl ?_;have C:¬(40:Int)<=(Q m.l:Int):=by omega
 simp[s62,ID.cells,hs,hP,hF,DT,C,jl,cut,hic,en];have Gi:L<=I.p:=adX M Jo;rw[iu];simp[cY,fh,cA,bP,eu.aX,kY,G,rH,cut,ea,E];refine⟨_,_,⟨rfl,rfl⟩,?_⟩;simp[G,rH,cut,bO,AV.cP,AV.aj,kz.de,AV.de,O,jl,w,ap L _ M,W,Gi]
theorem aiW(h:ee x cl ai m I st)(g:mX i.args=Y)(E:cL i.args=Y)(H:40<=Q m.l):
  ∃st',Q st'=Q st/\(∀L,(bh S).call 0 L 62 [.ptr I.p 0 0 0,.agg i.cells] st=Z (.fC [],st'))/\ee x cl ai (gC m 6) I st':=by
 have j:=dY g;have q:=bQ E j;have o:=h.P;have n:=h.F;have D:=h.FR.len;have C:(40:Int)<=(Q m.l:Int):=by omega
 obtain⟨s,k,B,R,_⟩:=sI h 6;refine⟨s,k,λL=>?_,R⟩;refine aG (sf:=s62) rfl rfl rfl ?_;simp_all [s62,ID.cells,jl]
theorem Vt{v}(h:cL v=Y)(a b):cL (td v a b)=Y:=by cases v<;>simp_all [cL,td]
theorem PM(h:ee x cl ai m I st)(e:m.l=f::l)(hd:Q m.l<=1000)(hi:mX i.args=Y)(J:cL i.args=Y)(ha:qf (Q f.vs) i.a):
  ∃st' t,Q st'=Q st/\(∀o,(bh S).call 0 o 63 [.ptr I.p 0 0 0,.agg i.cells] st=Z (.fC [],st'))/\t.p=I.p/\ee x cl ai (rD m i.a) t st':=by
 have F:=dY hi;have kY:=bQ J F;have W:=h.P;obtain⟨G,z,C⟩:=h.iv;have R:=dY G;have N:=Er G;have M:=bQ z R;have gl:=cC G;cases D:m.fB with
 |nil=>
  obtain⟨j,L,T,q,_⟩:=sI h 5;have w:dI I.iv=[]:=by rw[C,D]
  have uB:List.take (Q st) j=j:=aas (by omega);refine⟨j,I,L,λo=>?_,rfl,by grind [rD]⟩;refine aG (sf:=s63) rfl rfl rfl ?_;simp_all [s63,ID.cells,jl]
 |cons n r=>
  obtain⟨j,L,T,q⟩:=tL h e hd i.a n ha;have w:dI I.iv=n::r:=by rw[C,D]
  have H:=q.P;have em:rD m i.a={ gO m i.a n with fB:=r }:=by
   grind [rD,gO]
  have v:cL (td I.iv 1 (Q r+1))=Y:=Vt z _ _;have k:dI (td I.iv 1 (Q r+1))=r:=by simp_all
  have E:bn (td I.iv 1 (Q r+1))=Y:=abG R;have hv2:=bQ v E;have se:(gO m i.a n).s=m.s/\(gO m i.a n).g=m.g/\(gO m i.a n).out=m.out/\(gO m i.a n).e=m.e/\(gO m i.a n).code=m.code/\(gO m i.a n).aL=m.aL:=by
   simp_all [gO]
  have B:=q.aK { gO m i.a n with fB:=r } (td I.iv 1 (Q r+1)) rfl rfl rfl rfl ⟨Oe G,v,k⟩;rw[<-em]at B;have ht:∀y,List.take (Q st) (j.set I.p y)=j.set I.p y:=λy=>aas (by simp;omega);refine⟨_,_,?_,λo=>?_,?_,B⟩;simp[L];refine aG (sf:=s63) rfl rfl rfl ?_;have O:¬((Q r:Int)+1=0):=by omega
  have U:(1:Int)<=(Q r:Int)+1:=by omega
  have tQ:=dV E;simp[s63,ID.cells,F,W,H,jl,cut,R,N,M,gl,w,aT,O,U,aA,ay,T,ht,E,bw,AV.aD,aB,em]
  rfl
end uJ
namespace uJ
open Ax Go aM dW gy
variable {x:XD}{cl:AV}{ai:Nat}{m:Ms}{I:v9}{st st':aO}{f:Fr}{l:List Fr}{i:ID}
theorem aiX{ai n st bx}:bD 0 ai (.j8 1 8) [.val .aF,.val (.eE 1 [[.int .i64 n]])] st bx=Z (.val (.mu (Q st) 0),st++[.rows 0 1 (aT [n])],bx):=by
 simp[bD,uN,dO,fO,cy,dj,aT]
theorem aol{ai q v n kF st bx}(H:st[q]?=Z (.rows v 1 (aT kF)))(h:(Q kF+1)*8<=dj):
  bD 0 ai (.j8 1 8) [.val (.mu q v),.val (.eE 1 [[.int .i64 n]])] st bx=Z (.val (.mu q (v+1)),st.set q (.rows (v+1) 1 (aT (kF++[n]))),bx):=by
 simp[bD,uN,dO,fO,H,cy,h,AV.aD,AV.aH]
theorem Z2(h:ee x cl ai m I st)(e:m.l=f::l)(hd:Q m.l<=1000)(hi:mX i.args=Y)(W:cL i.args=Y)(ha:qf (Q f.vs) i.a)(ho:Q m.out<1000000):
  ∃st' D,Q st<=Q st'/\(∀L,L<=ai->(bh S).call 0 L 64 [.ptr I.p 0 0 0,.agg i.cells] st=Z (.fC [],st'))/\D.p=I.p/\ee x cl ai { m with out:=m.out++[eB f.vs i.a] } D st':=by
 have w:=dY hi;have kY:=bQ W w;have F:=h.P;have B:=h.SX;have v1:=λwl L=>zH wl L h e hd i.a ha;have J:=h.low _ (show I.ku I.p≠.no by rw[h.lp];decide);by_cases q:m.out=[];have k:=F;rw[af q]at k;obtain⟨r,R⟩:∃s,s=st++[.rows 0 1 (aT [eB f.vs i.a])]:=⟨_,rfl⟩;have ap:=λL bx=>aiX (ai:=L) (n:=eB f.vs i.a) (st:=st) (bx:=bx);rw[<-R]at ap;have y:r[I.p]?=st[I.p]?:=by rw[R];exact aaj B.p
 have H:=y.trans k;have C:Q r=Q st+1:=by rw[R];simp
 have G:r[Q st]?=Z (.rows 0 1 (aT [eB f.vs i.a])):=by rw[R];simp
 have T:=B.p;have z:=h.Gh (st':=r.set I.p (.rows 0 15 [jl x cl I.s I.iv I.g (.mu I.fq I.fv) I.mp m.e m.code (.mu (Q st) 0) m.aL])) (o:=Q st) (ov:=0) (out:=m.out++[eB f.vs i.a]) (by simp) (.inr (Nat.le_refl _))
  (λj E N _=>by rw[aao λq=>N q.symm,R];exact aaj E) (aar (by omega)) (by rw[aao (by omega),G,q];rfl)
 refine⟨_,_,?_,λL M=>?_,?_,z⟩;simp[C];refine aG (sf:=s64) rfl rfl rfl ?_;have v:L<=I.p:=adX M J;simp[s64,ID.cells,w];rw[iu];simp[-zh,-tc,cY,fh,cA,bw,bP,eu.aX,k,jl,cut,v1,ap,H,v,aB];refine⟨_,_,⟨rfl,rfl⟩,?_⟩;simp[k,jl,cut,bO,AV.cP,AV.aj,kz.de,AV.de]
 rfl
 have k:=F;rw[U q]at k;have hO:=h.O q;obtain⟨r,R⟩:∃s,s=st.set I.o (.rows (I.ov+1) 1 (aT (m.out++[eB f.vs i.a]))):=⟨_,rfl⟩;have ap:=λL bx=>aol (ai:=L) (n:=eB f.vs i.a) (bx:=bx) hO (by unfold dj;omega);rw[<-R]at ap;have t:I.o≠I.p:=CB (h.lo q) h.lp (by decide);have y:r[I.p]?=st[I.p]?:=by rw[R];exact aao t
 have H:=y.trans k;have C:Q r=Q st:=by rw[R];simp
 have G:r[I.o]?=Z (.rows (I.ov+1) 1 (aT (m.out++[eB f.vs i.a]))):=by rw[R];exact aar (B.o q)
 have T:=B.p;have z:=h.Gh (st':=r.set I.p (.rows 0 15 [jl x cl I.s I.iv I.g (.mu I.fq I.fv) I.mp m.e m.code (.mu I.o (I.ov+1)) m.aL])) (o:=I.o) (ov:=I.ov+1) (out:=m.out++[eB f.vs i.a]) (by simp) (.inl ⟨q,rfl⟩)
  (λj E N n2=>by rw[aao λq=>N q.symm,R];exact aao λc=>n2 q c.symm) (aar (by omega)) (by rw[aao t.symm,G])
 refine⟨_,_,?_,λL M=>?_,?_,z⟩;simp[C];refine aG (sf:=s64) rfl rfl rfl ?_;have v:L<=I.p:=adX M J;simp[s64,ID.cells,w];rw[iu];simp[-zh,-tc,cY,fh,cA,bw,bP,eu.aX,k,jl,cut,v1,ap,H,v,aB];refine⟨_,_,⟨rfl,rfl⟩,?_⟩;simp[k,jl,cut,bO,AV.cP,AV.aj,kz.de,AV.de]
 rfl
end uJ
namespace uJ
open Ax Go aM dW gy
variable {x:XD}{cl:AV}{ai:Nat}{m:Ms}{I:v9}{st st':aO}{f:Fr}{l:List Fr}{i:ID}
def q0(m:Ms)(I:v9):Nat:=if m.s=[] then I.s else I.q
theorem ee.S0(h:ee x cl ai m I st):xI.Rp st I.s m.s (q0 m I) I.v I.gm:=by
 unfold q0;by_cases e:m.s=[];rw[af e];have:=h.S;exact⟨this.len,by rw[this.bX,af e,af e],λc=>bH e c,this.el,λc=>bH e c,this.pn,λc=>bH e c,this.nd⟩;rw[U e];exact h.S
theorem ee.PO(h:ee x cl ai m I st):I.ku (q0 m I)=.st:=by
 unfold q0;by_cases e:m.s=[];rw[af e];exact h.ls;rw[U e];exact h.lq e
def I2(I:v9)(n q v:Nat):v9:={ I with q:=q,v:=v,gm:=I.gm++[n],ku:=λj=>if n<=j then .st else I.ku j }
theorem ee.alloc(h:ee x cl ai m I st){w q v}(r:xI.Rp st' I.s (m.s++[w]) q v (I.gm++[Q st]))(fr:xI.Fr st st' [I.s,q0 m I])(n:m.s≠[]->q=q0 m I)(t:m.s=[]->Q st<=q):
  ee x cl ai { m with s:=m.s++[w] } (I2 I (Q st) q v) st':=by
 have B:=h.SX;have o:ai<=Q st:=by
  have:=h.low I.p (by rw[h.lp];decide);have:=B.p;omega
 refine h.aeP r (λj k g=>fr.2 j k λH=>?_) (λj k=>ah) (λ_=>?_) (λj k=>?_) (λj k=>?_);simp only[ac2,List.not_mem_nil,or_false]at H;rcases H with rfl|rfl;exact g h.ls;exact g h.PO;show (if Q st<=q then Lb.st else I.ku q)=.st;by_cases e:m.s=[]
 grind
 have:=n e;split
 rfl
 rw[this];exact h.PO;show (if Q st<=j then Lb.st else I.ku j)=.st;rcases List.mem_append.1 k with k|k;rw[U (by have:=B.gm j k;omega)];exact h.li j k
 grind
 by_cases q:Q st<=j;omega;rw[U q]at k;exact h.low j k
theorem G5(h:ee x cl ai m I st)(e:m.l=f::l)(y:Q m.l<=1000)(v:Q m.s<1000000)(z:mX i.args=Y)(E:cL i.args=Y)(w:qf (Q f.vs) i.a){cells}(T:cl=cw 1 (aT cells)){k:Nat}(C:i.n=k)(H):
  ∃st' t,Q st<=Q st'/\(∀L,L<=ai->(bh S).call 0 L 60 [.ptr I.p 0 0 0,.agg i.cells] st=Z (.fC [],st'))/\t.p=I.p/\
   ee x cl ai (gO { m with s:=m.s++[aag (lX cells[k]) 0] } i.a (Q m.s+1)) t st':=by
 have j:=dY z;have kY:=bQ E j;obtain⟨J,q1,v1,M,R,F,o,W⟩:=xI.Vo h.S0 cells[k] v;have r:=h.alloc R F o (λe=>(W e).1);obtain⟨g,l2,N,G⟩:=tL r e y i.a ((Q m.s:Int)+1) w;have q:=h.P;have Jo:=h.low _ (show I.ku I.s≠.no by rw[h.ls];decide);have B:=h.low _ (show I.ku (q0 m I)≠.no by rw[h.PO];decide);have D:cl.aj=.eE 1 (aT cells):=by
  rw[T];cases cells with
  |nil=>simp at H|cons a b=>rfl
 refine⟨g,_,by have:=F.1;omega,λL Ml=>?_,?_,G⟩;refine aG (sf:=s60) rfl rfl rfl ?_;have O:=M L (by omega) (by omega);have U:∀L,(bh S).call 0 L 107 [.ptr I.p 0 0 0,.int .i64 i.a,.int .i64 ((Q m.s:Int)+1)] J=Z (.fC [],g):=N;simp[s60,ID.cells,j,q,jl,cut,D,C,H,O,U,aA,ay]
 rfl
theorem aeS(h:ee x cl ai m I st)(e:m.l=f::l)(n:Q m.l<=1000)(r:mX i.args=Y)(E:cL i.args=Y)(o:qf (Q f.vs) i.a)(q:qf (Q f.vs) i.b)(t:eB f.vs i.b<0\/50<eB f.vs i.b):
  ∃st',Q st<=Q st'/\(∀L,(bh S).call 0 L 61 [.ptr I.p 0 0 0,.agg i.cells] st=Z (.fC [],st'))/\ee x cl ai (gC m 4) I st':=by
 have j:=dY r;have w:=bQ E j;have M:=h.eD [.rows 0 1 [[.ptr I.p 0 0 0]],.rows 0 1 [[.int .i64 i.a]]];obtain⟨v,y,B,R⟩:=Dr M e n i.a 0 4 o (b1:=Q st) (b2:=Q st+1) (by simp) (by simp);have v1:=λC L=>zH C L M e n i.b q;have G:=λC L=>tO C L I.p i.a st;have g:=λC L st=>xI.Vp (p:=I.s) C L (eB f.vs i.b) st t;have F:=M.P;have H:=h.P;have k:=R.P;have U:nB m i.a (0,4)=gC m 4:=rfl;rw[U]at R;refine⟨v,by grind,λL=>?_,R⟩;refine aG (sf:=s61) rfl rfl rfl ?_;simp[s61,ID.cells,j];rw[iu];simp[cY,fh,cA,bP,eu.aX,G,F,jl,cut,v1,g,B];refine⟨_,_,⟨rfl,rfl⟩,?_⟩;simp[H,F,jl,cut,bO,AV.cP,AV.aj,kz.de,AV.de]
theorem Lp(h:ee x cl ai m I st)(e:m.l=f::l)(v:Q m.l<=1000)(hS:Q m.s<1000000)(hi:mX i.args=Y)(N:cL i.args=Y)(ha:qf (Q f.vs) i.a)(hb:qf (Q f.vs) i.b){n:Nat}(hn:eB f.vs i.b=n)(j:n<=50):
  ∃st' t,Q st<=Q st'/\(∀L,L<=ai->(bh S).call 0 L 61 [.ptr I.p 0 0 0,.agg i.cells] st=Z (.fC [],st'))/\t.p=I.p/\
   ee x cl ai (gO { m with s:=m.s++[aag n 0] } i.a (Q m.s+1)) t st':=by
 have w:=dY hi;have kY:=bQ N w;have M:=h.eD [.rows 0 1 [[.ptr I.p 0 0 0]],.rows 0 1 [[.int .i64 i.a]]];have v1:=λC L=>zH C L M e v i.b hb;rw[hn]at v1;have gg:=λC L=>tO C L I.p i.a st;have O:(st++[iW.rows 0 1 [[.ptr I.p 0 0 0]],.rows 0 1 [[.int .i64 i.a]]])[Q st]?=Z (.rows 0 1 [[.ptr I.p 0 0 0]]):=by simp
 have T:(st++[iW.rows 0 1 [[.ptr I.p 0 0 0]],.rows 0 1 [[.int .i64 i.a]]])[Q st+1]?=Z (.rows 0 1 [[.int .i64 i.a]]):=by simp
 have o:=M.P;have H:=h.P;have B:=h.SX;have lA:Q (st++[iW.rows 0 1 [[.ptr I.p 0 0 0]],.rows 0 1 [[.int .i64 i.a]]])=Q st+2:=by simp
 generalize hs0:st++[iW.rows 0 1 [[.ptr I.p 0 0 0]],.rows 0 1 [[.int .i64 i.a]]]=y at *;obtain⟨k,q1,W,t1,r1,F,D,J⟩:=xI.Vq M.S0 n hS j;have R:=M.alloc r1 F D (λe=>(J e).1);have bs:=B.s;have ls0:q0 m I<Q st:=by
  unfold q0;split;exact B.s;rename_i c;exact B.q c
 have g:k[Q st]?=Z (.rows 0 1 [[.ptr I.p 0 0 0]]):=by
  rw[F.2 _ (by omega) (by simp;omega)];exact O
 have G:k[Q st+1]?=Z (.rows 0 1 [[.int .i64 i.a]]):=by
  rw[F.2 _ (by omega) (by simp;omega)];exact T
 obtain⟨z,l2,t2,r⟩:=Dr R e v i.a ((Q m.s:Int)+1) 0 ha g G;have t4:∀L,(bh S).call 0 L 142 [.int .i64 ((Q m.s:Int)+1),.int .i64 0,.ptr (Q st) 0 0 0,.ptr (Q st+1) 0 0 0] k=Z (.fC [],z):=t2;have hg:nB { m with s:=m.s++[aag n 0] } i.a ((Q m.s:Int)+1,0)=gO { m with s:=m.s++[aag n 0] } i.a ((Q m.s:Int)+1):=by unfold nB;grind
 rw[hg]at r;have Jo:=h.low _ (show I.ku I.s≠.no by rw[h.ls];decide);have hlq:=h.low _ (show I.ku (q0 m I)≠.no by rw[h.PO];decide);have U:=r.P;have zK:(I2 I (Q y) q1 W).p=I.p:=rfl;have E:(I2 I (Q y) q1 W).s=I.s:=rfl;rw[zK,E]at U;refine⟨z,_,by grind,λL Ml=>?_,?_,r⟩;have t3:=t1 L (by omega) (by omega);refine aG (sf:=s61) rfl rfl rfl ?_;simp[s61,ID.cells,w];rw[iu];simp[cY,fh,cA,bP,eu.aX,gg,o,jl,cut,v1,t3,t4];refine⟨_,_,⟨rfl,rfl⟩,?_⟩;simp[H,o,jl,cut,bO,AV.cP,AV.aj,kz.de,AV.de]
 rfl
end uJ
namespace uJ
open Ax Go aM dW gy
variable {x:XD}{cl:AV}{ai:Nat}{m:Ms}{I:v9}{st st':aO}{f:Fr}{l:List Fr}{i:ID}
theorem atw{ai q v n:Nat}{kF st bx}(h:st[q]?=Z (.rows v 1 kF))(g:n<=Q kF):
  bD 0 ai (.wC 1) [.val (.mu q v),.val (.int .i64 n)] st bx=Z (.val (.mu q (v+1)),st.set q (.rows (v+1) 1 (kF.take n)),bx):=by
 simp_all
theorem Vu(h:ee x cl ai m I st)(e:m.l=f::l)(hd:Q m.l<=1000)(hi:mX i.args=Y)(eC:cL i.args=Y)(ha:i.a = -1\/qf (Q f.vs) i.a)(hto:f.to = -1\/∀g l',l=g::l'->qf (Q g.vs) f.to):
  ∃st' I',Q st'=Q st/\(∀L,L<=ai->(bh S).call 0 L 67 [.ptr I.p 0 0 0,.agg i.cells] st=Z (.fC [],st'))/\I'.p=I.p/\ee x cl ai (gi m (if i.a<0 then 0 else eB f.vs i.a)) I' st':=by
 have z:=dY hi;have kY:=bQ eC z;have F:=h.P;have B:=h.SX;obtain⟨a,b,wg,h1,h2,h3,h4,h5,h6,h7⟩:=h.top e;have D:=λW L=>Hv W L h wg hd;obtain⟨R,t,E,hg,hb,hRe⟩:=h.fl wg hd;have XZ:Q b=Q l:=h3.len;have hw:IntKind.i64.wrap (Q b:Int)=(Q b:Int):=by rw[dg]<;>omega
 have hpf:I.p≠I.fq:=CB h.lp h.lf (by decide);have sl:=λL bx=>atw (ai:=L) (bx:=bx) (n:=Q b) t (by simp;omega);have azb:(R++[[AV.ptr a.1 0 0 0]]).take (Q b)=R:=by grind
 rw[azb]at sl;obtain⟨k,wm⟩:∃s,s=st.set I.fq (.rows (I.fv+1) 1 R):=⟨_,rfl⟩;rw[<-wm]at sl;have l1:Q k=Q st:=by grind
 have H:k[I.p]?=Z (.rows 0 15 [jl x cl I.s I.iv I.g (.mu I.fq I.fv) I.mp m.e m.code (if m.out=[] then .aF else .mu I.o I.ov) m.aL]):=by grind
 have g1F:k[I.fq]?=Z (.rows (I.fv+1) 1 R):=by grind
 have o1:∀j,j≠I.fq->k[j]?=st[j]?:=λj hj=>by grind
 have bp:=B.p;have w:∀y,(k.set I.p y)[I.p]?=Z y:=λy=>aar (by omega);have gn:∀y j,j≠I.p->(k.set I.p y)[j]?=k[j]?:=λy j hj=>aao λq=>hj q.symm;have G:∀y,(k.set I.p y)[I.fq]?=Z (.rows (I.fv+1) 1 R):=λy=>(gn y _ hpf.symm).trans g1F;have R2:=h.pop (st':=k.set I.p (.rows 0 15 [jl x cl I.s I.iv I.g (.mu I.fq (I.fv+1)) I.mp m.e m.code (if m.out=[] then .aF else .mu I.o I.ov) m.aL])) e wg
  (λj n1 n2=>(gn _ j n1).trans (o1 j n2)) (w _) (by rw[G,hRe])
 have l2:Q (k.set I.p (.rows 0 15 [jl x cl I.s I.iv I.g (.mu I.fq (I.fv+1)) I.mp m.e m.code (if m.out=[] then .aF else .mu I.o I.ov) m.aL]))=Q st:=by simp[l1]
 have v1:0<=i.a->∀W L,(bh S).call W L 108 [.ptr I.p 0 0 0,.int .i64 i.a] st=Z (.int .i64 (eB f.vs i.a),st):=λc W L=>zH W L h e hd i.a (by grind);have gfr:(k.set I.p (.rows 0 15 [jl x cl I.s I.iv I.g (.mu I.fq (I.fv+1)) I.mp m.e m.code (if m.out=[] then .aF else .mu I.o I.ov) m.aL]))[a.1]?=Z (.rows 0 4 [rH f a.2]):=by
  rw[gn _ _ (CB h5 h.lp (by decide)),o1 _ (CB h5 h.lf (by decide))];exact h1
 have Jo:=h.low _ (show I.ku I.p≠.no by rw[h.lp];decide);have bK:(Q b:Int)<(Q b:Int)+1:=by omega
 cases hl:l with
 |nil=>
  have hb0:Q b=0:=by grind
  have hR0:R=[]:=List.eq_nil_of_length_eq_zero (by omega);have em:gi m (if i.a<0 then 0 else eB f.vs i.a)={ m with l:=[],e:=1 }:=by unfold gi;rw[e,hl]
  rw[hl]at R2;have R3:=R2.aK { m with l:=[],e:=1 } I.iv rfl rfl rfl rfl h.iv;refine⟨_,_,?_,λL M=>?_,?_,by rw[em];exact R3⟩;simp[l1]
  skip
  subst hR0;rw[hb0]at sl;have N:∀L bx,bD 0 L (.wC 1) [.val (.mu I.fq I.fv),.val (.int .i64 0)] st bx=Z (.val (.mu I.fq (I.fv+1)),k,bx):=sl;have J:IntKind.i64.wrap 0=0:=by grind
  simp at t;refine aG (sf:=s67) rfl rfl rfl ?_;have v:L<=I.p:=adX M Jo;by_cases c:i.a<0;have C:¬0<=i.a:=by omega
  simp[-zg,s67,ID.cells,z,D,C,F,t,jl,cut,aA,ay,N,J,H,w,G,bw,AV.aD,AV.aH,aB,v];have C:0<=i.a:=by omega
  have O:=v1 C;simp[-zg,s67,ID.cells,z,D,C,O,F,t,jl,cut,aA,ay,N,J,H,w,G,bw,AV.aD,AV.aH,aB,v]
  rfl
 |cons g l'=>
  have hbn:¬((Q b:Int)=0):=by
   grind
  have r:¬b=[]:=λc=>hbn (by rw[c];rfl);have ga:∀y,(k.set I.p y)[a.1]?=Z (.rows 0 4 [rH f a.2]):=λy=>by
   rw[gn _ _ (CB h5 h.lp (by decide)),o1 _ (CB h5 h.lf (by decide))];exact h1
  have em:gi m (if i.a<0 then 0 else eB f.vs i.a)=if 0<=f.to then gO { m with l:=l } f.to (if i.a<0 then 0 else eB f.vs i.a) else { m with l:=l }:=by
   unfold gi gO;rw[e,hl];by_cases q:0<=f.to;all_goals grind
  have hd2:Q ({ m with l:=l }:Ms).l<=1000:=by
   grind
  have hlr:Q (R++[[AV.ptr a.1 0 0 0]])=Q b+1:=by simp[E]
  by_cases q:0<=f.to
  ·rw[af q]at em;have LZ:qf (Q g.vs) f.to:=by
    rcases hto with c|c;all_goals grind
   obtain⟨s3,l3,t3,r3⟩:=tL R2 (f:=g) (l:=l') hl hd2 f.to (if i.a<0 then 0 else eB f.vs i.a) LZ;rw[l2]at l3;refine⟨s3,_,l3,λL M=>?_,?_,by rw[em];exact r3⟩
   skip
   have T:∀L,(bh S).call 0 L 107 [.ptr I.p 0 0 0,.int .i64 f.to,.int .i64 (if i.a<0 then 0 else eB f.vs i.a)] _=Z (.fC [],s3):=t3;simp only[jl]at T;refine aG (sf:=s67) rfl rfl rfl ?_;have v:L<=I.p:=adX M Jo;by_cases c:i.a<0;have C:¬0<=i.a:=(by omega);simp only[af c]at T;simp[-zg,s67,ID.cells,z,D,C,F,t,E,hw,r,jl,rH,cut,aA,ay,sl,H,w,G,ga,q,T,bw,AV.aD,AV.aH,aB,v];have C:0<=i.a:=(by omega);have O:=v1 C;simp only[U c]at T;simp[-zg,s67,ID.cells,z,D,C,O,F,t,E,hw,r,jl,rH,cut,aA,ay,sl,H,w,G,ga,q,T,bw,AV.aD,AV.aH,aB,v]
   rfl
  rw[U q]at em;refine⟨_,_,l2,λL M=>?_,?_,by rw[em];exact R2⟩
  skip
  refine aG (sf:=s67) rfl rfl rfl ?_;have v:L<=I.p:=adX M Jo;by_cases c:i.a<0;have C:¬0<=i.a:=by omega
  simp[-zg,s67,ID.cells,z,D,C,F,t,E,hw,r,jl,rH,cut,aA,ay,sl,H,w,G,ga,q,bw,AV.aD,AV.aH,aB,v];have C:0<=i.a:=by omega
  have O:=v1 C;simp[-zg,s67,ID.cells,z,D,C,O,F,t,E,hw,r,jl,rH,cut,aA,ay,sl,H,w,G,ga,q,bw,AV.aD,AV.aH,aB,v]
  rfl
end uJ
namespace uJ
open Ax Go aM dW gy
variable {x:XD}{cl:AV}{ai:Nat}{m:Ms}{I:v9}{st st':aO}{f:Fr}{l:List Fr}{i:ID}{X:MP}
structure Of (x:XD)(cl:AV)(X:MP):Prop where
 ok:x.ok
 aJ:X.aJ=fm x.aJ
 cl:cl=cw 1 (aT (X.cells.map λn:Nat=>(n:Int)))
 vars:∀c∈fm x.aJ,(cx c.vars).length<1000000
theorem Of.nv(h:Of x cl X){c}(H):nQ X c=Q (cx (fm x.aJ)[c].vars):=by
 unfold nQ;rw[h.aJ,List.getD_eq_getElem?_getD,List.getElem?_eq_getElem H]
 rfl
def Did(x:XD)(cl:AV)(ai:Nat)(M:Ms)(I:v9)(st:aO)(fn:Nat)(i:ID):Prop:=
 ∃st' t,Q st<=Q st'/\(∀L,L<=ai->(bh S).call 0 L fn [.ptr I.p 0 0 0,.agg i.cells] st=Z (.fC [],st'))/\t.p=I.p/\ee x cl ai M t st'
theorem Did.of{M fn}(h:∃st',Q st'=Q st/\(∀L,(bh S).call 0 L fn [.ptr I.p 0 0 0,.agg i.cells] st=Z (.fC [],st'))/\ee x cl ai M I st'):Did x cl ai M I st fn i:=by
 obtain⟨s,j,H,g⟩:=h;exact⟨s,I,by omega,λL _=>H L,rfl,g⟩
theorem atx(O:Of x cl X)(h:ee x cl ai m I st)(e:m.l=f::l)(hd:Q m.l<=40)(w:Q m.s<1000000)(ho:Q m.out<1000000){ni}(z:Fit X (Q f.vs) ni i)(H:mX i.args=Y)(E:cL i.args=Y)(hg:Q m.g=X.ng)(hto:f.to = -1\/∀g l',l=g::l'->qf (Q g.vs) f.to):Did x cl ai (qt X m f.vs i) I st (49+i.op.toNat) i:=by
 have j:Q m.l<=1000:=by omega
 have F:∀k:Nat,i.op=k->49+i.op.toNat=49+k:=λk hk=>by omega
 have o:=z.a;have t:=z.b;have L:=z.c;unfold qt;by_cases M:i.op=1;rw[af M,F 1 M];exact .of (SY h e j H E (o (by omega) (by omega) (by omega)));rw[U M];by_cases N:i.op=2;rw[af N,F 2 N];exact .of (aiN h e j H E (o (by omega) (by omega) (by omega)));rw[U N];by_cases P:i.op=3;rw[af P,F 3 P];exact .of (ZZ h e j H E (o (by omega) (by omega) (by omega)) (t (by omega)));rw[U P];by_cases R:i.op=4;rw[af R,F 4 R];obtain⟨S,q,W,p⟩:=U1 h e j H E (o (by omega) (by omega) (by omega)) (t (by omega)) (L (by omega));exact .of ⟨S,q,W,p⟩;rw[U R];by_cases T:i.op=5;rw[af T,F 5 T];exact .of (Ur h e j H E (o (by omega) (by omega) (by omega)) (t (by omega)));rw[U T];by_cases h6:i.op=6;rw[af h6,F 6 h6];exact .of (AZ h e j w H E (o (by omega) (by omega) (by omega)) (t (by omega)));rw[U h6];by_cases h7:i.op=7;rw[af h7,F 7 h7];exact .of (aiR h e j w H E (o (by omega) (by omega) (by omega)) (t (by omega)));rw[U h7];by_cases h8:i.op=8;rw[af h8,F 8 h8];exact .of (aiQ h e j w H E (o (by omega) (by omega) (by omega)) (t (by omega)) (L (by omega)));rw[U h8];by_cases h9:i.op=9;rw[af h9,F 9 h9];exact .of (aoj h e j w H E (o (by omega) (by omega) (by omega)) (t (by omega)) (L (by omega)));rw[U h9];by_cases D:i.op=10;rw[af D,F 10 D];exact .of (Z0 h e j w H E (o (by omega) (by omega) (by omega)) (t (by omega)));rw[U D];by_cases y:i.op=11;rw[af y,F 11 y];obtain⟨b1,b2⟩:=z.Sf y;have hk:i.n.toNat<Q X.cells:=by omega
 obtain⟨S,r,q,W,p,v⟩:=G5 h e j w H E (o (by omega) (by omega) (by omega)) O.cl (k:=i.n.toNat) (by omega) (by grind);refine⟨S,r,q,W,p,?_⟩
 grind
 rw[U y];by_cases sM:i.op=12;rw[af sM,F 12 sM];have ha:=o (by omega) (by omega) (by omega);have hb:=t (by omega);by_cases c:eB f.vs i.b<0\/50<eB f.vs i.b;rw[af c];obtain⟨S,q,W,p⟩:=aeS h e j H E ha hb c;exact⟨S,I,q,λli _=>W li,rfl,p⟩;rw[U c];obtain⟨S,r,q,W,p,v⟩:=Lp h e j w H E ha hb (n:=(eB f.vs i.b).toNat) (by omega) (by omega);exact⟨S,r,q,W,p,v⟩;rw[U sM];by_cases C:i.op=13;rw[af C,F 13 C];obtain⟨c1,c2,c3,c4⟩:=z.call C;unfold uG;by_cases c:40<=Q m.l;rw[af c];exact .of (aiW h H E c);rw[U c];have hc:i.c.toNat<Q (fm x.aJ):=by rw[<-O.aJ];omega
 have hv:=O.vars _ (aah hc);have hnv:=O.nv hc;rw[hnv]at c3;obtain⟨S,r,q,W,p,v⟩:=xW O.ok h e hd H E (c:=i.c.toNat) (by omega) hc hv c4 c3 (by omega);refine⟨S,r,q,W,p,?_⟩
 grind [qp]
 rw[U C];by_cases G:i.op=14;rw[af G,F 14 G];obtain⟨S,r,q,W,p,v⟩:=PM h e j H E (o (by omega) (by omega) (by omega));exact⟨S,r,by omega,λli _=>W li,p,v⟩;rw[U G];by_cases J:i.op=15;rw[af J,F 15 J];exact Z2 h e j H E (o (by omega) (by omega) (by omega)) ho;rw[U J];by_cases yp:i.op=16;rw[af yp,F 16 yp];exact .of (aiS h e j H E);rw[U yp];by_cases yq:i.op=17;rw[af yq,F 17 yq];exact .of (Z1 h e j H E (o (by omega) (by omega) (by omega)));rw[U yq];by_cases B:i.op=18;rw[af B,F 18 B];obtain⟨S,r,q,W,p,v⟩:=Vu h e j H E (z.a2 (.inr B)) hto;exact⟨S,r,by omega,W,p,v⟩;rw[U B];by_cases zy:i.op=19;rw[af zy,F 19 zy];exact .of (aoi h e j H E (o (by omega) (by omega) (by omega)) (by rw[hg];exact z.aiv (by omega)));rw[U zy];by_cases zM:i.op=20;rw[af zM,F 20 zM];exact .of (yF h e j H E (o (by omega) (by omega) (by omega)) (by rw[hg];exact z.aiv (by omega)));have:=z.op;omega
end uJ
