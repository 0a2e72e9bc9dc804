/-
  Calls.
-/
import Derived.Test.YtgblgbgjmgjfkaaGreatU

open List renaming getElem_mem->acH,take_of_length_le->aea,flatMap_cons->alh,cons_append->aer,nil_append->aeN,mem_cons->aev,nodup_cons->aiY,replicate->acp,getElem?_set_ne->ad6,getElem?_set_self->ad9,getElem?_append_left->acJ
open Nat renaming le_trans->aeM
set_option maxRecDepth 100000
set_option maxHeartbeats 4000000
namespace ur
open Ax Go aO dh iq
variable {x:XD}{cl:AV}{ah:Nat}{m:Ms}{I:uF}{st st':aj}{f:Fr}{l:List Fr}{i:ID}
theorem ahz(wl L:Nat)(h:dL x cl ah m I st)(e:m.l=f::l)(q:m.l.length<=1000){a:AV}(H:mK a=true)(E:cJ a=true)(r:∀n∈dI a,pe f.vs.length n)(z:(dI a).length<1000000) :
  (aZ S).call wl L 118 [a,.fn 108 [.ptr I.p 0 0 0] []] st=some (cq 1 (aP ((dI a).map (dQ f.vs))),st):=by
 have j:=eA H;have o:=bT E j;have T:=cY H;refine aG (sf:=akP) rfl rfl rfl ?_;simp[akP,j,o,T];refine bN VD.eq_1 (λk:Nat=>⟨[(1,.val (.fn 108 [.ptr I.p 0 0 0] [])),(5,.val (cq 1 (aP (((dI a).map (dQ f.vs)).take k)))),(8,.val a),(9,.val (.int .i64 (dI a).length)),(10,.val (.int .i64 k))],[],st⟩)
  (λk=>k<=(dI a).length) (λk=>(dI a).length-k) 0 (by simp[cq,aP]) (by simp) ?_
 intro k y v;by_cases F:k<(dI a).length;have s:=wk k (by omega);have v1:=λwl L=>yR wl L h e q (dI a)[k] (r _ (acH F));have g:((dI a).map (dQ f.vs)).take (k+1)=((dI a).map (dQ f.vs)).take k++[dQ f.vs (dI a)[k]]:=by
  simp_all [List.take_succ_eq_append_getElem]
 have w:v8 1 8 (cq 1 (aP (((dI a).map (dQ f.vs)).take k))) [[.int .i64 (dQ f.vs (dI a)[k])]]=some (cq 1 (aP (((dI a).map (dQ f.vs)).take (k+1)))):=by
  rw[gP (by rfl) (by simp[cZ];omega),g];simp[aP]
 have t:=DF H;simp[t,o,T,F,v1,w,s];exact v (k+1) (by omega) (by omega);have G:k=(dI a).length:=by omega
 have g:((dI a).map (dQ f.vs)).take k=(dI a).map (dQ f.vs):=aea (by simp;omega);simp_all
theorem dL.push(h:dL x cl ah m I st){a b:Nat}{g:Fr}(k:∀j,j<st.length->j≠I.p->j≠I.fq->st'[j]?=st[j]?)
  (w:st'[I.p]?=some (.rows 0 15 [iT x cl I.s I.iv I.g (.mu I.fq (I.fv+1)) I.mp m.e m.code (if m.out=[] then .aF else .mu I.o I.ov) m.aK]))
  (D:st'[I.fq]?=some (.rows (I.fv+1) 1 ((I.fl.reverse.map λf=>[AV.ptr f.1 0 0 0])++[[.ptr b 0 0 0]])))
  (z:st.length<=a) (C:st.length<=b) (V:a≠b) (r:st'[b]?=some (.rows 0 4 [qG g a])) (t:st'[a]?=some (.rows 0 1 (aP g.vs))) :
  dL x cl ah { m with l:=g::m.l } { I with fv:=I.fv+1,fl:=(b,a)::I.fl,jO:=λj=>if j=a\/j=b then .fr else I.jO j } st':=by
 have B:=h.RN;have L:∀j,j<st.length->(if j=a\/j=b then Lb.fr else I.jO j)=I.jO j:=λj H=>U (by omega);have K:∀j,j<st.length->I.jO j≠.p->I.jO j≠.fs->st'[j]?=st[j]?:=λj H N y=>k j H (λq=>N (by rw[q];exact h.lp)) (λq=>y (by rw[q];exact h.lf));have v:ah<=st.length:=by
  have:=h.low I.p (by rw[h.lp];decide);have:=B.p;omega
 refine⟨w,h.iv,h.S.ny (K _ B.s (by rw[h.ls];decide) (by rw[h.ls];decide)) (λe=>K _ (B.q e) (by rw[h.lq e];decide) (by rw[h.lq e];decide)) (λi n=>K i (B.fP i n) (by rw[h.li i n];decide) (by rw[h.li i n];decide)),?_,?_,
  ⟨r,t,h.FR.ny λi n=>K i (B.fr i n) (by rw[h.lr i n];decide) (by rw[h.lr i n];decide)⟩,λe=>?_,?_,(L _ B.p).trans h.lp,(L _ B.g).trans h.lg,(L _ B.fq).trans h.lf,λe=>(L _ (B.o e)).trans (h.lo e),(L _ B.mp).trans h.lm,(L _ B.s).trans h.ls,
  λe=>(L _ (B.q e)).trans (h.lq e),λj H=>(L _ (B.fP j H)).trans (h.li j H),λj H=>?_,?_,λj H=>?_⟩
 exact(K _ B.g (by rw[h.lg];decide) (by rw[h.lg];decide)).trans h.G
 grind
 exact(K _ (B.o e) (by rw[h.lo e];decide) (by rw[h.lo e];decide)).trans (h.O e);exact(K _ B.mp (by rw[h.lm];decide) (by rw[h.lm];decide)).trans h.M;simp only[kz,alh,aer,aeN,aev]at H;rcases H with rfl|rfl|H;simp;simp;exact(L _ (B.fr j H)).trans (h.lr j H);simp only[kz,alh,aer,aeN,aiY,aev,not_or];exact⟨⟨λq=>V q.symm,λq=>by have:=B.fr b q;omega⟩,λq=>by have:=B.fr a q;omega,h.nd⟩;simp only at H;by_cases q:j=a\/j=b;omega;rw[U q]at H;exact h.low j H
theorem dL.pop(h:dL x cl ah m I st)(e:m.l=f::l){c:Nat×Nat}{fl:List (Nat×Nat)}(t:I.fl=c::fl)(k:∀j,j≠I.p->j≠I.fq->st'[j]?=st[j]?)
  (y:st'[I.p]?=some (.rows 0 15 [iT x cl I.s I.iv I.g (.mu I.fq (I.fv+1)) I.mp m.e m.code (if m.out=[] then .aF else .mu I.o I.ov) m.aK]))
  (w:st'[I.fq]?=some (.rows (I.fv+1) 1 (fl.reverse.map λf=>[AV.ptr f.1 0 0 0]))) :
  dL x cl ah { m with l:=l } { I with fv:=I.fv+1,fl:=fl } st':=by
 have K:∀j,I.jO j≠.p->I.jO j≠.fs->st'[j]?=st[j]?:=λj N z=>k j (λq=>N (by rw[q];exact h.lp)) (λq=>z (by rw[q];exact h.lf));have r:∀j∈kz fl,j∈kz I.fl:=λj v=>by grind [kz]
 have H:=h.FR;have T:=h.nd;rw[e,t]at H;rw[t]at T;simp only[kz,alh,aer,aeN,aiY]at T;refine⟨y,h.iv,h.S.ny (K _ (by rw[h.ls];decide) (by rw[h.ls];decide)) (λe=>K _ (by rw[h.lq e];decide) (by rw[h.lq e];decide)) (λi n=>K i (by rw[h.li i n];decide) (by rw[h.li i n];decide)),?_,w,
  H.2.2.ny λi n=>K i (by rw[h.lr i (r i n)];decide) (by rw[h.lr i (r i n)];decide),λe=>?_,?_,h.lp,h.lg,h.lf,h.lo,h.lm,h.ls,h.lq,h.li,λj v=>h.lr j (r j v),T.2.2,h.low⟩
 exact(K _ (by rw[h.lg];decide) (by rw[h.lg];decide)).trans h.G;exact(K _ (by rw[h.lo e];decide) (by rw[h.lo e];decide)).trans (h.O e);exact(K _ (by rw[h.lm];decide) (by rw[h.lm];decide)).trans h.M
theorem dL.Fa(h:dL x cl ah m I st){o ov:Nat}{out:List Int}(C:out≠[])(r:(m.out≠[]/\o=I.o)\/st.length<=o)(k:∀j,j<st.length->j≠I.p->(m.out≠[]->j≠I.o)->st'[j]?=st[j]?)
  (y:st'[I.p]?=some (.rows 0 15 [iT x cl I.s I.iv I.g (.mu I.fq I.fv) I.mp m.e m.code (.mu o ov) m.aK]))(z:st'[o]?=some (.rows ov 1 (aP out))) :
  dL x cl ah { m with out:=out } { I with o:=o,ov:=ov,jO:=λj=>if j=o then .o else I.jO j } st':=by
 have B:=h.RN;have L:∀j,j<st.length->(m.out≠[]->I.jO j≠.o)->(if j=o then Lb.o else I.jO j)=I.jO j:=λj H v=>by
  by_cases q:j=o;rcases r with⟨c,d⟩|d;exact au (by rw[q,d];exact h.lo c) (v c);omega
  grind
 have K:∀j,j<st.length->I.jO j≠.p->I.jO j≠.o->st'[j]?=st[j]?:=λj H N w=>k j H (λq=>N (by rw[q];exact h.lp)) (λc q=>w (by rw[q];exact h.lo c));have t:ah<=st.length:=by
  have:=h.low I.p (by rw[h.lp];decide);have:=B.p;omega
 refine⟨?_,h.iv,h.S.ny (K _ B.s (by rw[h.ls];decide) (by rw[h.ls];decide)) (λe=>K _ (B.q e) (by rw[h.lq e];decide) (by rw[h.lq e];decide)) (λi n=>K i (B.fP i n) (by rw[h.li i n];decide) (by rw[h.li i n];decide)),?_,?_,
  h.FR.ny λi n=>K i (B.fr i n) (by rw[h.lr i n];decide) (by rw[h.lr i n];decide),λ_=>z,?_,(L _ B.p λ_=>by rw[h.lp];decide).trans h.lp,(L _ B.g λ_=>by rw[h.lg];decide).trans h.lg,(L _ B.fq λ_=>by rw[h.lf];decide).trans h.lf,λ_=>af rfl,
  (L _ B.mp λ_=>by rw[h.lm];decide).trans h.lm,(L _ B.s λ_=>by rw[h.ls];decide).trans h.ls,λe=>(L _ (B.q e) λ_=>by rw[h.lq e];decide).trans (h.lq e),λj H=>(L _ (B.fP j H) λ_=>by rw[h.li j H];decide).trans (h.li j H),
  λj H=>(L _ (B.fr j H) λ_=>by rw[h.lr j H];decide).trans (h.lr j H),h.nd,λj H=>?_⟩
 grind
 exact(K _ B.g (by rw[h.lg];decide) (by rw[h.lg];decide)).trans h.G;exact(K _ B.fq (by rw[h.lf];decide) (by rw[h.lf];decide)).trans h.F;exact(K _ B.mp (by rw[h.lm];decide) (by rw[h.lm];decide)).trans h.M;simp only at H;by_cases q:j=o;rcases r with⟨c,d⟩|d;rw[q,d];exact h.low _ (by rw[h.lo c];decide);omega;rw[U q]at H;exact h.low j H
end ur
namespace ur
open Ax Go aO dh iq
variable {x:XD}{cl:AV}{ah:Nat}{m:Ms}{I:uF}{st st':aj}{f:Fr}{l:List Fr}{i:ID}
theorem adE(L:Nat)(g:x.ok)(h:dL x cl ah m I st){c:Nat}(H:c<(iI x.aR).length)(q:(dn (iI x.aR)[c].vars).length<1000000)(to:Int) :
  (aZ S).call 0 L 21 [.ptr I.p 0 0 0,.int .i64 c,.int .i64 to] st =
   some (.ptr (st.length+1) 0 0 0,st++[.rows 0 1 (aP (acp (dn (iI x.aR)[c].vars).length 0)),.rows 0 4 [qG ⟨c,0,to,[]⟩ st.length]]):=by
 have s:=g.aR;have o:=Bv s;have K:=Cq s;have j:=nJ s;have v:=rC s _ (acH H);have n:=pz v.1;have r:=oN v.1;have y:=lE v.1;have Y:=h.P;have k:((dn (iI x.aR)[c].vars).length:Int)*8<=cZ:=by unfold cZ;omega
 have hint:acp (dn (iI x.aR)[c].vars).length [AV.int .i64 0]=aP (acp (dn (iI x.aR)[c].vars).length 0):=by simp[aP]
 refine aG (sf:=s21) rfl rfl rfl ?_;simp_all [s21,iT,CD.cells,qG]
variable{bx:bK}
theorem adF{wl ah a:Nat}{st:aj}:bz wl ah (.Sv 1 1 [.eP] [0]) [.val (.ptr a 0 0 0)] st bx=some (.val (.mu st.length 0),st++[.rows 0 1 [[.ptr a 0 0 0]]],bx):=rfl
theorem amJ{ah a b q v:Nat}{jf:List (List AV)}{st:aj}(h:st[b]?=some (.rows 0 1 [[.ptr a 0 0 0]]))(H:st[q]?=some (.rows v 1 jf))(j:(jf.length+1)*8<=cZ)(g:ah<=q) :
  bz 0 ah (.jH 1 8) [.val (.mu q v),.val (.mu b 0)] st bx=some (.val (.mu q (v+1)),st.set q (.rows (v+1) 1 (jf++[[.ptr a 0 0 0]])),bx):=by
 simp[bz,tR,dG,fA,h,H,cr,AV.cC,AV.ai,j,g]
theorem ahA{ah id v:Nat}{jf new:List Int}{st:aj}(h:st[id]?=some (.rows v 1 (aP jf)))(j:new.length<=jf.length) :
  bz 0 ah (.copy 1) [.val (.mu id v),.val (cq 1 (aP new))] st bx=some (.val (.int .i64 new.length),st.set id (.rows v 1 (aP (new++jf.drop new.length))),bx):=by
 have g:cr 1 (aP new)=true:=by simp_all
 have k:(aP new).all AV.aB=true:=by simp[aP,AV.aB,AV.aH]
 have H:dG st (cq 1 (aP new))=some (aP new):=by
  simp_all
 simp_all [bz]
theorem xm(hx:x.ok)(h:dL x cl ah m I st)(e:m.l=f::l)(hd:m.l.length<=40)(hi:mK i.args=true)(ee:cJ i.args=true){c:Nat}(R:i.c=c)(hc:c<(iI x.aR).length)
  (hv:(dn (iI x.aR)[c].vars).length<1000000)(hn:∀n∈dI i.args,pe f.vs.length n)(hlen:(dI i.args).length<=(dn (iI x.aR)[c].vars).length)(h40:m.l.length<40) :
  ∃st' I',st.length<=st'.length/\(∀L,L<=ah->(aZ S).call 0 L 62 [.ptr I.p 0 0 0,.agg i.cells] st=some (.eY [],st'))/\I'.p=I.p/\
   dL x cl ah { m with l:=⟨c,0,i.a,(dI i.args).map (dQ f.vs)++acp ((dn (iI x.aR)[c].vars).length-(dI i.args).length) 0⟩::m.l } I' st':=by
 have hs:=eA hi;have kh:=bT ee hs;have Y:=h.P;have hF:=h.F;have B:=h.RN;have en:=λL=>adE L hx h hc hv i.a;generalize hnv:(dn (iI x.aR)[c].vars).length=N at *;have C5:=h.FR.len;have Fx:((dI i.args).map (dQ f.vs)).length=(dI i.args).length:=by simp
 generalize Dq:(dI i.args).map (dQ f.vs)=vs at *;obtain⟨r,vk⟩:∃s,s=st++[.rows 0 1 (aP (acp N 0)),.rows 0 4 [qG ⟨c,0,i.a,[]⟩ st.length]]:=⟨_,rfl⟩;have l1:r.length=st.length+2:=by grind
 have r1:dL x cl ah m I r:=by rw[vk];exact h.dO _
 have E:r[st.length]?=some (.rows 0 1 (aP (acp N 0))):=by grind
 have G:r[st.length+1]?=some (.rows 0 4 [qG ⟨c,0,i.a,[]⟩ st.length]):=by grind
 have o1:∀j,j<st.length->r[j]?=st[j]?:=λj H=>by grind
 rw[<-vk]at en;have ea:=λwl L=>ahz wl L r1 e (by omega) hi ee hn (by omega);rw[Dq]at ea;have D:=λL bx=>ahA (ah:=L) (bx:=bx) (new:=vs) E (by simp;omega);have z:vs++(acp N (0:Int)).drop vs.length=vs++acp (N-(dI i.args).length) 0:=by grind
 rw[z]at D;obtain⟨k,Al⟩:∃s,s=r.set st.length (.rows 0 1 (aP (vs++acp (N-(dI i.args).length) 0))):=⟨_,rfl⟩;rw[<-Al]at D;have l2:k.length=st.length+2:=by grind
 have Z:∀j,j≠st.length->k[j]?=r[j]?:=λj H=>by grind
 have M:k[st.length]?=some (.rows 0 1 (aP (vs++acp (N-(dI i.args).length) 0))):=by grind
 obtain⟨t,U⟩:∃s,s=k++[.rows 0 1 [[.ptr (st.length+1) 0 0 0]]]:=⟨_,rfl⟩;have o3:∀j,j<k.length->t[j]?=k[j]?:=λj H=>by grind
 have g3:t[k.length]?=some (.rows 0 1 [[.ptr (st.length+1) 0 0 0]]):=by grind
 have l3:t.length=st.length+3:=by grind
 have O:t[I.fq]?=some (.rows I.fv 1 (I.fl.reverse.map λf=>[AV.ptr f.1 0 0 0])):=by
  grind
 have ux:((I.fl.reverse.map λf=>[AV.ptr f.1 0 0 0]).length+1)*8<=cZ:=by simp[cZ];omega
 obtain⟨s4,V⟩:∃s,s=t.set I.fq (.rows (I.fv+1) 1 ((I.fl.reverse.map λf=>[AV.ptr f.1 0 0 0])++[[.ptr (st.length+1) 0 0 0]])):=⟨_,rfl⟩;have ap:=λL bx (w:L<=ah)=>amJ (ah:=L) (bx:=bx) g3 O ux (aeM w (h.low _ (by rw[h.lf];decide)));rw[<-V]at ap;have v:=λwl ah bx=>(adF (wl:=wl) (ah:=ah) (a:=st.length+1) (st:=k) (bx:=bx));rw[<-U]at v;have l4:s4.length=st.length+3:=by grind
 have o4:∀j,j≠I.fq->s4[j]?=t[j]?:=λj H=>by grind
 have T:I.p≠I.fq:=BH h.lp h.lf (by decide);have jf:∀j,j<st.length->j≠I.fq->s4[j]?=st[j]?:=λj H hq=>by rw[o4 _ hq,o3 _ (by omega),Z _ (by omega),o1 _ H]
 have Zv:=(o1 _ B.p).trans Y;have J:=(Z _ (by grind)).trans Zv;have Q:=(jf _ B.p T).trans Y;have K:k[st.length+1]?=some (.rows 0 4 [qG ⟨c,0,i.a,[]⟩ st.length]):=(Z _ (by omega)).trans G;have Iw:=h.low _ (show I.jO I.p≠.no by rw[h.lp];decide);have W:∀j,j≠I.p->∀y,(s4.set I.p y)[j]?=s4[j]?:=λj H y=>ad6 λq=>H q.symm;have wL:dL x cl ah { m with l:=⟨c,0,i.a,vs++acp (N-(dI i.args).length) 0⟩::m.l } { I with fv:=I.fv+1,fl:=(st.length+1,st.length)::I.fl,jO:=λj=>if j=st.length\/j=st.length+1 then .fr else I.jO j }
   (s4.set I.p (.rows 0 15 [iT x cl I.s I.iv I.g (.mu I.fq (I.fv+1)) I.mp m.e m.code (if m.out=[] then .aF else .mu I.o I.ov) m.aK])):=by
  have bp:=B.p;have bq:=B.fq;refine h.push (a:=st.length) (b:=st.length+1) (g:=⟨c,0,i.a,vs++acp (N-(dI i.args).length) 0⟩) (λj H n1 n2=>(W j n1 _).trans (jf j H n2)) (ad9 (by omega)) ?_ (Nat.le_refl _) (by omega) (by omega) ?_ ?_
  grind [ad9]
  rw[W _ (by omega),o4 _ (by omega),o3 _ (by omega)];exact K;rw[W _ (by omega),o4 _ (by omega),o3 _ (by omega)];exact M
 refine⟨_,{ I with fv:=I.fv+1,fl:=(st.length+1,st.length)::I.fl,jO:=λj=>if j=st.length\/j=st.length+1 then .fr else I.jO j },?_,λL w=>?_,rfl,wL⟩;simp[l4];refine aG (sf:=s62) rfl rfl rfl ?_;have C:¬(40:Int)<=(m.l.length:Int):=by omega
 simp[s62,ID.cells,hs,Y,hF,C5,C,iT,cut,R,en];have Fe:L<=I.p:=aeM w Iw;rw[gO];simp[cR,eR,cw,di,fZ.bM,kh,G,qG,cut,ea,D];refine⟨_,_,⟨rfl,rfl⟩,?_⟩;simp[G,qG,cut,bH,AV.cC,AV.ai,fz.cU,AV.cU,J,iT,v,ap L _ w,Q,Fe]
theorem ahC(h:dL x cl ah m I st)(g:mK i.args=true)(E:cJ i.args=true)(H:40<=m.l.length) :
  ∃st',st'.length=st.length/\(∀L,(aZ S).call 0 L 62 [.ptr I.p 0 0 0,.agg i.cells] st=some (.eY [],st'))/\dL x cl ah (fY m 6) I st':=by
 have j:=eA g;have K:=bT E j;have Y:=h.P;have o:=h.F;have n:=h.FR.len;have C:(40:Int)<=(m.l.length:Int):=by omega
 obtain⟨s,k,T,R,_⟩:=rD h 6;refine⟨s,k,λL=>?_,R⟩;refine aG (sf:=s62) rfl rfl rfl ?_;simp_all [s62,ID.cells,iT]
theorem UD{v:AV}(h:cJ v=true)(a b:Nat):cJ (rR v a b)=true:=by cases v<;>simp_all [cJ,rR]
theorem OW(h:dL x cl ah m I st)(e:m.l=f::l)(M:m.l.length<=1000)(N:mK i.args=true)(E:cJ i.args=true)(K:pe f.vs.length i.a) :
  ∃st' t,st'.length=st.length/\(∀q,(aZ S).call 0 q 63 [.ptr I.p 0 0 0,.agg i.cells] st=some (.eY [],st'))/\t.p=I.p/\dL x cl ah (qC m i.a) t st':=by
 have B:=eA N;have kh:=bT E B;have J:=h.P;obtain⟨V,W,Y⟩:=h.iv;have U:=eA V;have C:=DF V;have G:=bT W U;have gl:=cY V;cases w:m.fm with
 |nil=>
  obtain⟨j,L,T,R,_⟩:=rD h 5;have v:dI I.iv=[]:=by rw[Y,w]
  have tC:List.take st.length j=j:=aea (by omega);refine⟨j,I,L,λq=>?_,rfl,by grind [qC]⟩;refine aG (sf:=s63) rfl rfl rfl ?_;simp_all [s63,ID.cells,iT]
 |cons n r=>
  obtain⟨j,L,T,R⟩:=sE h e M i.a n K;have v:dI I.iv=n::r:=by rw[Y,w]
  have H:=R.P;have em:qC m i.a={ gj m i.a n with fm:=r }:=by
   grind [qC,gj]
  have O:cJ (rR I.iv 1 (r.length+1))=true:=UD W _ _;have o:dI (rR I.iv 1 (r.length+1))=r:=by simp_all
  have k:bf (rR I.iv 1 (r.length+1))=true:=aaD U;have Z:=bT O k;have se:(gj m i.a n).s=m.s/\(gj m i.a n).g=m.g/\(gj m i.a n).out=m.out/\(gj m i.a n).e=m.e/\(gj m i.a n).code=m.code/\(gj m i.a n).aK=m.aK:=by
   simp_all [gj]
  have z:=R.aI { gj m i.a n with fm:=r } (rR I.iv 1 (r.length+1)) rfl rfl rfl rfl ⟨Nn V,O,o⟩;rw[<-em]at z;have Q:∀y,List.take st.length (j.set I.p y)=j.set I.p y:=λy=>aea (by simp;omega);refine⟨_,_,?_,λq=>?_,?_,z⟩;simp[L];refine aG (sf:=s63) rfl rfl rfl ?_;have D:¬((r.length:Int)+1=0):=by omega
  have F:(1:Int)<=(r.length:Int)+1:=by omega
  have sK:=eC k;simp[s63,ID.cells,B,J,H,iT,cut,U,C,G,gl,v,aP,D,F,aD,aC,T,Q,k,bu,AV.aB,ay,em]
  rfl
end ur
namespace ur
open Ax Go aO dh iq
variable {x:XD}{cl:AV}{ah:Nat}{m:Ms}{I:uF}{st st':aj}{f:Fr}{l:List Fr}{i:ID}
theorem ahD{ah:Nat}{n:Int}{st:aj}{bx:bK}:bz 0 ah (.jH 1 8) [.val .aF,.val (.dV 1 [[.int .i64 n]])] st bx=some (.val (.mu st.length 0),st++[.rows 0 1 (aP [n])],bx):=by
 simp[bz,tR,dG,fA,cr,cZ,aP]
theorem amK{ah q v:Nat}{n:Int}{jf:List Int}{st:aj}{bx:bK}(H:st[q]?=some (.rows v 1 (aP jf)))(h:(jf.length+1)*8<=cZ) :
  bz 0 ah (.jH 1 8) [.val (.mu q v),.val (.dV 1 [[.int .i64 n]])] st bx=some (.val (.mu q (v+1)),st.set q (.rows (v+1) 1 (aP (jf++[n]))),bx):=by
 simp[bz,tR,dG,fA,H,cr,h,AV.aB,AV.aH]
theorem Y2(h:dL x cl ah m I st)(e:m.l=f::l)(R:m.l.length<=1000)(T:mK i.args=true)(K:cJ i.args=true)(Q:pe f.vs.length i.a)(ho:m.out.length<1000000) :
  ∃st' C,st.length<=st'.length/\(∀L,L<=ah->(aZ S).call 0 L 64 [.ptr I.p 0 0 0,.agg i.cells] st=some (.eY [],st'))/\C.p=I.p/\dL x cl ah { m with out:=m.out++[dQ f.vs i.a] } C st':=by
 have v:=eA T;have kh:=bT K v;have Y:=h.P;have B:=h.RN;have v1:=λwl L=>yR wl L h e R i.a Q;have D:=h.low _ (show I.jO I.p≠.no by rw[h.lp];decide);by_cases q:m.out=[];have k:=Y;rw[af q]at k;obtain⟨r,Z⟩:∃s,s=st++[.rows 0 1 (aP [dQ f.vs i.a])]:=⟨_,rfl⟩;have ap:=λL bx=>ahD (ah:=L) (n:=dQ f.vs i.a) (st:=st) (bx:=bx);rw[<-Z]at ap;have V:r[I.p]?=st[I.p]?:=by rw[Z];exact acJ B.p
 have z:=V.trans k;have y:r.length=st.length+1:=by rw[Z];simp
 have G:r[st.length]?=some (.rows 0 1 (aP [dQ f.vs i.a])):=by rw[Z];simp
 have J:=B.p;have t:=h.Fa (st':=r.set I.p (.rows 0 15 [iT x cl I.s I.iv I.g (.mu I.fq I.fv) I.mp m.e m.code (.mu st.length 0) m.aK])) (o:=st.length) (ov:=0) (out:=m.out++[dQ f.vs i.a]) (by simp) (.inr (Nat.le_refl _))
  (λj E N _=>by rw[ad6 λq=>N q.symm,Z];exact acJ E) (ad9 (by omega)) (by rw[ad6 (by omega),G,q];rfl)
 refine⟨_,_,?_,λL w=>?_,?_,t⟩;simp[y];refine aG (sf:=s64) rfl rfl rfl ?_;have F:L<=I.p:=aeM w D;simp[s64,ID.cells,v];rw[gO];simp[-yz,-rQ,cR,eR,cw,bu,di,fZ.bM,k,iT,cut,v1,ap,z,F,ay];refine⟨_,_,⟨rfl,rfl⟩,?_⟩;simp[k,iT,cut,bH,AV.cC,AV.ai,fz.cU,AV.cU]
 rfl
 have k:=Y;rw[U q]at k;have M:=h.O q;obtain⟨r,Z⟩:∃s,s=st.set I.o (.rows (I.ov+1) 1 (aP (m.out++[dQ f.vs i.a]))):=⟨_,rfl⟩;have ap:=λL bx=>amK (ah:=L) (n:=dQ f.vs i.a) (bx:=bx) M (by unfold cZ;omega);rw[<-Z]at ap;have H:I.o≠I.p:=BH (h.lo q) h.lp (by decide);have V:r[I.p]?=st[I.p]?:=by rw[Z];exact ad6 H
 have z:=V.trans k;have y:r.length=st.length:=by rw[Z];simp
 have G:r[I.o]?=some (.rows (I.ov+1) 1 (aP (m.out++[dQ f.vs i.a]))):=by rw[Z];exact ad9 (B.o q)
 have J:=B.p;have t:=h.Fa (st':=r.set I.p (.rows 0 15 [iT x cl I.s I.iv I.g (.mu I.fq I.fv) I.mp m.e m.code (.mu I.o (I.ov+1)) m.aK])) (o:=I.o) (ov:=I.ov+1) (out:=m.out++[dQ f.vs i.a]) (by simp) (.inl ⟨q,rfl⟩)
  (λj E N W=>by rw[ad6 λq=>N q.symm,Z];exact ad6 λc=>W q c.symm) (ad9 (by omega)) (by rw[ad6 H.symm,G])
 refine⟨_,_,?_,λL w=>?_,?_,t⟩;simp[y];refine aG (sf:=s64) rfl rfl rfl ?_;have F:L<=I.p:=aeM w D;simp[s64,ID.cells,v];rw[gO];simp[-yz,-rQ,cR,eR,cw,bu,di,fZ.bM,k,iT,cut,v1,ap,z,F,ay];refine⟨_,_,⟨rfl,rfl⟩,?_⟩;simp[k,iT,cut,bH,AV.cC,AV.ai,fz.cU,AV.cU]
 rfl
end ur
namespace ur
open Ax Go aO dh iq
variable {x:XD}{cl:AV}{ah:Nat}{m:Ms}{I:uF}{st st':aj}{f:Fr}{l:List Fr}{i:ID}
def q0(m:Ms)(I:uF):Nat:=if m.s=[] then I.s else I.q
theorem dL.S0(h:dL x cl ah m I st):wT.Rp st I.s m.s (q0 m I) I.v I.fP:=by
 unfold q0;by_cases e:m.s=[];rw[af e];have:=h.S;exact⟨this.len,by rw[this.bO,af e,af e],λc=>au e c,this.el,λc=>au e c,this.pn,λc=>au e c,this.nd⟩;rw[U e];exact h.S
theorem dL.OY(h:dL x cl ah m I st):I.jO (q0 m I)=.st:=by
 unfold q0;by_cases e:m.s=[];rw[af e];exact h.ls;rw[U e];exact h.lq e
def I2(I:uF)(n q v:Nat):uF:={ I with q:=q,v:=v,fP:=I.fP++[n],jO:=λj=>if n<=j then .st else I.jO j }
theorem dL.alloc(h:dL x cl ah m I st){w:List Int}{q v:Nat}(r:wT.Rp st' I.s (m.s++[w]) q v (I.fP++[st.length]))(fr:wT.Fr st st' [I.s,q0 m I])(n:m.s≠[]->q=q0 m I)(t:m.s=[]->st.length<=q) :
  dL x cl ah { m with s:=m.s++[w] } (I2 I st.length q v) st':=by
 have B:=h.RN;have o:ah<=st.length:=by
  have:=h.low I.p (by rw[h.lp];decide);have:=B.p;omega
 refine h.adD r (λj H k=>fr.2 j H λg=>?_) (λj H=>U (by omega)) (λ_=>?_) (λj H=>?_) (λj H=>?_);simp only[aev,List.not_mem_nil,or_false]at g;rcases g with rfl|rfl;exact k h.ls;exact k h.OY;show (if st.length<=q then Lb.st else I.jO q)=.st;by_cases e:m.s=[]
 grind
 have:=n e;split
 rfl
 rw[this];exact h.OY;show (if st.length<=j then Lb.st else I.jO j)=.st;rcases List.mem_append.1 H with H|H;rw[U (by have:=B.fP j H;omega)];exact h.li j H
 grind
 by_cases q:st.length<=j;omega;rw[U q]at H;exact h.low j H
theorem F0(h:dL x cl ah m I st)(e:m.l=f::l)(z:m.l.length<=1000)(w:m.s.length<1000000)(B:mK i.args=true)(E:cJ i.args=true)(y:pe f.vs.length i.a){cells:List Int}(o:cl=cq 1 (aP cells)){k:Nat}(D:i.n=k)(j:k<cells.length) :
  ∃st' t,st.length<=st'.length/\(∀L,L<=ah->(aZ S).call 0 L 60 [.ptr I.p 0 0 0,.agg i.cells] st=some (.eY [],st'))/\t.p=I.p/\
   dL x cl ah (gj { m with s:=m.s++[acp (kU cells[k]) 0] } i.a ((m.s.length:Int)+1)) t st':=by
 have H:=eA B;have U:=bT E H;obtain⟨K,q1,v1,T,R,F,q,v⟩:=wT.Uy h.S0 cells[k] w;have r:=h.alloc R F q (λe=>(v e).1);obtain⟨g,V,M,J⟩:=sE r e z i.a ((m.s.length:Int)+1) y;have Y:=h.P;have O:=h.low _ (show I.jO I.s≠.no by rw[h.ls];decide);have C:=h.low _ (show I.jO (q0 m I)≠.no by rw[h.OY];decide);have G:cl.ai=.dV 1 (aP cells):=by
  rw[o];cases cells with
  |nil=>simp at j|cons a b=>rfl
 refine⟨g,_,by have:=F.1;omega,λL Q=>?_,?_,J⟩;refine aG (sf:=s60) rfl rfl rfl ?_;have N:=T L (by omega) (by omega);have Z:∀L,(aZ S).call 0 L 107 [.ptr I.p 0 0 0,.int .i64 i.a,.int .i64 ((m.s.length:Int)+1)] K=some (.eY [],g):=M;simp[s60,ID.cells,H,Y,iT,cut,G,D,j,N,Z,aD,aC]
 rfl
theorem adG(h:dL x cl ah m I st)(e:m.l=f::l)(j:m.l.length<=1000)(t:mK i.args=true)(E:cJ i.args=true)(q:pe f.vs.length i.a)(r:pe f.vs.length i.b)(v:dQ f.vs i.b<0\/50<dQ f.vs i.b) :
  ∃st',st.length<=st'.length/\(∀L,(aZ S).call 0 L 61 [.ptr I.p 0 0 0,.agg i.cells] st=some (.eY [],st'))/\dL x cl ah (fY m 4) I st':=by
 have k:=eA t;have K:=bT E k;have H:=h.dO [.rows 0 1 [[.ptr I.p 0 0 0]],.rows 0 1 [[.int .i64 i.a]]];obtain⟨y,z,T,R⟩:=Cy H e j i.a 0 4 q (b1:=st.length) (b2:=st.length+1) (by simp) (by simp);have v1:=λw L=>yR w L H e j i.b r;have G:=λw L=>sI w L I.p i.a st;have n:=λw L st=>wT.Uz (p:=I.s) w L (dQ f.vs i.b) st v;have Y:=H.P;have g:=h.P;have o:=R.P;have O:mG m i.a (0,4)=fY m 4:=rfl;rw[O]at R;refine⟨y,by grind,λL=>?_,R⟩;refine aG (sf:=s61) rfl rfl rfl ?_;simp[s61,ID.cells,k];rw[gO];simp[cR,eR,cw,di,fZ.bM,G,Y,iT,cut,v1,n,T];refine⟨_,_,⟨rfl,rfl⟩,?_⟩;simp[g,Y,iT,cut,bH,AV.cC,AV.ai,fz.cU,AV.cU]
theorem KI(h:dL x cl ah m I st)(e:m.l=f::l)(o:m.l.length<=1000)(O:m.s.length<1000000)(hi:mK i.args=true)(J:cJ i.args=true)(Q:pe f.vs.length i.a)(T:pe f.vs.length i.b){n:Nat}(hn:dQ f.vs i.b=n)(V:n<=50) :
  ∃st' t,st.length<=st'.length/\(∀L,L<=ah->(aZ S).call 0 L 61 [.ptr I.p 0 0 0,.agg i.cells] st=some (.eY [],st'))/\t.p=I.p/\
   dL x cl ah (gj { m with s:=m.s++[acp n 0] } i.a ((m.s.length:Int)+1)) t st':=by
 have v:=eA hi;have kh:=bT J v;have H:=h.dO [.rows 0 1 [[.ptr I.p 0 0 0]],.rows 0 1 [[.int .i64 i.a]]];have v1:=λw L=>yR w L H e o i.b T;rw[hn]at v1;have N:=λw L=>sI w L I.p i.a st;have K:(st++[dJ.rows 0 1 [[.ptr I.p 0 0 0]],.rows 0 1 [[.int .i64 i.a]]])[st.length]?=some (.rows 0 1 [[.ptr I.p 0 0 0]]):=by simp
 have M:(st++[dJ.rows 0 1 [[.ptr I.p 0 0 0]],.rows 0 1 [[.int .i64 i.a]]])[st.length+1]?=some (.rows 0 1 [[.int .i64 i.a]]):=by simp
 have Y:=H.P;have j:=h.P;have B:=h.RN;have lA:(st++[dJ.rows 0 1 [[.ptr I.p 0 0 0]],.rows 0 1 [[.int .i64 i.a]]]).length=st.length+2:=by simp
 generalize hs0:st++[dJ.rows 0 1 [[.ptr I.p 0 0 0]],.rows 0 1 [[.int .i64 i.a]]]=y at *;obtain⟨k,q1,W,t1,r1,F,D,E⟩:=wT.UA H.S0 n O V;have R:=H.alloc r1 F D (λe=>(E e).1);have bs:=B.s;have ls0:q0 m I<st.length:=by
  unfold q0;split;exact B.s;rename_i c;exact B.q c
 have g:k[st.length]?=some (.rows 0 1 [[.ptr I.p 0 0 0]]):=by
  rw[F.2 _ (by omega) (by simp;omega)];exact K
 have G:k[st.length+1]?=some (.rows 0 1 [[.int .i64 i.a]]):=by
  rw[F.2 _ (by omega) (by simp;omega)];exact M
 obtain⟨z,l2,t2,r⟩:=Cy R e o i.a ((m.s.length:Int)+1) 0 Q g G;have t4:∀L,(aZ S).call 0 L 142 [.int .i64 ((m.s.length:Int)+1),.int .i64 0,.ptr st.length 0 0 0,.ptr (st.length+1) 0 0 0] k=some (.eY [],z):=t2;have Z:mG { m with s:=m.s++[acp n 0] } i.a ((m.s.length:Int)+1,0)=gj { m with s:=m.s++[acp n 0] } i.a ((m.s.length:Int)+1):=by unfold mG;grind
 rw[Z]at r;have Iw:=h.low _ (show I.jO I.s≠.no by rw[h.ls];decide);have hlq:=h.low _ (show I.jO (q0 m I)≠.no by rw[h.OY];decide);have U:=r.P;have yU:(I2 I y.length q1 W).p=I.p:=rfl;have C:(I2 I y.length q1 W).s=I.s:=rfl;rw[yU,C]at U;refine⟨z,_,by grind,λL LF=>?_,?_,r⟩;have t3:=t1 L (by omega) (by omega);refine aG (sf:=s61) rfl rfl rfl ?_;simp[s61,ID.cells,v];rw[gO];simp[cR,eR,cw,di,fZ.bM,N,Y,iT,cut,v1,t3,t4];refine⟨_,_,⟨rfl,rfl⟩,?_⟩;simp[j,Y,iT,cut,bH,AV.cC,AV.ai,fz.cU,AV.cU]
 rfl
end ur
namespace ur
open Ax Go aO dh iq
variable {x:XD}{cl:AV}{ah:Nat}{m:Ms}{I:uF}{st st':aj}{f:Fr}{l:List Fr}{i:ID}
theorem arP{ah q v n:Nat}{jf:List (List AV)}{st:aj}{bx:bK}(h:st[q]?=some (.rows v 1 jf))(g:n<=jf.length) :
  bz 0 ah (.vF 1) [.val (.mu q v),.val (.int .i64 n)] st bx=some (.val (.mu q (v+1)),st.set q (.rows (v+1) 1 (jf.take n)),bx):=by
 simp_all
theorem UE(h:dL x cl ah m I st)(e:m.l=f::l)(hd:m.l.length<=1000)(hi:mK i.args=true)(ee:cJ i.args=true)(ha:i.a = -1\/pe f.vs.length i.a)
  (hto:f.to = -1\/∀g l',l=g::l'->pe g.vs.length f.to) :
  ∃st' I',st'.length=st.length/\(∀L,L<=ah->(aZ S).call 0 L 67 [.ptr I.p 0 0 0,.agg i.cells] st=some (.eY [],st'))/\I'.p=I.p/\dL x cl ah (fT m (if i.a<0 then 0 else dQ f.vs i.a)) I' st':=by
 have v:=eA hi;have kh:=bT ee v;have Y:=h.P;have B:=h.RN;obtain⟨a,b,vg,h1,h2,h3,h4,Q,h6,h7⟩:=h.Zu e;have w:=λW L=>Gn W L h vg hd;obtain⟨R,H,E,hg,hb,hRe⟩:=h.fl vg hd;have W3:b.length=l.length:=h3.len;have hw:IntKind.i64.wrap (b.length:Int)=(b.length:Int):=by rw[dY]<;>omega
 have hpf:I.p≠I.fq:=BH h.lp h.lf (by decide);have sl:=λL bx=>arP (ah:=L) (bx:=bx) (n:=b.length) H (by simp;omega);have axw:(R++[[AV.ptr a.1 0 0 0]]).take b.length=R:=by grind
 rw[axw]at sl;obtain⟨k,vk⟩:∃s,s=st.set I.fq (.rows (I.fv+1) 1 R):=⟨_,rfl⟩;rw[<-vk]at sl;have l1:k.length=st.length:=by grind
 have z:k[I.p]?=some (.rows 0 15 [iT x cl I.s I.iv I.g (.mu I.fq I.fv) I.mp m.e m.code (if m.out=[] then .aF else .mu I.o I.ov) m.aK]):=by grind
 have g1F:k[I.fq]?=some (.rows (I.fv+1) 1 R):=by grind
 have o1:∀j,j≠I.fq->k[j]?=st[j]?:=λj hj=>by grind
 have bp:=B.p;have t:∀y,(k.set I.p y)[I.p]?=some y:=λy=>ad9 (by omega);have O:∀y j,j≠I.p->(k.set I.p y)[j]?=k[j]?:=λy j hj=>ad6 λq=>hj q.symm;have G:∀y,(k.set I.p y)[I.fq]?=some (.rows (I.fv+1) 1 R):=λy=>(O y _ hpf.symm).trans g1F;have M:=h.pop (st':=k.set I.p (.rows 0 15 [iT x cl I.s I.iv I.g (.mu I.fq (I.fv+1)) I.mp m.e m.code (if m.out=[] then .aF else .mu I.o I.ov) m.aK])) e vg
  (λj n1 n2=>(O _ j n1).trans (o1 j n2)) (t _) (by rw[G,hRe])
 have l2:(k.set I.p (.rows 0 15 [iT x cl I.s I.iv I.g (.mu I.fq (I.fv+1)) I.mp m.e m.code (if m.out=[] then .aF else .mu I.o I.ov) m.aK])).length=st.length:=by simp[l1]
 have v1:0<=i.a->∀W L,(aZ S).call W L 108 [.ptr I.p 0 0 0,.int .i64 i.a] st=some (.int .i64 (dQ f.vs i.a),st):=λc W L=>yR W L h e hd i.a (by grind);have gfr:(k.set I.p (.rows 0 15 [iT x cl I.s I.iv I.g (.mu I.fq (I.fv+1)) I.mp m.e m.code (if m.out=[] then .aF else .mu I.o I.ov) m.aK]))[a.1]?=some (.rows 0 4 [qG f a.2]):=by
  rw[O _ _ (BH Q h.lp (by decide)),o1 _ (BH Q h.lf (by decide))];exact h1
 have Iw:=h.low _ (show I.jO I.p≠.no by rw[h.lp];decide);have bP:(b.length:Int)<(b.length:Int)+1:=by omega
 cases T:l with
 |nil=>
  have hb0:b.length=0:=by grind
  have hR0:R=[]:=List.eq_nil_of_length_eq_zero (by omega);have em:fT m (if i.a<0 then 0 else dQ f.vs i.a)={ m with l:=[],e:=1 }:=by unfold fT;rw[e,T]
  rw[T]at M;have R3:=M.aI { m with l:=[],e:=1 } I.iv rfl rfl rfl rfl h.iv;refine⟨_,_,?_,λL D=>?_,?_,by rw[em];exact R3⟩;simp[l1]
  skip
  subst hR0;rw[hb0]at sl;have K:∀L bx,bz 0 L (.vF 1) [.val (.mu I.fq I.fv),.val (.int .i64 0)] st bx=some (.val (.mu I.fq (I.fv+1)),k,bx):=sl;have J:IntKind.i64.wrap 0=0:=by grind
  simp at H;refine aG (sf:=s67) rfl rfl rfl ?_;have F:L<=I.p:=aeM D Iw;by_cases c:i.a<0;have C:¬0<=i.a:=by omega
  simp[-yy,s67,ID.cells,v,w,C,Y,H,iT,cut,aD,aC,K,J,z,t,G,bu,AV.aB,AV.aH,ay,F];have C:0<=i.a:=by omega
  have V:=v1 C;simp[-yy,s67,ID.cells,v,w,C,V,Y,H,iT,cut,aD,aC,K,J,z,t,G,bu,AV.aB,AV.aH,ay,F]
  rfl
 |cons g l'=>
  have hbn:¬((b.length:Int)=0):=by
   grind
  have r:¬b=[]:=λc=>hbn (by rw[c];rfl);have N:∀y,(k.set I.p y)[a.1]?=some (.rows 0 4 [qG f a.2]):=λy=>by
   rw[O _ _ (BH Q h.lp (by decide)),o1 _ (BH Q h.lf (by decide))];exact h1
  have em:fT m (if i.a<0 then 0 else dQ f.vs i.a)=if 0<=f.to then gj { m with l:=l } f.to (if i.a<0 then 0 else dQ f.vs i.a) else { m with l:=l }:=by
   unfold fT gj;rw[e,T];by_cases q:0<=f.to;all_goals grind
  have hd2:({ m with l:=l }:Ms).l.length<=1000:=by
   grind
  have hlr:(R++[[AV.ptr a.1 0 0 0]]).length=b.length+1:=by simp[E]
  by_cases q:0<=f.to
  ·rw[af q]at em;have Ld:pe g.vs.length f.to:=by
    rcases hto with c|c;all_goals grind
   obtain⟨s3,l3,t3,r3⟩:=sE M (f:=g) (l:=l') T hd2 f.to (if i.a<0 then 0 else dQ f.vs i.a) Ld;rw[l2]at l3;refine⟨s3,_,l3,λL D=>?_,?_,by rw[em];exact r3⟩
   skip
   have Z:∀L,(aZ S).call 0 L 107 [.ptr I.p 0 0 0,.int .i64 f.to,.int .i64 (if i.a<0 then 0 else dQ f.vs i.a)] _=some (.eY [],s3):=t3;simp only[iT]at Z;refine aG (sf:=s67) rfl rfl rfl ?_;have F:L<=I.p:=aeM D Iw;by_cases c:i.a<0;have C:¬0<=i.a:=(by omega);simp only[af c]at Z;simp[-yy,s67,ID.cells,v,w,C,Y,H,E,hw,r,iT,qG,cut,aD,aC,sl,z,t,G,N,q,Z,bu,AV.aB,AV.aH,ay,F];have C:0<=i.a:=(by omega);have V:=v1 C;simp only[U c]at Z;simp[-yy,s67,ID.cells,v,w,C,V,Y,H,E,hw,r,iT,qG,cut,aD,aC,sl,z,t,G,N,q,Z,bu,AV.aB,AV.aH,ay,F]
   rfl
  rw[U q]at em;refine⟨_,_,l2,λL D=>?_,?_,by rw[em];exact M⟩
  skip
  refine aG (sf:=s67) rfl rfl rfl ?_;have F:L<=I.p:=aeM D Iw;by_cases c:i.a<0;have C:¬0<=i.a:=by omega
  simp[-yy,s67,ID.cells,v,w,C,Y,H,E,hw,r,iT,qG,cut,aD,aC,sl,z,t,G,N,q,bu,AV.aB,AV.aH,ay,F];have C:0<=i.a:=by omega
  have V:=v1 C;simp[-yy,s67,ID.cells,v,w,C,V,Y,H,E,hw,r,iT,qG,cut,aD,aC,sl,z,t,G,N,q,bu,AV.aB,AV.aH,ay,F]
  rfl
end ur
namespace ur
open Ax Go aO dh iq
variable {x:XD}{cl:AV}{ah:Nat}{m:Ms}{I:uF}{st st':aj}{f:Fr}{l:List Fr}{i:ID}{X:MP}
structure Of (x:XD)(cl:AV)(X:MP):Prop where
 ok:x.ok
 aR:X.aR=iI x.aR
 cl:cl=cq 1 (aP (X.cells.map λn:Nat=>(n:Int)))
 vars:∀c∈iI x.aR,(dn c.vars).length<1000000
theorem Of.nv(h:Of x cl X){c:Nat}(H:c<(iI x.aR).length):nt X c=(dn (iI x.aR)[c].vars).length:=by
 unfold nt;rw[h.aR,List.getD_eq_getElem?_getD,List.getElem?_eq_getElem H]
 rfl
def Did(x:XD)(cl:AV)(ah:Nat)(U:Ms)(I:uF)(st:aj)(fn:Nat)(i:ID):Prop:=
 ∃st' t,st.length<=st'.length/\(∀L,L<=ah->(aZ S).call 0 L fn [.ptr I.p 0 0 0,.agg i.cells] st=some (.eY [],st'))/\t.p=I.p/\dL x cl ah U t st'
theorem Did.of{U:Ms}{fn:Nat}(h:∃st',st'.length=st.length/\(∀L,(aZ S).call 0 L fn [.ptr I.p 0 0 0,.agg i.cells] st=some (.eY [],st'))/\dL x cl ah U I st'):Did x cl ah U I st fn i:=by
 obtain⟨s,g,H,j⟩:=h;exact⟨s,I,by omega,λL _=>H L,rfl,j⟩
theorem arQ(O:Of x cl X)(h:dL x cl ah m I st)(e:m.l=f::l)(hd:m.l.length<=40)(w:m.s.length<1000000)(ho:m.out.length<1000000){ni:Nat}(y:Fit X f.vs.length ni i)(H:mK i.args=true)(E:cJ i.args=true)
  (hg:m.g.length=X.ng)(hto:f.to = -1\/∀g l',l=g::l'->pe g.vs.length f.to):Did x cl ah (pF X m f.vs i) I st (49+i.op.toNat) i:=by
 have R:m.l.length<=1000:=by omega
 have F:∀k:Nat,i.op=k->49+i.op.toNat=49+k:=λk hk=>by omega
 have j:=y.a;have t:=y.b;have Z:=y.c;unfold pF;by_cases N:i.op=1;rw[af N,F 1 N];exact .of (RO h e R H E (j (by omega) (by omega) (by omega)));rw[U N];by_cases P:i.op=2;rw[af P,F 2 P];exact .of (aht h e R H E (j (by omega) (by omega) (by omega)));rw[U P];by_cases Q:i.op=3;rw[af Q,F 3 Q];exact .of (YZ h e R H E (j (by omega) (by omega) (by omega)) (t (by omega)));rw[U Q];by_cases T:i.op=4;rw[af T,F 4 T];obtain⟨p,q,S,o⟩:=Ui h e R H E (j (by omega) (by omega) (by omega)) (t (by omega)) (Z (by omega));exact .of ⟨p,q,S,o⟩;rw[U T];by_cases V:i.op=5;rw[af V,F 5 V];exact .of (TB h e R H E (j (by omega) (by omega) (by omega)) (t (by omega)));rw[U V];by_cases W:i.op=6;rw[af W,F 6 W];exact .of (Aa h e R w H E (j (by omega) (by omega) (by omega)) (t (by omega)));rw[U W];by_cases Y:i.op=7;rw[af Y,F 7 Y];exact .of (ahx h e R w H E (j (by omega) (by omega) (by omega)) (t (by omega)));rw[U Y];by_cases h8:i.op=8;rw[af h8,F 8 h8];exact .of (ahw h e R w H E (j (by omega) (by omega) (by omega)) (t (by omega)) (Z (by omega)));rw[U h8];by_cases h9:i.op=9;rw[af h9,F 9 h9];exact .of (amI h e R w H E (j (by omega) (by omega) (by omega)) (t (by omega)) (Z (by omega)));rw[U h9];by_cases D:i.op=10;rw[af D,F 10 D];exact .of (Y0 h e R w H E (j (by omega) (by omega) (by omega)) (t (by omega)));rw[U D];by_cases z:i.op=11;rw[af z,F 11 z];obtain⟨b1,b2⟩:=y.Rb z;have hk:i.n.toNat<X.cells.length:=by omega
 obtain⟨p,r,q,S,o,v⟩:=F0 h e R w H E (j (by omega) (by omega) (by omega)) O.cl (k:=i.n.toNat) (by omega) (by grind);refine⟨p,r,q,S,o,?_⟩
 grind
 rw[U z];by_cases tP:i.op=12;rw[af tP,F 12 tP];have ha:=j (by omega) (by omega) (by omega);have hb:=t (by omega);by_cases c:dQ f.vs i.b<0\/50<dQ f.vs i.b;rw[af c];obtain⟨p,q,S,o⟩:=adG h e R H E ha hb c;exact⟨p,I,q,λli _=>S li,rfl,o⟩;rw[U c];obtain⟨p,r,q,S,o,v⟩:=KI h e R w H E ha hb (n:=(dQ f.vs i.b).toNat) (by omega) (by omega);exact⟨p,r,q,S,o,v⟩;rw[U tP];by_cases C:i.op=13;rw[af C,F 13 C];obtain⟨c1,c2,c3,c4⟩:=y.call C;unfold tJ;by_cases c:40<=m.l.length;rw[af c];exact .of (ahC h H E c);rw[U c];have hc:i.c.toNat<(iI x.aR).length:=by rw[<-O.aR];omega
 have hv:=O.vars _ (acH hc);have hnv:=O.nv hc;rw[hnv]at c3;obtain⟨p,r,q,S,o,v⟩:=xm O.ok h e hd H E (c:=i.c.toNat) (by omega) hc hv c4 c3 (by omega);refine⟨p,r,q,S,o,?_⟩
 grind [pE]
 rw[U C];by_cases K:i.op=14;rw[af K,F 14 K];obtain⟨p,r,q,S,o,v⟩:=OW h e R H E (j (by omega) (by omega) (by omega));exact⟨p,r,by omega,λli _=>S li,o,v⟩;rw[U K];by_cases G:i.op=15;rw[af G,F 15 G];exact Y2 h e R H E (j (by omega) (by omega) (by omega)) ho;rw[U G];by_cases J:i.op=16;rw[af J,F 16 J];exact .of (ahy h e R H E);rw[U J];by_cases L:i.op=17;rw[af L,F 17 L];exact .of (Y1 h e R H E (j (by omega) (by omega) (by omega)));rw[U L];by_cases B:i.op=18;rw[af B,F 18 B];obtain⟨p,r,q,S,o,v⟩:=UE h e R H E (y.a2 (.inr B)) hto;exact⟨p,r,by omega,S,o,v⟩;rw[U B];by_cases M:i.op=19;rw[af M,F 19 M];exact .of (amH h e R H E (j (by omega) (by omega) (by omega)) (by rw[hg];exact y.aha (by omega)));rw[U M];by_cases Gb:i.op=20;rw[af Gb,F 20 Gb];exact .of (xS h e R H E (j (by omega) (by omega) (by omega)) (by rw[hg];exact y.aha (by omega)));have:=y.op;omega
end ur
